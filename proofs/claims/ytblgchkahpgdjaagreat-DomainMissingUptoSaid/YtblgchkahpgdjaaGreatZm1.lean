/- What the claim rests on, part 1: the abstract machine, contracts of the functions, plain data. -/
import Derived.WalkKit
set_option linter.unusedVariables false
set_option linter.defProp false
set_option linter.unusedSimpArgs false
set_option linter.unusedSectionVars false
namespace Go.AM
def A4:=@trivial
def A7:=@if_neg
def AB:=@cond_true
def AG:=@Nat.le_refl
def AJ:=@cond_false
def AK:=@if_pos
def AO:=@if_true
def AP:=@if_false
def AV:=@Bool.and_eq_true
def Ax:=@Bool.not_true
def B5:=@Bool.false_and
def B7:=@Bool.true_and
def BA:=@Bool.and_false
def BB:=@eq_false
def BC:=@Option.some.injEq
def BD:=@Option.getD_some
def BQ:=@Bool.false_eq_true
def Ba:=@decide_eq_true_eq
def Bj:=@Nat.zero_le
def Bq:=@Option.map_some
def Bv:=@Option.getD_none
def C4:=@Prod.mk.injEq
def C7:=@Nat.zero_add
def CB:=@Bool.not_false
def CW:=@Int.le_refl
def CX:=@Int.toNat_one
def Cm:=@Bool.and_true
def Cr:=@Nat.lt_or_ge
def Cw:=@decide_eq_false_iff_not
def Cx:=@Bool.false_or
def DC:=@beq_self_eq_true
def DJ:=@Option.bind_some
def Da:=@Array.getD_eq_getD_getElem?
def Dh:=@Bool.true_or
def Di:=@eq_true
def Do:=@and_true
def Dp:=@Bool.or_true
def EH:=@Bool.or_eq_true
def EI:=@Bool.not_eq_true'
def ER:=@Nat.le_trans
def ES:=@not_true_eq_false
def ET:=@not_false_eq_true
def Ed:=@Array.length_toList
def F0:=@beq_iff_eq
def FF:=@or_false
def Fk:=@true_and
def GC:=@Nat.add_zero
def GD:=@Bool.or_false
def Ha:=@decide_eq_true
def I8:=@Nat.lt_of_lt_of_le
def I9:=@Array.mem_toList_iff
def IA:=@Nat.le_succ_of_le
def JB:=@Array.getElem?_eq_some_iff
def JC:=@Option.some.inj
def Jk:=@Nat.succ_mul
def Jl:=@Option.isSome_iff_exists
def KU:=@and_assoc
def KV:=@and_self
def KW:=@Decidable.not_not
def LN:=@Nat.add_mul
def LO:=@Nat.mul_le_mul_right
def LP:=@Option.map_eq_some_iff
def LQ:=@congrArg
def LR:=@of_decide_eq_true
def LS:=@Bool.and_self
def LU:=@Nat.sub_self
def MQ:=@Array.getElem?_setIfInBounds_ne
def MR:=@Array.getElem?_toList
def MT:=@Int.toNat_natCast
def MU:=@Option.isSome_none
def NL:=@Array.getElem?_eq_getElem
def NM:=@beq_eq_false_iff_ne
def NN:=@decide_eq_false
def NO:=@Option.isSome_some
def Ov:=@Array.foldl_toList
def Ow:=@Option.map_none
def Ox:=@Array.all_eq_true_iff_forall_mem
def Oy:=@decide_eq_decide
def Oz:=@Nat.le_succ
def P0:=@ne_of_beq_false
def Qg:=@Nat.add_assoc
def Qh:=@Array.getElem?_replicate
def Qi:=@decide_false
def Qj:=@Int.natCast_zero
def Qk:=@UInt8.toNat_inj
def TN:=@Nat.testBit_or
def TO:=@Nat.le_add_right
def TP:=@decide_true
def TQ:=@Bool.or_eq_false_iff
def TR:=@Bool.and_eq_false_iff
def TS:=@Int.natCast_one
def TT:=@of_decide_eq_false
def TU:=@Nat.add_comm
def Yo:=@Option.eq_some_of_isSome
def Yp:=@Bool.not_eq_false
def Yq:=@Array.mem_append
def Yr:=@Nat.lt_trans
def Ys:=@Nat.lt_trichotomy
def Yt:=@Array.getElem?_setIfInBounds_self_of_lt
def Yu:=@Bool.eq_iff_iff
def Yv:=@Nat.lt_irrefl
def Yw:=@Bool.not_eq_true
def Yx:=@ByteArray.data_extract
def Yy:=@Option.toList_some
def Yz:=@Bool.or_comm
def pL:=@Nat.le_mul_of_pos_right
def pM:=@Array.toList_zipIdx
def pN:=@Array.mem_of_getElem?
def pO:=@Nat.mul_le_mul_left
def pP:=@Array.getElem?_append_left
def pQ:=@Array.toList_extract
def pR:=@Nat.add_sub_cancel_left
def pT:=@forall_exists_index
end Go.AM
namespace Go.AM
inductive PV where
 |sc(v:Value)
 |ptr(id i f:Nat)
 |Aj(cells:List PV)
 |own(id off len:Nat)
 |A1(z:Nat)(rows:List (List PV))
 |emp
 |mp(id:Nat)
 |agg(cells:List PV)
 |Al(vs:List PV)
 |fn(f:FuncId)(first caps:List PV)
 |ab(k:IntKind)(lo hi m r:Int)
inductive Am where
 |arr(z:Nat)(rows:List (List PV))
 |map(es:List (Value × PV))
 |Ih(g:Nat)(lo hi:Int)
structure A0 where
 next:Nat
 obj:Nat->Option Am
def A0.nil:A0:=⟨0,λ_=>none⟩
def A0.new(h:A0)(o:Am):A0:=⟨h.next+1,λi=>if i=h.next then some o else h.obj i⟩
def A0.set(h:A0)(id:Nat)(o:Am):A0:=⟨h.next,λi=>if i=id then some o else h.obj i⟩
def A0.kill(h:A0)(id:Nat):A0:=⟨h.next,λi=>if i=id then none else h.obj i⟩
def PV.cells:PV->List PV
 | .agg l=>l
 |p=>[p]
def Cs:PV->Bool
 | .sc v=>v.oneCell'
 | .agg _=>false
 | .Al _=>false
 |_=>true
abbrev AE:=Nat->PV
def Ci(s:AE)(d:Nat)(v:PV):AE:=λt=>if t=d then v else s t
def Ak(s:AE)(d:Option Nat)(v:PV):AE:=match d with|some d=>Ci s d v|none=>s
def Gi:Value->PV
 | .agg cs=>if cs.toList.all Value.oneCell'=true then .agg (cs.toList.map .sc)else .sc (.agg cs)
 |v=> .sc v
def A9(s:AE):Operand->PV
 | .tmp t=>s t
 | .const v=>Gi v
 | .global g=> .sc (.pointer (some ⟨g,0,none⟩))
 | .func f=> .sc (.func (.func f) #[] #[])
def kT(P:Program)(t:TypeId):Nat:=
 match P.underlying t with
 |some .bool=>1|some (.int _)=>2|some .string=>3|some (.pointer _)=>4|some (.slice _)=>5|some (.map _ _)=>6
 |some (.interface _)=>7|some (.struct _)=>8|some (.array _ _)=>9|some (.func _ _ _)=>10|some _=>11|none=>0
def JE(P:Program)(t:TypeId):Option IntKind:=match P.underlying t with|some (.int k)=>some k|_=>none
def CQ(P:Program)(t:TypeId):Option Nat:=match P.underlying t with|some _=>(P.info? t).map (·.size)|none=>none
def Dc(P:Program)(t:TypeId):Option (Nat × Nat):=match P.underlying t with|some (.slice e)=>(P.info? e).bind λi=>i.zero.bind λzv=>if zv.cells.size=i.size then some (i.size,i.bytes)else none|_=>none
def Kf(P:Program)(t:TypeId):Option (Nat × Nat):=match P.underlying t with|some (.array n e)=>(P.info? e).map λi=>(n,i.size)|_=>none
def NT(P:Program)(t:TypeId):Option (Nat × Nat × Bool):=match P.underlying t with|some (.array n e)=>(CQ P e).map λz=>(n,z,kT P e==8||kT P e==9)|_=>none
def DP(P:Program)(t:TypeId):Option (List Value):=(P.info? t).bind λi=>i.zero.bind λz=>if z.cells.toList.all Value.oneCell'=true then some z.cells.toList else none
def GQ(P:Program)(t:TypeId):Option (List Value):=match P.underlying t with|some (.slice e)=>DP P e|_=>none
def BT(P:Program)(t:TypeId)(f:Nat):Option (Nat × Nat × Bool):=
 match P.underlying t with
 |some (.struct fs)=>(fs[f]?).bind λf=>(CQ P f.type).map λn=>(f.offset,n,kT P f.type==8||kT P f.type==9)
 |_=>none
def Fy(P:Program)(t:TypeId):Option (List (Nat × Nat)):=
 match P.underlying t with
 |some (.struct fs)=>fs.toList.mapM λf=>(P.info? f.type).map λi=>(f.offset,i.size)
 |_=>none
def LZ(P:Program)(t:TypeId):Option Value:=(P.info? t).bind (·.zero)
def Jn(P:Program)(t:TypeId):Option (Nat × Value):=
 match P.underlying t with
 |some (.map k e)=>(LZ P e).map λz=>(kT P k,z)
 |_=>none
def Cj(P:Program)(t:TypeId):Bool:=kT P t==8||kT P t==9
def JF(ag:Bool)(n:Nat)(cs:List PV):Option PV:=
 if ag then(if n<=cs.length then some (.agg (cs.take n))else none)else cs.head?
def NU(k:IntKind)(a b:Int):Int:=k.wrap (BitVec.ofInt k.bits a&&&BitVec.ofInt k.bits b).toNat
def NV(k:IntKind)(a b:Int):Int:=k.wrap (BitVec.ofInt k.bits a|||BitVec.ofInt k.bits b).toNat
def NW(k:IntKind)(a b:Int):Int:=k.wrap (BitVec.ofInt k.bits a ^^^ BitVec.ofInt k.bits b).toNat
def NX(k:IntKind)(a b:Int):Int:=k.wrap (BitVec.ofInt k.bits a&&& ~~~ BitVec.ofInt k.bits b).toNat
def EA(op:BinOp)(k:IntKind)(a b:Int):Option Value:=
 match op with
 | .add=>some (.int k (k.wrap (a+b)))
 | .sub=>some (.int k (k.wrap (a-b)))
 | .mul=>some (.int k (k.wrap (a*b)))
 | .quo=>if b=0 then none else some (.int k (k.wrap (a.tdiv b)))
 | .rem=>if b=0 then none else some (.int k (a.tmod b))
 | .and=>some (.int k (NU k a b))
 | .or=>some (.int k (NV k a b))
 | .xor=>some (.int k (NW k a b))
 | .andNot=>some (.int k (NX k a b))
 | .eql=>some (.bool (a==b))
 | .neq=>some (.bool (a !=b))
 | .lss=>some (.bool (a<b))
 | .leq=>some (.bool (a<=b))
 | .gtr=>some (.bool (a>b))
 | .geq=>some (.bool (a>=b))
 |_=>none
def La(op:BinOp)(k:IntKind)(a b:Int):Option Value:=
 if b<0 then none else match op with
 | .shl=>some (.int k (k.wrap (a*2 ^ (min b.toNat k.bits))))
 | .shr=>some (.int k (a.fdiv (2 ^ (min b.toNat k.bits))))
 |_=>none
def IB(op:BinOp)(a b:ByteArray):Option Value:=
 match op with
 | .add=>if((a.size+b.size:Nat):Int)>IntKind.i64.max then none else some (.string (a++b))
 | .eql=>some (.bool (a.data.toList==b.data.toList))
 | .neq=>some (.bool !(a.data.toList==b.data.toList))
 | .lss=>some (.bool (Op.bytesLess a.data.toList b.data.toList))
 | .leq=>some (.bool (Op.bytesLess a.data.toList b.data.toList||a.data.toList==b.data.toList))
 | .gtr=>some (.bool !(Op.bytesLess a.data.toList b.data.toList||a.data.toList==b.data.toList))
 | .geq=>some (.bool !(Op.bytesLess a.data.toList b.data.toList))
 |_=>none
def Ij:BinOp->Bool
 | .shl| .shr=>true
 |_=>false
def Fl:Operand->Bool
 | .const _=>true
 |_=>false
def Ee(kt:Nat)(c:Bool)(x y:PV):Option Bool:=
 match x,y with
 | .sc (.bool a),.sc (.bool b)=>if kt=1 then some (a==b)else none
 | .sc .nilIface,.sc .nilIface=>if kt=7/\c=true then some true else none
 | .sc .nilIface,.sc (.iface _ _)=>if kt=7 then some false else none
 | .sc (.iface _ _),.sc .nilIface=>if kt=7 then some false else none
 | .sc (.pointer none),.sc (.pointer none)=>if kt=4 then some true else none
 | .ptr _ _ _,.sc (.pointer none)=>if kt=4 then some false else none
 | .sc (.pointer none),.ptr _ _ _=>if kt=4 then some false else none
 | .Aj _,.sc (.pointer none)=>if kt=4 then some false else none
 | .sc (.pointer none),.Aj _=>if kt=4 then some false else none
 | .mp _,.sc (.map none)=>if kt=6 then some false else none
 | .sc (.map none),.sc (.map none)=>if kt=6 then some true else none
 | .sc (.slice none 0 _),.sc (.slice none 0 0)=>if kt=5 then some true else none
 | .sc (.slice (some _) 0 _),.sc (.slice none 0 0)=>if kt=5 then some false else none
 | .A1 _ rows,.sc (.slice none 0 0)=>if kt=5/\0<rows.length then some false else none
 | .own _ _ len,.sc (.slice none 0 0)=>if kt=5/\0<len then some false else none
 |_,_=>none
def MW(op:BinOp)(lo hi c:Int):Option Bool:=
 match op with
 | .lss=>if hi<c then some true else if c<=lo then some false else none
 | .leq=>if hi<=c then some true else if c<lo then some false else none
 | .gtr=>if c<lo then some true else if hi<=c then some false else none
 | .geq=>if c<=lo then some true else if hi<c then some false else none
 | .eql=>if hi<c\/c<lo then some false else none
 | .neq=>if hi<c\/c<lo then some true else none
 |_=>none
def Qu:BinOp->BinOp
 | .lss=> .gtr
 | .leq=> .geq
 | .gtr=> .lss
 | .geq=> .leq
 |op=>op
def TY(op:BinOp)(k:IntKind)(lo hi m r:Int)(k':IntKind)(c:Int):Option PV:=
 if k=k' then(match op with
  | .rem=>if c=m/\0<m then some (.sc (.int k r))else none
  |op=>(MW op lo hi c).map λb=> .sc (.bool b))else none
def TZ(op:BinOp)(k:IntKind)(lo hi:Int)(k':IntKind)(c:Int):Option PV:=
 if k=k' then(MW (Qu op) lo hi c).map λb=> .sc (.bool b)else none
def Ik(op:BinOp)(kt:Nat)(c:Bool)(x y:PV):Option PV:=
 match x,y with
 | .sc (.int k a),.sc (.int k' b)=>(if Ij op then La op k a b else if k=k' then EA op k a b else none).map .sc
 | .sc (.string a),.sc (.string b)=>(IB op a b).map .sc
 | .ab k lo hi m r,.sc (.int k' b)=>TY op k lo hi m r k' b
 | .sc (.int k' b),.ab k lo hi _ _=>TZ op k lo hi k' b
 |x,y=>
  match op with
  | .eql=>(Ee kt c x y).map λb=> .sc (.bool b)
  | .neq=>(Ee kt c x y).map λb=> .sc (.bool !b)
  |_=>none
def P9(P:Program):Nat->List Field->Bool
 |_,[]=>true
 |i,f::fs=>decide (f.name≠ "_")&&f.offset==i&&kT P f.type==3&&P9 P (i+1) fs
def NY(P:Program)(t:TypeId):Option Nat:=match P.underlying t with
 |some (.struct fs)=>if P.stoodInHeld t=false/\P.eqGuardType P.depth t=false/\P9 P 0 fs.toList=true then some fs.size else none
 |_=>none
def Il:List PV->List PV->Option Bool
 |[],[]=>some true
 | .sc (.string a)::l,.sc (.string b)::m=>(Il l m).map λr=>(a.data.toList==b.data.toList)&&r
 |_,_=>none
def Kg(op:BinOp)(n:Option Nat)(x y:PV):Option PV:=
 match x,y with
 | .agg a,.agg b=>if n=some a.length then(match op with
  | .eql=>(Il a b).map λr=> .sc (.bool r)
  | .neq=>(Il a b).map λr=> .sc (.bool !r)
  |_=>none)else none
 |_,_=>none
def Lb(op:UnOp)(x:PV):Option PV:=
 match op,x with
 | .not,.sc (.bool b)=>some (.sc (.bool !b))
 | .neg,.sc (.int k n)=>some (.sc (.int k (k.wrap (0-n))))
 | .xor,.sc (.int k n)=>some (.sc (.int k (k.wrap (BitVec.ofInt k.bits (if k.signed then-1 else k.max) ^^^ BitVec.ofInt k.bits n).toNat)))
 |_,_=>none
def MX(ks kd:Option IntKind)(x:PV):Option PV:=
 match ks,kd,x with
 |some _,some k,.sc (.int _ n)=>some (.sc (.int k (k.wrap n)))
 |some _,some k,.ab _ lo hi m r=>if k= .i64/\ -9223372036854775808<=lo/\hi<=9223372036854775807 then some (.ab .i64 lo hi m r)else none
 |_,_,_=>none
def Lc(P:Program)(t:TypeId):Bool:=match P.underlying t with
 |some (.slice e)=>(match P.underlying e with|some (.int .u8)=>true|_=>false)
 |_=>false
def Ef(l:List UInt8):List (List PV):=l.map λb=>[.sc (.int .u8 b.toNat)]
def Im:List (List PV)->Option (List UInt8)
 |[]=>some []
 |[.sc (.int .u8 n)]::rest=>(Im rest).map (UInt8.ofNat n.toNat::·)
 |_=>none
theorem ZM(l:List UInt8):Im (Ef l)=some l:=by
 induction l with
 |nil=>rfl
 |cons b l ih=>simp only[Ef,List.map_cons,Im]at ih⊢;rw[ih];simp
def Gj(h:A0):PV->Option (List (List PV))
 | .A1 _ rows=>some rows
 | .emp=>some []
 | .sc (.slice none 0 0)=>some []
 | .sc (.slice _ 0 _)=>some []
 | .own id off len=>match h.obj id with
  |some (.arr _ rows)=>if off+len<=rows.length then some ((rows.drop off).take len)else none
  |_=>none
 |_=>none
def GF(h:A0):PV->Option Nat
 | .A1 _ rows=>some rows.length
 | .emp=>some 0
 | .sc (.slice none 0 0)=>some 0
 | .own _ _ len=>some len
 | .sc (.string s)=>some s.size
 | .sc (.map none)=>some 0
 | .mp id=>match h.obj id with|some (.map es)=>some es.length|_=>none
 |_=>none
def GR(k:Nat):PV->Bool
 | .A1 _ _=>k==5
 | .emp=>k==5
 | .own _ _ _=>k==5
 | .sc (.slice none 0 0)=>k==5
 | .sc (.string _)=>k==3
 | .sc (.map none)=>k==6
 | .mp _=>k==6
 |_=>false
def Gw:PV->Option Int
 | .sc (.int _ n)=>some n
 |_=>none
def Kh(h:A0)(z:Nat)(x:PV)(i:Int):Option PV:=
 if 0<=i then
  match x with
  | .A1 z' rows=>if z'=z then(rows[i.toNat]?).map .Aj else none
  | .own id off len=>match h.obj id with
   |some (.arr z' _)=>if z'=z/\i.toNat<len then some (.ptr id (off+i.toNat) 0)else none
   |_=>none
  |_=>none
 else none
def MY(n z:Nat)(x:PV)(i:Int):Option PV:=
 if 0<=i/\i<n then
  match x with
  | .ptr id r f=>some (.ptr id r (f+i.toNat*z))
  | .Aj cs=>if i.toNat*z+z<=cs.length then some (.Aj ((cs.drop (i.toNat*z)).take z))else none
  |_=>none
 else none
def MZ(off n:Nat):PV->Option PV
 | .ptr id i f=>if 0<n then some (.ptr id i (f+off))else none
 | .Aj cs=>if 0<n/\off+n<=cs.length then some (.Aj ((cs.drop off).take n))else none
 |_=>none
def rd(h:A0):PV->Option (List PV)
 | .ptr id i f=>match h.obj id with
  |some (.arr _ rows)=>(rows[i]?).map (·.drop f)
  |_=>none
 | .Aj cs=>some cs
 | .sc (.pointer (some ⟨g,0,none⟩))=>match h.obj g with
  |some (.Ih g' lo hi)=>if g'=g then some [.ab .i64 lo hi 1 0]else none
  |_=>none
 |_=>none
def Jo(r:List PV)(f:Nat)(vc:List PV):List PV:=r.take f++vc++r.drop (f+vc.length)
def wr(h:A0)(vc:List PV):PV->Option A0
 | .ptr id i f=>match h.obj id with
  |some (.arr z rows)=>match rows[i]? with
   |some r=>if f+vc.length<=r.length then some (h.set id (.arr z (rows.set i (Jo r f vc))))else none
   |none=>none
  |_=>none
 |_=>none
def F3(h:A0):PV->Option (A0 × List (List PV))
 | .emp=>some (h,[])
 | .sc (.slice none 0 0)=>some (h,[])
 | .own id off len=>match h.obj id with
  |some (.arr _ rows)=>if off+len<=rows.length then some (h.kill id,(rows.drop off).take len)else none
  |_=>none
 |_=>none
def Dx(h:A0)(z:Nat):PV->Bool
 | .A1 z' _=>z'==z
 | .own id _ _=>match h.obj id with|some (.arr z' _)=>z'==z|_=>false
 | .emp=>true
 | .sc (.slice none 0 0)=>true
 | .sc (.slice _ 0 _)=>true
 |_=>false
def Ld(z bytes:Nat)(h:A0)(x y:PV):Option (PV × A0):=
 if Dx h z x&&Dx h z y&&decide (0<z)&&decide (0<bytes)then
  match Gj h y,F3 h x with
  |some new,some (h',B1)=>if(B1.length+new.length)*bytes<=140737488355328 then some (.own h.next 0 (B1.length+new.length),h'.new (.arr z (B1++new)))else none
  |_,_=>none
 else none
def Ma(z:Nat)(x:PV)(h:A0)(lo hi:Option Int):Option PV:=
 match GF h x with
 |none=>none
 |some n=>
  let a:=lo.getD 0;let b:=hi.getD n
  if 0<=a/\a<=b/\b<=n/\Dx h z x=true then
   match x with
   | .A1 z rows=>some (.A1 z ((rows.drop a.toNat).take (b-a).toNat))
   | .own id off _=>match h.obj id with
    |some (.arr _ _)=>some (.own id (off+a.toNat) (b-a).toNat)
    |_=>none
   | .emp=>some .emp
   | .sc (.slice none 0 0)=>some (.sc (.slice none 0 0))
   |_=>none
  else none
def Mb(x:PV)(lo hi:Option Int):Option PV:=
 match x with
 | .sc (.string s)=>if 0<=lo.getD 0/\lo.getD 0<=hi.getD s.size/\hi.getD s.size<=s.size then some (.sc (.string (s.extract (lo.getD 0).toNat (hi.getD s.size).toNat)))else none
 |_=>none
def IC(place:Nat->Option (Nat × Nat))(cells:List PV):List (Nat × PV)->Option (List PV)
 |[]=>some cells
 |(i,v)::rest=>match place i with
  |none=>none
  |some (off,n)=>if v.cells.length=n/\off+n<=cells.length/\v.cells.all Cs=true then IC place (Jo cells off v.cells) rest else none
def Hf(z:Nat)(rows:List (List PV)):List (Nat × PV)->Option (List (List PV))
 |[]=>some rows
 |(i,v)::rest=>if v.cells.length=z/\i<rows.length/\v.cells.all Cs=true then Hf z (rows.set i v.cells) rest else none
def ID:Value->Value->Option Bool
 | .int k a,.int k' b=>if k=k' then some (a==b)else none
 | .string a,.string b=>some (a==b)
 | .bool a,.bool b=>some (a==b)
 |_,_=>none
def G6(kt:Nat):Value->Bool
 | .int _ _=>kt==2
 | .string _=>kt==3
 | .bool _=>kt==1
 |_=>false
def Hg(k:Value):List (Value × PV)->Option (Option PV)
 |[]=>some none
 |(k',v)::es=>match ID k k' with
  |some true=>some (some v)
  |some false=>Hg k es
  |none=>none
def IE(k:Value)(v:PV):List (Value × PV)->Option (List (Value × PV))
 |[]=>some [(k,v)]
 |(k',v')::es=>match ID k k' with
  |some true=>some ((k,v)::es)
  |some false=>(IE k v es).map ((k',v')::·)
  |none=>none
def Mc(h:A0):PV->Option (List (Value × PV))
 | .sc (.map none)=>some []
 | .mp id=>match h.obj id with|some (.map es)=>some es|_=>none
 |_=>none
def IF(s:Operand->PV):Option Operand->Option (Option Int)
 |none=>some none
 |some x=>(Gw (s x)).map some
def zB(n:Int):Bool:=decide (n=0)
def Jp(s:Operand->PV):Option Operand->Bool
 |some x=>match s x with| .sc (.int _ n)=>zB n|_=>false
 |none=>false
def Jq(ok:Bool)(z:Value):Option PV->PV
 |some v=>if ok then .Al [v,.sc (.bool true)]else v
 |none=>if ok then .Al [Gi z,.sc (.bool false)]else Gi z
def Ki:PV->Bool
 | .A1 _ _=>true
 | .own _ _ _=>true
 | .emp=>true
 | .sc (.slice none 0 0)=>true
 |_=>false
def PA(b c:Int):PV->Option PV
 | .own id off len=>if 0<=b/\b=c/\b<=len then some (.own id off b.toNat)else none
 |_=>none
def AZ(P:Program)(ow:Bool)(op:Op)(ρ:Operand->PV)(h:A0):Option (PV × A0):=
 match op with
 | .move x=>some (ρ x,h)
 | .assign x=>some (ρ x,h)
 | .pick c a b=>match ρ c with| .sc (.bool t)=>some (if t then ρ a else ρ b,h)|_=>none
 | .alloc t=>(DP P t).bind λz=>if 0<z.length then some (.ptr h.next 0 0,h.new (.arr z.length [z.map .sc]))else none
 | .box _ x=>if(ρ x).cells.all Cs=false then none else if ow then(if 0<(ρ x).cells.length then some (.ptr h.next 0 0,h.new (.arr (ρ x).cells.length [(ρ x).cells]))else none)else some (.Aj (ρ x).cells,h)
 | .build t parts=>
  if kT P t=8 then(DP P t).bind λz=>(Fy P t).bind λplaces=>(IC (λi=>places[i]?) (z.map .sc) (parts.toList.map λp=>(p.1,ρ p.2))).map λcs=>(.agg cs,h)
  else if kT P t=9 then(DP P t).bind λz=>(Kf P t).bind λna=>(IC (λi=>some (i*na.2,na.2)) (z.map .sc) (parts.toList.map λp=>(p.1,ρ p.2))).map λcs=>(.agg cs,h)
  else none
 | .buildSlice t len parts=>
  (Dc P t).bind λzb=>(GQ P t).bind λz=>
   if z.length=zb.1/\0<zb.1/\len*zb.1<=16777216 then
    (Hf zb.1 (List.replicate len (z.map .sc)) (parts.toList.map λp=>(p.1,ρ p.2))).bind λrows=>
     if len=0 then some (.emp,h)
     else if ow then some (.own h.next 0 len,h.new (.arr zb.1 rows))else some (.A1 zb.1 rows,h)
   else none
 | .load t a=>(CQ P t).bind λn=>(rd h (ρ a)).bind λcs=>(JF (Cj P t) n cs).map λv=>(v,h)
 | .store t a x=>(CQ P t).bind λn=>if(ρ x).cells.length=n/\(ρ x).cells.all Cs=true then(wr h (ρ x).cells (ρ a)).map λh'=>(.sc undef,h')else none
 | .nilCheck x=>match ρ x with
  | .ptr id i f=>some (.ptr id i f,h)
  | .Aj cs=>some (.Aj cs,h)
  |_=>none
 | .binOp op t x y _=>(if kT P t=8 then Kg op (NY P t) (ρ x) (ρ y)else Ik op (kT P t) (Fl x||Fl y) (ρ x) (ρ y)).map λv=>(v,h)
 | .unOp op _ x=>(Lb op (ρ x)).map λv=>(v,h)
 | .convert src dst x=>match ρ x with
  | .sc (.string s)=>
   if kT P dst=3 then(if kT P src=3 then some (.sc (.string s),h)else none)
   else if kT P src=3/\Lc P dst=true/\s.size<=140737488355328 then(if ow then some (.own h.next 0 s.data.toList.length,h.new (.arr 1 (Ef s.data.toList)))else some (.A1 1 (Ef s.data.toList),h))
   else none
  |y=>
   if kT P dst=3 then(if Lc P src=true/\Dx h 1 y=true then(Gj h y).bind λrows=>(Im rows).map λl=>(.sc (.string ⟨l.toArray⟩),h)else none)
   else(MX (JE P src) (JE P dst) y).map λv=>(v,h)
 | .makeInterface t x=>if kT P t=7\/kT P t=0 then none else match ρ x with| .sc v=>some (.sc (.iface t v),h)|_=>none
 | .makeMap _ none=>some (.mp h.next,h.new (.map []))
 | .slice t x lo hi none=>(IF ρ lo).bind λa=>(IF ρ hi).bind λb=>
   if kT P t=5 then(Dc P t).bind λzb=>(Ma zb.1 (ρ x) h a b).map λv=>(v,h)
   else if kT P t=3 then(Mb (ρ x) a b).map λv=>(v,h)else none
 | .slice t x none (some hi) (some mx) => (Dc P t).bind λ_ => if Jp ρ (some hi) = true /\ Jp ρ (some mx) = true /\ Ki (ρ x) = true then some (.emp, h)
   else(Gw (ρ hi)).bind λb=>(Gw (ρ mx)).bind λc=>(PA b c (ρ x)).map λv=>(v,h)
 | .fieldAddr t x f=>(BT P t f).bind λo=>(MZ o.1 o.2.1 (ρ x)).map λv=>(v,h)
 | .indexAddr t x i=>(Gw (ρ i)).bind λn=>
   if kT P t=5 then(Dc P t).bind λzb=>(Kh h zb.1 (ρ x) n).map λv=>(v,h)
   else(Kf P t).bind λna=>(MY na.1 na.2 (ρ x) n).map λv=>(v,h)
 | .index t x i=>(Gw (ρ i)).bind λn=>
   match ρ x with
   | .sc (.string s)=>if kT P t=3/\0<=n then(s[n.toNat]?).map λb=>(.sc (.int .u8 b.toNat),h)else none
   | .agg cs=>(NT P t).bind λna=>if 0<=n/\n<na.1 then(JF na.2.2 na.2.1 (cs.drop (n.toNat*na.2.1))).map λv=>(v,h)else none
   |_=>none
 | .lookup t x k ok=>(Jn P t).bind λm=>
   match ρ k,Mc h (ρ x)with
   | .sc kv,some es=>if G6 m.1 kv=true then(Hg kv es).map λr=>(Jq ok m.2 r,h)else none
   |_,_=>none
 | .mapUpdate t x k v=>(Jn P t).bind λm=>
   match ρ k,ρ x with
   | .sc kv,.mp id=>match h.obj id with
    |some (.map es)=>if G6 m.1 kv=true then(IE kv (ρ v) es).map λes'=>(.sc undef,h.set id (.map es'))else none
    |_=>none
   |_,_=>none
 | .typeAssert x _ t true=>if kT P t=7\/kT P t=0 then none else match ρ x with
   | .sc (.iface u v)=>if u=t then some (.Al [.sc v,.sc (.bool true)],h)else(LZ P t).map λz=>(.Al [Gi z,.sc (.bool false)],h)
   | .sc .nilIface=>(LZ P t).map λz=>(.Al [Gi z,.sc (.bool false)],h)
   |_=>none
 | .extract x i=>match ρ x with| .Al vs=>(vs[i]?).map λv=>(v,h)|_=>none
 | .call {callee:= .builtin .len,args:=args,argTypes:=ts}=>match args.toList,ts.toList with
   |[x],[t]=>if GR (kT P t) (ρ x)=true then(GF h (ρ x)).map λ(n:Nat)=>(.sc (.int .i64 (n:Int)),h)else none
   |_,_=>none
 | .call {callee:= .builtin .append,args:=args,argTypes:=ts}=>match args.toList,ts.toList with
   |[x,y],[t,u]=>if t=u then(Dc P t).bind λzb=>Ld zb.1 zb.2 h (ρ x) (ρ y)else none
   |_,_=>none
 | .makeFunc (.func f) first caps=>some (.fn f (first.toList.map ρ) (caps.toList.map ρ),h)
 |_=>none
def callee(ρ:Operand->PV):Op->Option (FuncId × List PV)
 | .call {callee:= .value f,args:=args,.. }=>match ρ f with
  | .sc (.func (.func f) first captured)=>if first= #[]/\captured= #[]then some (f,args.toList.map ρ)else none
  | .fn f first caps=>some (f,first++(args.toList.map ρ++caps))
  |_=>none
 |_=>none
end Go.AM
namespace Go.AM
structure Md where
 b:Option Nat
 o:Nat
 z:Nat
 sz:Nat
structure BK where
 bl:Nat->Md
 X:Nat->Prop
instance:CoeFun BK (λ_=>Nat->Md):=⟨BK.bl⟩
mutual
def AA(β:BK)(n:Nat)(F:Nat->Prop)(w:World):PV->Value->Prop
 | .sc v,x=>x=v
 | .ptr id i f,x=>id<n/\ ∃ b,(β id).b=some b/\x= .pointer (some ⟨b,(β id).o+i*(β id).z+f,none⟩)
 | .Aj cs,x=> ∃ b o,F b/\x= .pointer (some ⟨b,o,none⟩)/\Bk β n F w cs b o
 | .own id off len, x => id < n /\ ∃ a cap, x = .slice a len cap /\ len <= cap /\ cap <= maxLen /\
   (cap=0\/ ∃ b,(β id).b=some b/\a=some ⟨b,(β id).o+off*(β id).z,none⟩/\(β id).o+(off+cap)*(β id).z<=(β id).sz)
 | .A1 z rows, x => ∃ a cap, x = .slice a rows.length cap /\ rows.length <= cap /\ cap <= maxLen /\
   (rows=[]\/ ∃ b o,F b/\a=some ⟨b,o,none⟩/\BI β n F w z rows b o)
 | .emp,x=> ∃ a,x= .slice a 0 0
 | .mp id,x=>id<n/\ ∃ b,(β id).b=some b/\x= .map (some b)
 | .agg cs,x=> ∃ xs:List Value,x= .agg xs.toArray/\(∀ v∈xs,v.oneCell'=true)/\AT β n F w cs xs
 | .Al vs,x=> ∃ xs:List Value,x= .tuple xs.toArray/\AT β n F w vs xs
 | .fn f first caps,x=> ∃ xs ys:List Value,x= .func (.func f) xs.toArray ys.toArray/\AT β n F w first xs/\AT β n F w caps ys
 | .ab k lo hi m r,x=> ∃ i:Int,lo<=i/\i<=hi/\i.tmod m=r/\x= .int k i
def Bk(β:BK)(n:Nat)(F:Nat->Prop)(w:World):List PV->Nat->Nat->Prop
 |[],_,_=>True
 |p::ps,b,o=>(∃ v,w.cell? ⟨b,o,none⟩=some v/\v.oneCell'=true/\AA β n F w p v)/\Bk β n F w ps b (o+1)
def BI(β:BK)(n:Nat)(F:Nat->Prop)(w:World)(z:Nat):List (List PV)->Nat->Nat->Prop
 |[],_,_=>True
 |r::rs,b,o=>(r.length=z/\Bk β n F w r b o)/\BI β n F w z rs b (o+z)
def AT(β:BK)(n:Nat)(F:Nat->Prop)(w:World):List PV->List Value->Prop
 |[],[]=>True
 |p::ps,v::vs=>AA β n F w p v/\AT β n F w ps vs
 |_,_=>False
end
def Fz(β:BK)(h:A0)(w:World)(b:Nat):Prop:=b<w.heap.size/\(∀ id,(h.obj id).isSome=true->(β id).b≠some b)/\¬ β.X b
def CO(β:BK)(n:Nat)(F:Nat->Prop)(w:World):List (Value × PV)->List MapEntry->Prop
 |[],[]=>True
 |(k,p)::es,e::fs=>(e.key=k/\AA β n F w p e.val)/\CO β n F w es fs
 |_,_=>False
def BN(β:BK)(n:Nat)(F:Nat->Prop)(w:World)(k:Md):Am->Prop
 | .arr z rows => k.z = z /\ ((k.b = none /\ rows = []) \/ ∃ b c e fr, k.b = some b /\ w.heap[b]? = some (.cells c e fr) /\ c.size = k.sz /\ k.o + rows.length * z <= k.sz /\
   (∀ i,i<c.size->¬ (fr.1<=i/\i<fr.2))/\BI β n F w z rows b k.o)
 | .map es=> ∃ b fs clock,k.b=some b/\w.heap[b]? =some (.map fs clock)/\CO β n F w es fs.toList
 | .Ih g lo hi=>k.b=none/\F g/\ ∃ i:Int,lo<=i/\i<=hi/\w.cell? ⟨g,0,none⟩=some (.int .i64 i)
structure B2(β:BK)(h:A0)(w:World):Prop where
 lt: ∀ id,(h.obj id).isSome=true->id<h.next
 ok: ∀ id o,h.obj id=some o->BN β h.next (Fz β h w) w (β id) o
 inj: ∀ i j,(h.obj i).isSome=true->(h.obj j).isSome=true-> ∀ b,(β i).b=some b->(β j).b=some b->i=j
 xs: ∀ b,β.X b->b<w.heap.size
 nx: ∀ id,(h.obj id).isSome=true-> ∀ b,(β id).b=some b->¬ β.X b
structure BR(β:BK)(h:A0)(w:World)(β':BK)(h':A0)(w':World):Prop where
 os:w'.os=w.os
 tape:w'.tape=w.tape
 output:w'.output=w.output
 size:w.heap.size<=w'.heap.size
 next:h.next<=h'.next
 beta: ∀ id,id<h.next->β' id=β id
 X:β'.X=β.X
 xh: ∀ b,β.X b->b<w.heap.size->w'.heap[b]? =w.heap[b]?
 fz: ∀ b,Fz β h w b->Fz β' h' w' b/\w'.heap[b]? =w.heap[b]?
abbrev AS(β:BK)(h:A0)(w:World):PV->Value->Prop:=AA β h.next (Fz β h w) w
def Ab(P:Program)(f:FuncId):Bool:=match P.funcs[f]? with
 |some fn=>!(fn.name== "runtime.NumGoroutine")&&fn.body.isSome
 |none=>false
def Le(P:Program)(f:FuncId)(vals:Array Value)(w:World)(Q:Ending->World->Prop):Prop:=
 (Ab P f=true/\Calls P f vals w Q)\/ ∃ v w',(callFunc f vals).run P w= .ok (.value v) w'/\Q (.returned v) w'
theorem Le.mono{P:Program}{f:FuncId}{vals:Array Value}{w:World}{Q Q':Ending->World->Prop}(h:Le P f vals w Q)(hk: ∀ e w',Q e w'->Q' e w'):Le P f vals w Q':=
 h.imp (λ⟨a,b⟩=>⟨a,b.mono hk⟩) (λ⟨v,w',a,b⟩=>⟨v,w',a,hk _ _ b⟩)
def A6(P:Program)(f:FuncId)(args:List PV)(h:A0)(K:PV->A0->Prop):Prop:=
 ∀ (β:BK)(w:World)(vals:List Value),B2 β h w->AT β h.next (Fz β h w) w args vals->
  Le P f vals.toArray w λe w'=> ∃ r h' β' v,e= .returned v/\K r h'/\B2 β' h' w'/\AS β' h' w' r v/\BR β h w β' h' w'
def CY(P:Program)(ow:Nat->Bool)(o:Oper)(K:AE->A0->Prop)(s:AE)(h:A0):Prop:=
 match callee (A9 s) o.op with
 |some (f,args)=>A6 P f args h λr h'=>K (Ak s o.dst r) h'
 |none=>match AZ P (o.dst.any ow) o.op (A9 s) h with
  |some (r,h')=>K (Ak s o.dst r) h'
  |none=>False
def D4(ops:List Oper)(s:AE)(o:Oper):Option Bool:=
 match o.guard with
 |none=>some true
 |some (g,want)=>match(ops[g]?).bind (·.dst)with
  |none=>none
  |some t=>match s t with
   | .sc (.bool b)=>some (b==want)
   | .sc (.tuple _)=>some false
   |_=>none
def Et(P:Program)(ow:Nat->Bool)(n:Nat)(ops:List Oper):List Oper->(AE->A0->Prop)->AE->A0->Prop
 |[],K,s,h=>K s h
 |o::rest,K,s,h=>(o.dst.all (λd=>decide (d<n))=true)/\match D4 ops s o with
  |none=>False
  |some b=>if b=true then CY P ow o (Et P ow n ops rest K) s h else Et P ow n ops rest K (Ak s o.dst (.sc undef)) h
def Ap(P:Program)(ow:Nat->Bool)(o:Oper)(ρ:Operand->PV)(h:A0)(v:PV)(h':A0):Prop:=
 match callee ρ o.op with
 |some (f,args)=>A6 P f args h λr h''=>r=v/\h''=h'
 |none=>AZ P (o.dst.any ow) o.op ρ h=some (v,h')
def BL(ow:Nat->Bool)(wf:FuncId->Bool)(o:Oper):Bool:=
 match o.op with
 | .store _ _ _=>true
 | .mapUpdate _ _ _ _=>true
 | .alloc _=>true
 | .makeMap _ _=>true
 | .makeSlice _ _ _=>true
 | .box _ _=>o.dst.any ow
 | .convert _ _ _=>o.dst.any ow
 | .buildSlice _ _ _=>o.dst.any ow
 | .call {callee:= .builtin .append,.. }=>true
 | .call {callee:= .value (.func f),.. }=>wf f
 | .call {callee:= .value _,.. }=>true
 |_=>false
def pre(ops:List Oper)(i j:Nat):Bool:=((Region.before ops.toArray).getD j 0).testBit i
def EU(P:Program)(ow:Nat->Bool)(wf:FuncId->Bool)(n:Nat)(ops:List Oper):Nat->List Oper->List (Nat × (A0->Prop))->List (Nat × A0)->(AE->A0->Prop)->AE->A0->Prop
  |_,[],_,_,K,s,h=>K s h
  |k,o::rest,past,hist,K,s,h=>(o.dst.all (λd=>decide (d<n))=true)/\match D4 ops s o with
    |none=>False
    |some b=>if b=true then
        (if BL ow wf o = true then ∃ v h', Ap P ow o (A9 s) h v h' /\ (∀ x ∈ past, pre ops x.1 k = true \/ x.2 h') /\ EU P ow wf n ops (k + 1) rest past ((k, h) :: hist) K (Ak s o.dst v) h'
         else ∃ v,Ap P ow o (A9 s) h v h/\(∀ x∈hist,pre ops x.1 k=true\/Ap P ow o (A9 s) x.2 v x.2)/\EU P ow wf n ops (k+1) rest ((k,λh'=>Ap P ow o (A9 s) h' v h')::past) hist K (Ak s o.dst v) h)
      else EU P ow wf n ops (k+1) rest past hist K (Ak s o.dst (.sc undef)) h
def F4(ops:List Oper)(o:Oper):List Nat:=
 (o.op.operands.toList.filterMap λ| .tmp t=>some t|_=>none)++(match o.guard with|some (g,_)=>((ops[g]?).bind (·.dst)).toList|none=>[])++o.dst.toList
def Jr(ow:Nat->Bool)(wf:FuncId->Bool)(ops:List Oper):Bool:=
 ops.zipIdx.all λ(o,j)=>(o.after.toList.all λe=>!Region.binds .any e||decide (e.on<j))&&(match o.op with| .select _ _=>false|_=>true)&&
  ops.zipIdx.all λ(q,i)=>i==j||((match q.dst with|none=>true|some d=>!(F4 ops o).contains d||pre ops i j||pre ops j i)&&(!(BL ow wf q&&BL ow wf o)||pre ops i j||pre ops j i))
def Ta(P:Program)(ow:Nat->Bool)(wf:FuncId->Bool)(n:Nat)(ops:List Oper)(K:AE->A0->Prop)(s:AE)(h:A0):Prop:=
 Jr ow wf ops=true/\EU P ow wf n ops 0 ops [] [] K s h
def Js(o:Oper):Bool:=match o.op with
 | .alloc _=>true
 |_=>false
def G7(ops:List Oper)(f:Nat):Bool:=match ops[f]? with
 |some o=>Js o
 |none=>false
def Io(P:Program)(ow:Nat->Bool)(id:Nat)(o:Oper)(ρ:Operand->PV)(h:A0)(v:PV)(h':A0):Prop:=
 match o.op with
 | .alloc t=> ∃ zs,DP P t=some zs/\0<zs.length/\v= .ptr id 0 0/\h'=h.set id (.arr zs.length [zs.map .sc])
 |_=>Ap P ow o ρ h v h'
def GG(P:Program)(ow:Nat->Bool)(wf:FuncId->Bool)(n:Nat)(ops:List Oper)(base:Nat):Nat->List Oper->List (Nat × (A0->Prop))->List (Nat × A0)->(AE->A0->Prop)->AE->A0->Prop
  |_,[],_,_,K,s,h=>K s h
  |k,o::rest,past,hist,K,s,h=>(o.dst.all (λd=>decide (d<n))=true)/\match D4 ops s o with
    |none=>False
    |some b=>if b=true then
        (if BL ow wf o = true then ∃ v h', Io P ow (base + k) o (A9 s) h v h' /\ (∀ f, k < f -> G7 ops f = true -> h'.obj (base + f) = none) /\ (∀ x ∈ past, pre ops x.1 k = true \/ x.2 h') /\ GG P ow wf n ops base (k + 1) rest past ((k, h) :: hist) K (Ak s o.dst v) h'
         else ∃ v,Ap P ow o (A9 s) h v h/\(∀ x∈hist,pre ops x.1 k=true\/Ap P ow o (A9 s) x.2 v x.2)/\GG P ow wf n ops base (k+1) rest ((k,λh'=>Ap P ow o (A9 s) h' v h')::past) hist K (Ak s o.dst v) h)
      else GG P ow wf n ops base (k+1) rest past hist K (Ak s o.dst (.sc undef)) h
def PB(ow:Nat->Bool)(wf:FuncId->Bool)(ops:List Oper):Bool:=
 ops.zipIdx.all λ(o,j)=>(o.after.toList.all λe=>!Region.binds .any e||decide (e.on<j))&&(match o.op with| .select _ _=>false|_=>true)&&
  ops.zipIdx.all λ(q,i)=>i==j||((match q.dst with|none=>true|some d=>!(F4 ops o).contains d||pre ops i j||pre ops j i)&&(!(BL ow wf q&&BL ow wf o)||pre ops i j||pre ops j i||(decide (i<j)&&Js o)||(decide (j<i)&&Js q)))
def Tb(P:Program)(ow:Nat->Bool)(wf:FuncId->Bool)(n:Nat)(ops:List Oper)(K:AE->A0->Prop)(s:AE)(h:A0):Prop:=
 PB ow wf ops=true/\GG P ow wf n ops h.next 0 ops [] [] K s ⟨h.next+ops.length,h.obj⟩
def BE(H:A0)(l:List Nat):A0:=⟨H.next,λj=>if l.contains j=true then none else H.obj j⟩
def Cd(h' H:A0)(l:List Nat):A0:=⟨h'.next,λj=>if l.contains j=true/\(H.obj j).isSome=true then H.obj j else h'.obj j⟩
def Ce(ow:Nat->Bool)(o:Oper):Bool:=match o.op with
 | .alloc _=>true
 | .box _ _=>o.dst.any ow
 | .buildSlice _ _ _=>o.dst.any ow
 |_=>false
def F5(P:Program)(ow:Nat->Bool)(id:Nat)(o:Oper)(ρ:Operand->PV):Option (PV × Am):=match AZ P (o.dst.any ow) o.op ρ ⟨id,λ_=>none⟩with
 |some (v,h1)=>match h1.obj id with
  |some (.arr z rows)=>if rows.isEmpty=true then none else some (v,.arr z rows)
  |_=>none
 |none=>none
def Ct(lt:Nat->Option (Nat × Am))(p:Nat->Bool)(H:A0):Nat->A0
 |0=>H
 |m+1=>match lt m with
  |some q=>if p m=true then(Ct lt p H m).set q.1 q.2 else Ct lt p H m
  |none=>Ct lt p H m
def kx(ow:Nat->Bool)(ops:List Oper)(lt:Nat->Option (Nat × Am))(x:Nat):List Nat:=(List.range ops.length).filterMap λf=>if(!(x==f)&&!(pre ops f x)&&(!(pre ops x f)||(ops[f]?).any (Ce ow)))=true then(lt f).map (·.1)else none
def Tc(ops:List Oper)(br:Nat->Bool)(x M:Nat):Prop:=M<=ops.length/\(∀ b,b<M->br b=true->pre ops x b=false)/\(∀ b,M<=b->br b=true->pre ops b x=false)/\(M=0\/br (M-1)=true)
def gx(ops:List Oper)(lt:Nat->Option (Nat × Am))(hk:Nat->A0)(x M:Nat)(l:List Nat):A0:=BE (Ct lt (λf=>decide (M<=f)&&pre ops f x) (hk M) ops.length) l
structure DR(P:Program)(ow:Nat->Bool)(wf:FuncId->Bool)(n:Nat)(ops:List Oper)(base:Nat)(sk:Nat->AE)(hk:Nat->A0)(vk:Nat->PV)(lt:Nat->Option (Nat × Am))(br:Nat->Bool):Prop where
 step: ∀ (j:Nat)(o:Oper),ops[j]? =some o->o.dst.all (λd=>decide (d<n))=true/\ ∃ b,D4 ops (sk j) o=some b/\
  (b=false->sk (j+1)=Ak (sk j) o.dst (.sc undef)/\hk (j+1)=hk j/\lt j=none/\br j=false)/\
  (b = true -> sk (j + 1) = Ak (sk j) o.dst (vk j) /\
   (BL ow wf o=false->hk (j+1)=hk j/\lt j=none/\br j=false/\ ∀ M,Tc ops br j M-> ∃ l,(∀ id∈kx ow ops lt j,id∈l)/\Ap P ow o (A9 (sk j)) (gx ops lt hk j M l) (vk j) (gx ops lt hk j M l))/\
   (BL ow wf o = true ->
    (br j=true/\lt j=none/\(∃ H',Ap P ow o (A9 (sk j)) (BE (hk j) (kx ow ops lt j)) (vk j) H'/\(∀ id∈kx ow ops lt j,H'.obj id=none)/\hk (j+1)=Cd H' (hk j) (kx ow ops lt j))/\ ∀ f q,j<f->ops[f]? =some q->Ce ow q=true->(hk (j+1)).obj (base+f)=none)\/
    (br j=false/\Ce ow o=true/\ ∃ ob,lt j=some (base+j,ob)/\F5 P ow (base+j) o (A9 (sk j))=some (vk j,ob)/\hk (j+1)=(hk j).set (base+j) ob)\/
    (br j=false/\ ∃ t x y id r f ob,o.op= .store t x y/\A9 (sk j) x= .ptr id r f/\lt j=some (id,ob)/\hk (j+1)=(hk j).set id ob/\(∀ f q,j<f->ops[f]? =some q->Ce ow q=true->base+f≠id)/\AZ P (o.dst.any ow) o.op (A9 (sk j)) (hk j)=some (vk j,hk (j+1)))))
 ww: ∀ i j,i<j->j<ops.length->(br i=true\/(lt i).isSome=true)->(br j=true\/(lt j).isSome=true)->
  pre ops i j=true\/(∃ p q,lt i=some p/\lt j=some q/\p.1≠q.1)\/(br i=true/\(lt j).isSome=true/\ ∃ o,ops[j]? =some o/\Ce ow o=true)\/((lt i).isSome=true/\br j=true/\ ∃ o,ops[i]? =some o/\Ce ow o=true)
def Me(ops:List Oper):Bool:=
 ops.zipIdx.all λ(o,j)=>(o.after.toList.all λe=>!Region.binds .any e||decide (e.on<j))&&(match o.op with| .select _ _=>false|_=>true)&&
  ops.zipIdx.all λ(q,i)=>i==j||(match q.dst with|none=>true|some d=>!(F4 ops o).contains d||pre ops i j||pre ops j i)
def PC(P:Program)(ow:Nat->Bool)(wf:FuncId->Bool)(n:Nat)(ops:List Oper)(K:AE->A0->Prop)(s:AE)(h:A0):Prop:=
 Me ops=true/\ ∃ sk hk vk lt br,sk 0=s/\hk 0=⟨h.next+ops.length,h.obj⟩/\K (sk ops.length) (hk ops.length)/\DR P ow wf n ops h.next sk hk vk lt br
abbrev BU:=Exit->AE->A0->Prop
def BU.seq(next:AE->A0->Prop)(Q:BU):BU
 | .normal,s,h=>next s h
 |e,s,h=>Q e s h
def BU.block(id:Nat)(Q:BU):BU
 | .exit id',s,h=>if id'=id then Q .normal s h else Q (.exit id') s h
 |e,s,h=>Q e s h
def Jt(c:BU->AE->A0->Prop)(Q:BU):Nat->AE->A0->Prop
 |0,_,_=>False
 |k+1,s,h=>c (BU.seq (Jt c Q k) Q) s h
def Wk(s:AE)(h:A0)(s':AE)(h':A0):Prop:= ∀ (β:BK)(w:World),B2 β h w->B2 β h' w/\BR β h w β h' w/\ ∀ t x,AS β h w (s t) x->AS β h' w (s' t) x
def Ar(P:Program)(ow:Nat->Bool)(wf:FuncId->Bool)(n:Nat):Code->BU->AE->A0->Prop
 | .skip,Q,s,h=>Q .normal s h
 | .region _ ops draw,Q,s,h=> ∃ s' h',Wk s h s' h'/\(λs h=>if draw=true then(Ta P ow wf n ops.toList (Q .normal) s h\/Tb P ow wf n ops.toList (Q .normal) s h\/PC P ow wf n ops.toList (Q .normal) s h)else Et P ow n ops.toList ops.toList (Q .normal) s h) s' h'
 | .seq a b,Q,s,h=>Ar P ow wf n a (BU.seq (Ar P ow wf n b Q) Q) s h
 | .cond c x y,Q,s,h=>match A9 s c with
  | .sc (.bool b)=>if b=true then Ar P ow wf n x Q s h else Ar P ow wf n y Q s h
  |_=>False
 | .block id c,Q,s,h=>Ar P ow wf n c (BU.block id Q) s h
 | .loop c,Q,s,h=> ∃ k,Jt (Ar P ow wf n c) Q k s h
 | .exit id,Q,s,h=>Q (.exit id) s h
 | .ret,Q,s,h=>Q .ret s h
 |_,_,_,_=>False
def Mf(args:List PV):AE:=λt=>args.getD t (.sc undef)
def Lf(P:Program)(s:AE)(h:A0):ResultVar->Option PV
 | .tmp t=>some (s t)
 | .cell a t=>(CQ P t).bind λn=>(rd h (s a)).bind λcs=>JF (Cj P t) n cs
def HH(P:Program)(s:AE)(h:A0):List ResultVar->Option (List PV)
 |[]=>some []
 |r::rs=>(Lf P s h r).bind λv=>(HH P s h rs).map λvs=>v::vs
def Gx:List PV->PV
 |[v]=>v
 |vs=> .Al vs
def Ip(P:Program)(rs:List ResultVar)(K:PV->A0->Prop):BU
 | .normal,s,h=>match HH P s h rs with|some vs=>K (Gx vs) h|none=>False
 | .ret,s,h=>match HH P s h rs with|some vs=>K (Gx vs) h|none=>False
 |_,_,_=>False
end Go.AM
namespace Go.AM
section
variable {β β':BK}{n n':Nat}{F F':Nat->Prop}{w w':World}
theorem Qv{w w':World}{b:Nat}(h:w'.heap[b]? =w.heap[b]?)(o:Nat):w'.cell? ⟨b,o,none⟩=w.cell? ⟨b,o,none⟩:=by
 simp only[World.cell?,h]
structure Mv(β:BK)(n:Nat)(F:Nat->Prop)(w:World)(β':BK)(n':Nat)(F':Nat->Prop)(w':World):Prop where
 le:n<=n'
 beta: ∀ id,id<n->(β id).b≠none->β' id=β id
 fz: ∀ b,F b->F' b/\w'.heap[b]? =w.heap[b]?
mutual
theorem AA.mv(m:Mv β n F w β' n' F' w'):(p:PV)->(x:Value)->AA β n F w p x->AA β' n' F' w' p x
 | .sc v,x,h=>by simpa only[AA]using h
 | .ptr id i f,x,h=>by
  simp only[AA]at h⊢;obtain⟨h1,b,h2,h3⟩:=h;rw[m.beta id h1 (by rw[h2];simp)];exact⟨I8 h1 m.le,b,h2,h3⟩
 | .Aj cs,x,h=>by
  simp only[AA]at h⊢;obtain⟨b,o,h1,h2,h3⟩:=h;exact⟨b,o,(m.fz b h1).1,h2,Bk.mv m cs b o h1 h3⟩
 | .own id off len,x,h=>by
  simp only[AA]at h⊢;obtain⟨h1,a,cap,h2,h3,h3',h4⟩:=h;refine⟨I8 h1 m.le,a,cap,h2,h3,h3',h4.imp (λx=>x) ?_⟩;rintro⟨b,h5,h6⟩;rw[m.beta id h1 (by rw[h5];simp)];exact⟨b,h5,h6⟩
 | .A1 z rows,x,h=>by
  simp only[AA]at h⊢;obtain⟨a,cap,h1,h2,h2',h3⟩:=h;refine⟨a,cap,h1,h2,h2',h3.imp id ?_⟩;rintro⟨b,o,h4,h5,h6⟩;exact⟨b,o,(m.fz b h4).1,h5,BI.mv m z rows b o h4 h6⟩
 | .emp,x,h=>by simpa only[AA]using h
 | .mp id,x,h=>by
  simp only[AA]at h⊢;obtain⟨h1,b,h2,h3⟩:=h;rw[m.beta id h1 (by rw[h2];simp)];exact⟨I8 h1 m.le,b,h2,h3⟩
 | .agg cs,x,h=>by
  simp only[AA]at h⊢;obtain⟨xs,h1,h1',h2⟩:=h;exact⟨xs,h1,h1',AT.mv m cs xs h2⟩
 | .Al cs,x,h=>by
  simp only[AA]at h⊢;obtain⟨xs,h1,h2⟩:=h;exact⟨xs,h1,AT.mv m cs xs h2⟩
 | .fn f first caps,x,h=>by
  simp only[AA]at h⊢;obtain⟨xs,ys,h1,h2,h3⟩:=h;exact⟨xs,ys,h1,AT.mv m first xs h2,AT.mv m caps ys h3⟩
 | .ab k lo hi mm r,x,h=>by simpa only[AA]using h
theorem Bk.mv(m:Mv β n F w β' n' F' w'):(l:List PV)->(b o:Nat)->F b->Bk β n F w l b o->Bk β' n' F' w' l b o
 |[],_,_,_,_=>by simp only[Bk]
 |p::ps,b,o,hF,h=>by
  simp only[Bk]at h⊢;obtain⟨⟨v,h1,h1',h2⟩,h3⟩:=h;refine⟨⟨v,?_,h1',AA.mv m p v h2⟩,Bk.mv m ps b (o+1) hF h3⟩;rw[Qv (m.fz b hF).2];exact h1
theorem BI.mv(m:Mv β n F w β' n' F' w')(z:Nat):(l:List (List PV))->(b o:Nat)->F b->BI β n F w z l b o->BI β' n' F' w' z l b o
 |[],_,_,_,_=>by simp only[BI]
 |r::rs,b,o,hF,h=>by
  simp only[BI]at h⊢;obtain⟨⟨h1,h2⟩,h3⟩:=h;exact⟨⟨h1,Bk.mv m r b o hF h2⟩,BI.mv m z rs b (o+z) hF h3⟩
theorem AT.mv(m:Mv β n F w β' n' F' w'):(l:List PV)->(xs:List Value)->AT β n F w l xs->AT β' n' F' w' l xs
 |[],[],_=>by simp only[AT]
 |[],_::_,h=>by simp only[AT]at h
 |_::_,[],h=>by simp only[AT]at h
 |p::ps,v::vs,h=>by
  simp only[AT]at h⊢;exact⟨AA.mv m p v h.1,AT.mv m ps vs h.2⟩
end
theorem Bk.KX{b:Nat}(m:Mv β n F w β' n' F' w')(hb:w'.heap[b]? =w.heap[b]?):(l:List PV)->(o:Nat)->Bk β n F w l b o->Bk β' n' F' w' l b o
 |[],_,_=>by simp only[Bk]
 |p::ps,o,h=>by
  simp only[Bk]at h⊢;obtain⟨⟨v,h1,h1',h2⟩,h3⟩:=h;refine⟨⟨v,?_,h1',AA.mv m p v h2⟩,Bk.KX m hb ps (o+1) h3⟩;rw[Qv hb];exact h1
theorem BI.KX{b:Nat}(m:Mv β n F w β' n' F' w')(hb:w'.heap[b]? =w.heap[b]?)(z:Nat):(l:List (List PV))->(o:Nat)->BI β n F w z l b o->BI β' n' F' w' z l b o
 |[],_,_=>by simp only[BI]
 |r::rs,o,h=>by
  simp only[BI]at h⊢;obtain⟨⟨h1,h2⟩,h3⟩:=h;exact⟨⟨h1,Bk.KX m hb r o h2⟩,BI.KX m hb z rs (o+z) h3⟩
theorem CO.mv(m:Mv β n F w β' n' F' w'):(l:List (Value × PV))->(xs:List MapEntry)->CO β n F w l xs->CO β' n' F' w' l xs
 |[],[],_=>by simp only[CO]
 |[],_::_,h=>by simp only[CO]at h
 |_::_,[],h=>by simp only[CO]at h
 |(k,p)::ps,v::vs,h=>by
  simp only[CO]at h⊢;exact⟨⟨h.1.1,AA.mv m p _ h.1.2⟩,CO.mv m ps vs h.2⟩
end
section
variable {β β' β'':BK}{h h' h'':A0}{w w' w'':World}
theorem BR.refl:BR β h w β h w:=⟨rfl,rfl,rfl,AG _,AG _,λ_ _=>rfl,rfl,λ_ _ _=>rfl,λ_ hb=>⟨hb,rfl⟩⟩
theorem BR.trans(e:BR β h w β' h' w')(f:BR β' h' w' β'' h'' w''):BR β h w β'' h'' w'':=
 ⟨f.os.trans e.os,f.tape.trans e.tape,f.output.trans e.output,ER e.size f.size,ER e.next f.next,
  λid hi=>(f.beta id (I8 hi e.next)).trans (e.beta id hi),f.X.trans e.X,λb hb hl=>(f.xh b (by rw[e.X];exact hb) (I8 hl e.size)).trans (e.xh b hb hl),λb hb=>⟨(f.fz b (e.fz b hb).1).1,(f.fz b (e.fz b hb).1).2.trans (e.fz b hb).2⟩⟩
theorem BR.mv(e:BR β h w β' h' w'):Mv β h.next (Fz β h w) w β' h'.next (Fz β' h' w') w':=⟨e.next,λid hid _=>e.beta id hid,e.fz⟩
theorem BR.rep(e:BR β h w β' h' w'){p:PV}{x:Value}(r:AS β h w p x):AS β' h' w' p x:=AA.mv e.mv p x r
theorem B2.drew(s:B2 β h w):B2 β h w.drew/\BR β h w β h w.drew:=by
 have e:BR β h w β h w.drew:=⟨rfl,rfl,rfl,AG _,AG _,λ_ _=>rfl,rfl,λ_ _ _=>rfl,λ_ hb=>⟨hb,rfl⟩⟩;refine⟨⟨s.lt,λid o ho=>?_,s.inj,s.xs,s.nx⟩,e⟩;have hk:=s.ok id o ho;cases o with
 |arr z rows=>
  simp only[BN]at hk⊢;refine⟨hk.1,hk.2.imp (λx=>x) ?_⟩;rintro⟨b,c,t,fr,h1,h2,h3,h4,h5,h6⟩;exact⟨b,c,t,fr,h1,h2,h3,h4,h5,BI.KX e.mv rfl z rows _ h6⟩
 |map es=>
  simp only[BN]at hk⊢;obtain⟨b,fs,cl,h1,h2,h3⟩:=hk;exact⟨b,fs,cl,h1,h2,CO.mv e.mv _ _ h3⟩
 |Ih g lo hi=>exact hk
theorem BN.mv{n n':Nat}{F F':Nat->Prop}(m:Mv β n F w β' n' F' w'){k:Md}{o:Am}(hb: ∀ b,k.b=some b->w'.heap[b]? =w.heap[b]?)(hk:BN β n F w k o):BN β' n' F' w' k o:=by
 cases o with
 |arr z rows=>
  simp only[BN]at hk⊢;refine⟨hk.1,hk.2.imp (λx=>x) ?_⟩;rintro⟨b,c,t,fr,h1,h2,h3,h4,h5,h6⟩;exact⟨b,c,t,fr,h1,by rw[hb b h1];exact h2,h3,h4,h5,BI.KX m (hb b h1) z rows _ h6⟩
 |map es=>
  simp only[BN]at hk⊢;obtain⟨b,fs,cl,h1,h2,h3⟩:=hk;exact⟨b,fs,cl,h1,by rw[hb b h1];exact h2,CO.mv m _ _ h3⟩
 |Ih g lo hi=>
  simp only[BN]at hk⊢;obtain⟨h1,h2,h3⟩:=hk;exact⟨h1,(m.fz g h2).1,by rw[Qv (m.fz g h2).2];exact h3⟩
end
theorem Wk.refl{s:AE}{h:A0}:Wk s h s h:=λ_ _ sm=>⟨sm,BR.refl,λ_ _ hr=>hr⟩
theorem Wk.trans{s s' s'':AE}{h h' h'':A0}(a:Wk s h s' h')(b:Wk s' h' s'' h''):Wk s h s'' h'':=λβ w sm=>
 have⟨a1,a2,a3⟩:=a β w sm;have⟨b1,b2,b3⟩:=b β w a1
 ⟨b1,a2.trans b2,λt x hr=>b3 t x (a3 t x hr)⟩
end Go.AM
namespace Go.AM
section
variable {β:BK}{n:Nat}{F:Nat->Prop}{w:World}
theorem Hh:{l:List PV}->{b o:Nat}->(Bk β n F w l b o↔ ∀ j p,l[j]? =some p-> ∃ v,w.cell? ⟨b,o+j,none⟩=some v/\v.oneCell'=true/\AA β n F w p v)
 |[],b,o=>by simp[Bk]
 |p::ps,b,o=>by
  simp only[Bk,Hh (l:=ps)];constructor
  ·rintro ⟨h0,h1⟩ j q hq;cases j with
   |zero=>simp at hq;subst hq;simpa using h0
   |succ j=>
    have:=h1 j q (by simpa using hq)
    rwa [show o+1+j=o+(j+1) by omega]at this
  ·intro h;refine⟨by simpa using h 0 p rfl,λj q hq=>?_⟩;have:=h (j+1) q (by simpa using hq)
   rwa [show o+(j+1)=o+1+j by omega]at this
theorem Hi{z:Nat}:{l:List (List PV)}->{b o:Nat}->(BI β n F w z l b o↔ ∀ i r,l[i]? =some r->r.length=z/\Bk β n F w r b (o+i*z))
 |[],b,o=>by simp[BI]
 |r::rs,b,o=>by
  simp only[BI,Hi (l:=rs)];constructor
  ·rintro ⟨h0,h1⟩ j q hq;cases j with
   |zero=>simp at hq;subst hq;simpa using h0
   |succ j=>
    have:=h1 j q (by simpa using hq)
    rwa [show o+z+j*z=o+(j+1)*z by rw[Jk];omega]at this
  ·intro h;refine⟨by simpa using h 0 r rfl,λj q hq=>?_⟩;have:=h (j+1) q (by simpa using hq)
   rwa [show o+(j+1)*z=o+z+j*z by rw[Jk];omega]at this
theorem IG:{l:List PV}->{xs:List Value}->(AT β n F w l xs↔l.length=xs.length/\ ∀ (j:Nat)(p:PV)(v:Value),l[j]? =some p->xs[j]? =some v->AA β n F w p v)
 |[],[]=>by simp[AT]
 |[],_::_=>by simp[AT]
 |_::_,[]=>by simp[AT]
 |p::ps,v::vs=>by
  simp only[AT,IG (l:=ps) (xs:=vs),List.length_cons];constructor
  ·rintro ⟨h0,h1,h2⟩;refine⟨by omega,λj q u hq hu=>?_⟩;cases j with
   |zero=>simp at hq hu;subst hq;subst hu;exact h0
   |succ j=>exact h2 j q u (by simpa using hq) (by simpa using hu)
  ·rintro ⟨h1,h2⟩;exact⟨h2 0 p v rfl rfl,by omega,λj q u hq hu=>h2 (j+1) q u (by simpa using hq) (by simpa using hu)⟩
theorem Bk.drop{l:List PV}{b o:Nat}(h:Bk β n F w l b o)(f:Nat):Bk β n F w (l.drop f) b (o+f):=by
 rw[Hh]at h⊢;intro j p hp;rw[List.getElem?_drop]at hp;have:=h (f+j) p hp
 rwa [show o+(f+j)=o+f+j by omega]at this
theorem Bk.take{l:List PV}{b o:Nat}(h:Bk β n F w l b o)(f:Nat):Bk β n F w (l.take f) b o:=by
 rw[Hh]at h⊢;intro j p hp;rw[List.getElem?_take]at hp;split at hp
 ·exact h j p hp
 ·simp at hp
theorem BI.drop{z:Nat}{l:List (List PV)}{b o:Nat}(h:BI β n F w z l b o)(f:Nat):BI β n F w z (l.drop f) b (o+f*z):=by
 rw[Hi]at h⊢;intro j p hp;rw[List.getElem?_drop]at hp;have:=h (f+j) p hp
 rwa [show o+(f+j)*z=o+f*z+j*z by rw[LN];omega]at this
theorem BI.take{z:Nat}{l:List (List PV)}{b o:Nat}(h:BI β n F w z l b o)(f:Nat):BI β n F w z (l.take f) b o:=by
 rw[Hi]at h⊢;intro j p hp;rw[List.getElem?_take]at hp;split at hp
 ·exact h j p hp
 ·simp at hp
theorem Bk.vals{l:List PV}{b o:Nat}(h:Bk β n F w l b o): ∃ xs:List Value,xs.length=l.length/\AT β n F w l xs/\(∀ v∈xs,v.oneCell'=true)/\ ∀ j v,xs[j]? =some v->w.cell? ⟨b,o+j,none⟩=some v:=by
 induction l generalizing o with
 |nil=>exact⟨[],rfl,by simp[AT],by simp,by simp⟩
 |cons p ps ih=>
  simp only[Bk]at h;obtain⟨⟨v,h1,h2,h3⟩,h4⟩:=h;obtain⟨xs,e1,e2,e3,e4⟩:=ih h4;refine⟨v::xs,by simp[e1],by simp only[AT];exact⟨h3,e2⟩,by simpa using ⟨h2,e3⟩,λj u hu=>?_⟩;cases j with
  |zero=>simp at hu;subst hu;simpa using h1
  |succ j=>have:=e4 j u (by simpa using hu);rwa [show o+1+j=o+(j+1) by omega]at this
theorem BI.vals{z:Nat}{l:List (List PV)}{b o:Nat}(h:BI β n F w z l b o): ∃ xs:List Value,xs.length=l.length*z/\AT β n F w l.flatten xs/\(∀ v∈xs,v.oneCell'=true)/\ ∀ j v,xs[j]? =some v->w.cell? ⟨b,o+j,none⟩=some v:=by
 induction l generalizing o with
 |nil=>exact⟨[],by simp,by simp[AT],by simp,by simp⟩
 |cons r rs ih=>
  simp only[BI]at h;obtain⟨⟨hl,h1⟩,h2⟩:=h;obtain⟨ys,a1,a2,a3,a4⟩:=h1.vals;obtain⟨xs,e1,e2,e3,e4⟩:=ih h2;refine⟨ys++xs,by simp[e1,a1,hl,Jk];omega,?_,λv hv=>(List.mem_append.1 hv).elim (a3 v) (e3 v),λj u hu=>?_⟩
  ·rw [IG]at a2 e2⊢;simp only[List.flatten_cons];refine⟨by simp only[List.length_append];omega,λj p v hp hv=>?_⟩;rw[List.getElem?_append]at hp hv;rw[a2.1]at hp;split at hp
   ·rename_i hj;rw[AK hj]at hv;exact a2.2 j p v hp hv
   ·rename_i hj;rw[A7 hj]at hv;exact e2.2 _ p v hp hv
  ·rw [List.getElem?_append]at hu;split at hu
   ·exact a4 j u hu
   ·rename_i hj;have:=e4 _ u hu
    rwa [show o+z+(j-ys.length)=o+j by omega]at this
theorem BI.Z0{z:Nat}{b:Nat}:{l:List (List PV)}->{o:Nat}->{xs:List Value}->(∀ r∈l,r.length=z)->AT β n F w l.flatten xs->(∀ v∈xs,v.oneCell'=true)->(∀ j v,xs[j]? =some v->w.cell? ⟨b,o+j,none⟩=some v)->BI β n F w z l b o
 |[],_,_,_,_,_,_=>by simp[BI]
 |r::rs,o,xs,hz,h,h1,hc=>by
  have hr:=hz r (by simp);simp only[List.flatten_cons]at h;rw[IG]at h;simp only[List.length_append]at h;simp only[BI];refine⟨⟨hr,?_⟩,BI.Z0 (xs:=xs.drop z) (λq hq=>hz q (by simp[hq])) ?_ (λv hv=>h1 v (List.mem_of_mem_drop hv)) ?_⟩
  ·rw [Hh];intro j p hp;have hj:j<r.length:=(List.getElem?_eq_some_iff.1 hp).1;have hx:xs[j]? =some xs[j]:=List.getElem?_eq_getElem (by omega);exact⟨xs[j],hc j _ hx,h1 _ (List.getElem_mem _),h.2 j p _ (by rw[List.getElem?_append_left hj];exact hp) hx⟩
  ·rw [IG];refine⟨by simp only[List.length_drop];omega,λj p v hp hv=>?_⟩;rw[List.getElem?_drop]at hv;exact h.2 (z+j) p v (by rw[List.getElem?_append_right (by omega)];rw[show z+j-r.length=j by omega];exact hp) hv
  ·intro j v hv;rw[List.getElem?_drop]at hv;have:=hc (z+j) v hv
   rwa [show o+(z+j)=o+z+j by omega]at this
theorem AA.one{p:PV}{x:Value}(hp:Cs p=true)(h:AA β n F w p x):x.oneCell'=true:=by
 cases p<;>simp only[AA]at h<;>simp[Cs]at hp
 ·subst h;exact hp
 ·obtain ⟨_,b,_,rfl⟩:=h;rfl
 ·obtain ⟨b,o,_,rfl,_⟩:=h;rfl
 ·obtain ⟨_,a,cap,rfl,_⟩:=h;rfl
 ·obtain ⟨a,cap,rfl,_⟩:=h;rfl
 ·obtain ⟨a,rfl⟩:=h;rfl
 ·obtain ⟨_,b,_,rfl⟩:=h;rfl
 ·obtain ⟨_,_,rfl,_⟩:=h;rfl
 ·obtain ⟨_,_,_,_,rfl⟩:=h;rfl
theorem AA.cells{p:PV}{x:Value}(hp:p.cells.all Cs=true)(h:AA β n F w p x):AT β n F w p.cells x.cells.toList/\ ∀ v∈x.cells.toList,v.oneCell'=true:=by
 by_cases ha: ∃ cs,p= .agg cs
 ·obtain ⟨cs,rfl⟩:=ha;simp only[AA]at h;obtain⟨xs,rfl,h1,h2⟩:=h;exact⟨h2,h1⟩
 ·have hc:p.cells=[p]:=by cases p<;>first|rfl|exact absurd ⟨_,rfl⟩ ha
  rw[hc]at hp⊢;simp at hp;have h1:=AA.one hp h;have hx:x.cells= #[x]:=by cases x<;>first|rfl|simp[Value.oneCell']at h1
  rw[hx];exact⟨by simp only[AT];exact⟨h,trivial⟩,by simpa using h1⟩
theorem AT.sc:(l:List Value)->AT β n F w (l.map .sc) l
 |[]=>by simp[AT]
 |v::vs=>by simp only[List.map_cons,AT,AA];exact⟨trivial,AT.sc vs⟩
theorem AT.append{l m:List PV}{xs ys:List Value}(h:AT β n F w l xs)(k:AT β n F w m ys):AT β n F w (l++m) (xs++ys):=by
 rw[IG]at h k⊢;refine⟨by simp[h.1,k.1],λj p v hp hv=>?_⟩;rw[List.getElem?_append]at hp hv;rw[h.1]at hp;split at hp
 ·rename_i hj;rw[AK hj]at hv;exact h.2 j p v hp hv
 ·rename_i hj;rw[A7 hj]at hv;exact k.2 _ p v hp hv
theorem AT.take{l:List PV}{xs:List Value}(h:AT β n F w l xs)(f:Nat):AT β n F w (l.take f) (xs.take f):=by
 rw[IG]at h⊢;refine⟨by simp[h.1],λj p v hp hv=>?_⟩;rw[List.getElem?_take]at hp hv;split at hp
 ·rename_i hj;rw[AK hj]at hv;exact h.2 j p v hp hv
 ·simp at hp
theorem AT.drop{l:List PV}{xs:List Value}(h:AT β n F w l xs)(f:Nat):AT β n F w (l.drop f) (xs.drop f):=by
 rw[IG]at h⊢;refine⟨by simp[h.1],λj p v hp hv=>?_⟩;rw[List.getElem?_drop]at hp hv;exact h.2 _ p v hp hv
theorem AT.len{l:List PV}{xs:List Value}(h:AT β n F w l xs):l.length=xs.length:=(IG.1 h).1
theorem AT.get{l:List PV}{xs:List Value}(h:AT β n F w l xs){j:Nat}{p:PV}(hp:l[j]? =some p): ∃ v,xs[j]? =some v/\AA β n F w p v:=by
 have hj:j<l.length:=(List.getElem?_eq_some_iff.1 hp).1;have hx:xs[j]? =some (xs[j]'(by rw[← h.len];exact hj)):=List.getElem?_eq_getElem _;exact⟨_,hx,(IG.1 h).2 j p _ hp hx⟩
end
section
variable {β β':BK}{h h':A0}{w w':World}
theorem B2.step(s:B2 β h w)(id0:Nat)(o0:Am)
  (hos:w'.os=w.os)(htape:w'.tape=w.tape)(hout:w'.output=w.output)(hsize:w.heap.size<=w'.heap.size)
  (hnext:h.next<=h'.next)(hbeta: ∀ id,id<h.next->β' id=β id)
  (h0:h'.obj id0=some o0)(hlt0:id0<h'.next)
  (hold: ∀ id,id≠id0->h'.obj id=none\/h'.obj id=h.obj id)
  (hblk: ∀ b,(β' id0).b=some b->w.heap.size<=b\/ ∃ j,(h.obj j).isSome=true/\(β j).b=some b/\(j=id0\/h'.obj j=none))
  (hmem: ∀ b,b<w.heap.size->(β' id0).b≠some b->w'.heap[b]? =w.heap[b]?)
  (hok:Mv β h.next (Fz β h w) w β' h'.next (Fz β' h' w') w'->BN β' h'.next (Fz β' h' w') w' (β' id0) o0)(hX:β'.X=β.X:=by rfl):
  B2 β' h' w'/\BR β h w β' h' w':=by
 have hlive: ∀ id,id≠id0->(h'.obj id).isSome=true->h'.obj id=h.obj id/\(h.obj id).isSome=true/\id<h.next/\β' id=β id:=by
  intro id hne hs;rcases hold id hne with h1|h1
  ·rw [h1]at hs;simp at hs
  ·rw [h1]at hs;have:=s.lt id hs;exact⟨h1,hs,this,hbeta id this⟩
 have hxb: ∀ b,(β' id0).b=some b->¬ β.X b:=by
  intro b e hx;rcases hblk b e with h1|⟨j,hj,hjb,_⟩
  ·have:=s.xs b hx;omega
  ·exact s.nx j hj b hjb hx
 have hfz: ∀ b,Fz β h w b->Fz β' h' w' b/\w'.heap[b]? =w.heap[b]?:=by
  intro b hb;have DD:(β' id0).b≠some b:=by
   intro e;rcases hblk b e with h1|⟨j,hj,hjb,_⟩
   ·exact absurd hb.1 (by omega)
   ·exact hb.2.1 j hj hjb
  refine⟨⟨I8 hb.1 hsize,λid hs=>?_,by rw[hX];exact hb.2.2⟩,hmem b hb.1 DD⟩;by_cases e:id=id0
  ·subst e;exact DD
  ·obtain ⟨_,h2,_,h4⟩:=hlive id e hs;rw[h4];exact hb.2.1 id h2
 have m:Mv β h.next (Fz β h w) w β' h'.next (Fz β' h' w') w':=⟨hnext,λid hid _=>hbeta id hid,hfz⟩
 have hblkne: ∀ id,id≠id0->(h'.obj id).isSome=true-> ∀ b,(β id).b=some b->(β' id0).b≠some b:=by
  intro id hne hs b hb e;obtain⟨h1,h2,h3,h4⟩:=hlive id hne hs;have hin:=s.ok id _ (Yo h2);have hlt:b<w.heap.size:=by
   cases hob:(h.obj id).get h2 with
   |arr z rows=>
    rw[hob]at hin;simp only[BN]at hin;rcases hin.2 with⟨h5,_⟩|⟨b',c,t,fr,h5,h6,_⟩
    ·rw [h5]at hb;simp at hb
    ·rw [h5]at hb;simp at hb;subst hb;exact(JB.1 h6).1
   |map es=>
    rw[hob]at hin;simp only[BN]at hin;obtain⟨b',fs,cl,h5,h6,_⟩:=hin;rw[h5]at hb;simp at hb;subst hb;exact(JB.1 h6).1
   |Ih g lo hi=>
    rw[hob]at hin;simp only[BN]at hin;rw[hin.1]at hb;simp at hb
  rcases hblk b e with h5|⟨j,hj,hjb,h5⟩
  ·omega
  ·have:=s.inj j id hj h2 b hjb hb;subst this;rcases h5 with h5|h5
   ·exact hne h5
   ·rw [h5]at hs;simp at hs
 refine⟨⟨λid hs=>?_,λid o ho=>?_,λi j hi hj b hbi hbj=>?_,λb hb=>?_,λid hs b hb=>?_⟩,⟨hos,htape,hout,hsize,hnext,hbeta,hX,λb hb hl=>hmem b hl (λe=>hxb b e hb),hfz⟩⟩
 ·by_cases e:id=id0
  ·subst e;exact hlt0
  ·exact I8 (hlive id e hs).2.2.1 hnext
 ·by_cases e:id=id0
  ·subst e;rw[h0]at ho;simp at ho;subst ho;exact hok m
  ·have hs:(h'.obj id).isSome=true:=(by rw[ho];try rfl);obtain⟨h1,h2,h3,h4⟩:=hlive id e hs;rw[h4];refine BN.mv m (λb hb=>?_) (s.ok id o (by rw[← h1];exact ho));have hne:=hblkne id e hs b hb;have hin:=s.ok id o (by rw[← h1];exact ho);have hlt:b<w.heap.size:=by
    cases o with
    |arr z rows=>
     simp only[BN]at hin;rcases hin.2 with⟨h5,_⟩|⟨b',c,t,fr,h5,h6,_⟩
     ·rw [h5]at hb;simp at hb
     ·rw [h5]at hb;simp at hb;subst hb;exact(JB.1 h6).1
    |map es=>
     simp only[BN]at hin;obtain⟨b',fs,cl,h5,h6,_⟩:=hin;rw[h5]at hb;simp at hb;subst hb;exact(JB.1 h6).1
    |Ih g lo hi=>
     simp only[BN]at hin;rw[hin.1]at hb;simp at hb
   exact hmem b hlt hne
 ·by_cases ei:i=id0
  ·by_cases ej:j=id0
   ·rw [ei,ej]
   ·subst ei;have:=(hlive j ej hj).2.2.2;rw[this]at hbj;exact absurd hbi (hblkne j ej hj b hbj)
  ·have h4:=(hlive i ei hi).2.2.2;rw[h4]at hbi;by_cases ej:j=id0
   ·subst ej;exact absurd hbj (hblkne i ei hi b hbi)
   ·have h5:=(hlive j ej hj).2.2.2;rw[h5]at hbj;exact s.inj i j (hlive i ei hi).2.1 (hlive j ej hj).2.1 b hbi hbj
 ·rw [hX]at hb;exact I8 (s.xs b hb) hsize
 ·rw [hX];by_cases e:id=id0
  ·subst e;exact hxb b hb
  ·obtain ⟨_,h2,_,h4⟩:=hlive id e hs;rw[h4]at hb;exact s.nx id h2 b hb
theorem B2.kill(s:B2 β h w)(id0:Nat):B2 β (h.kill id0) w/\BR β h w β (h.kill id0) w:=by
 have hl: ∀ id,((h.kill id0).obj id).isSome=true->(h.obj id).isSome=true/\(h.kill id0).obj id=h.obj id:=by
  intro id hs;simp only[A0.kill]at hs⊢;split at hs
  ·simp at hs
  ·rename_i hne;exact⟨hs,by simp[hne]⟩
 have e:BR β h w β (h.kill id0) w:=⟨rfl,rfl,rfl,AG _,AG _,λ_ _=>rfl,rfl,λ_ _ _=>rfl,λb hb=>⟨⟨hb.1,λid hs=>hb.2.1 id (hl id hs).1,hb.2.2⟩,rfl⟩⟩;refine⟨⟨λid hs=>s.lt id (hl id hs).1,λid o ho=>?_,λi j hi hj=>s.inj i j (hl i hi).1 (hl j hj).1,s.xs,λid hs=>s.nx id (hl id hs).1⟩,e⟩;have:=hl id (by rw[ho];try rfl);exact BN.mv e.mv (λ_ _=>rfl) (s.ok id o (by rw[← this.2];exact ho))
end
end Go.AM
namespace Go.AM
section
variable {P:Program}{β β':BK}{h h':A0}{w w':World}{s:AE}{a:Act}
theorem Kj(hs: ∀ t,AS β h w (s t) (a.tmps.getD t undef))(x:Operand):AS β h w (A9 s x) (a.eval x):=by
 cases x with
 |tmp t=>exact hs t
 |const v=>
  simp only[A9,Act.eval];cases v<;>simp only[Gi]<;>try simp only[AA]
  split
  ·rename_i cs hc;simp only[AA];exact⟨cs.toList,by simp,List.all_eq_true.1 hc,AT.sc _⟩
  ·simp only[AA]
 |global g=>simp only[A9,Act.eval,AA]
 |func f=>simp only[A9,Act.eval,AA]
theorem Qw{t n:Nat}(hz:CQ P t=some n): ∃ d i,P.underlying t=some d/\P.info? t=some i/\i.size=n:=by
 unfold CQ at hz;split at hz
 ·rename_i d hd;cases hi:P.info? t with
  |none=>simp[hi]at hz
  |some i=>simp[hi]at hz;exact⟨d,i,hd,rfl,hz⟩
 ·simp at hz
theorem NZ{t n:Nat}(hz:CQ P t=some n)(w:World):(sizeOf t).run P w= .ok n w:=by
 obtain⟨d,i,hd,hi,rfl⟩:=Qw hz;simp[sizeOf,typeInfo,hi]
theorem Na{t:Nat}{d:TypeDesc}(hd:P.underlying t=some d)(w:World):(isAgg t).run P w= .ok (Cj P t) w:=by
 simp only[isAgg,Sem.run_bind,run_underlying hd,Result.andThen_ok,Cj,kT,hd];cases d<;>simp
theorem Td{t:Nat}(hk:kT P t≠0): ∃ d,P.underlying t=some d:=by
 cases hd:P.underlying t with
 |none=>simp[kT,hd]at hk
 |some d=>exact⟨d,rfl⟩
theorem Mg{t:Nat}{zb:Nat × Nat}(hz:Dc P t=some zb): ∃ e i zv,P.underlying t=some (.slice e)/\P.info? e=some i/\i.size=zb.1/\i.bytes=zb.2/\i.zero=some zv/\zv.cells.size=zb.1:=by
 unfold Dc at hz;split at hz
 ·rename_i e hd;cases hi:P.info? e with
  |none=>simp[hi]at hz
  |some i=>
   cases hv:i.zero with
   |none=>simp[hi,hv]at hz
   |some zv=>
    simp only[hi,hv,DJ]at hz;split at hz
    ·rename_i hsz;simp at hz;subst hz;exact⟨e,i,zv,hd,hi,rfl,rfl,hv,hsz⟩
    ·simp at hz
 ·simp at hz
theorem Te{t:Nat}{na:Nat × Nat}(hz:Kf P t=some na): ∃ e i,P.underlying t=some (.array na.1 e)/\P.info? e=some i/\i.size=na.2:=by
 unfold Kf at hz;split at hz
 ·rename_i n e hd;cases hi:P.info? e with
  |none=>simp[hi]at hz
  |some i=>simp[hi]at hz;exact⟨e,i,by rw[hd, ← hz],hi,by rw[← hz]⟩
 ·simp at hz
theorem PD{t:Nat}{z:List Value}(hz:DP P t=some z): ∃ i v,P.info? t=some i/\i.zero=some v/\v.cells.toList=z/\ ∀ x∈z,x.oneCell'=true:=by
 unfold DP at hz;cases hi:P.info? t with
 |none=>simp[hi]at hz
 |some i=>
  cases hv:i.zero with
  |none=>simp[hi,hv]at hz
  |some v=>
   simp only[hi,hv,DJ]at hz;split at hz
   ·rename_i ha;simp at hz;subst hz;exact⟨i,v,rfl,hv,rfl,List.all_eq_true.1 ha⟩
   ·simp at hz
theorem ZN{t:Nat}{z:List Value}(hz:GQ P t=some z): ∃ e i v,P.underlying t=some (.slice e)/\P.info? e=some i/\i.zero=some v/\v.cells.toList=z/\ ∀ x∈z,x.oneCell'=true:=by
 unfold GQ at hz;split at hz
 ·rename_i e hd;obtain⟨i,v,h1,h2,h3,h4⟩:=PD hz;exact⟨e,i,v,hd,h1,h2,h3,h4⟩
 ·simp at hz
theorem ZO{t f:Nat}{o:Nat × Nat × Bool}(ho:BT P t f=some o): ∃ fs fd,P.underlying t=some (.struct fs)/\fs[f]? =some fd/\CQ P fd.type=some o.2.1/\fd.offset=o.1/\Cj P fd.type=o.2.2:=by
 unfold BT at ho;split at ho
 ·rename_i fs hd;cases hf:fs[f]? with
  |none=>simp[hf]at ho
  |some fd=>
   cases hz:CQ P fd.type with
   |none=>simp[hf,hz]at ho
   |some n=>simp[hf,hz]at ho;subst ho;exact⟨fs,fd,hd,hf,hz,rfl,rfl⟩
 ·simp at ho
theorem Tf(sm:B2 β h w){p:PV}{x:Value}{cs:List PV}(hr:rd h p=some cs)(hx:AS β h w p x):
  ∃ b o,x= .pointer (some ⟨b,o,none⟩)/\Bk β h.next (Fz β h w) w cs b o:=by
 cases p with
 |ptr id i f=>
  simp only[rd]at hr;split at hr
  ·rename_i z rows hob;cases hri:rows[i]? with
   |none=>simp[hri]at hr
   |some r=>
    simp[hri]at hr;subst hr;have hok:=sm.ok id _ hob;simp only[BN]at hok;simp only[AS,AA]at hx;obtain⟨_,b,hb,rfl⟩:=hx;rcases hok.2 with⟨_,h2⟩|⟨b',c,t,fr,h5,h6,h7,h8,h9,h10⟩
    ·subst h2;simp at hri
    ·rw [hb]at h5;simp at h5;subst h5;refine⟨b,_,rfl,?_⟩;rw[hok.1];exact((Hi.1 h10) i r hri).2.drop f
  ·simp at hr
 |Aj l=>
  simp only[rd,BC]at hr;subst hr;simp only[AS,AA]at hx;obtain⟨b,o,_,rfl,h3⟩:=hx;exact⟨b,o,rfl,h3⟩
 |sc v=>
  unfold rd at hr;split at hr<;>(try(rename_i hv;cases hv))<;>(try(simp at hr;done));rename_i g;split at hr
  ·rename_i g' lo hi hob;split at hr
   ·rename_i hg;subst hg;simp at hr;subst hr;simp only[AS,AA]at hx;subst hx;have hok:=sm.ok _ _ hob;simp only[BN]at hok;obtain⟨_,_,i,h1,h2,h3⟩:=hok;exact⟨g',0,rfl,by simp only[Bk];exact⟨⟨_,h3,rfl,by simp only[AA];exact⟨i,h1,h2,by simp,rfl⟩⟩,trivial⟩⟩
   ·simp at hr
  ·simp at hr
 |_=>simp[rd]at hr
theorem ZP{cs:List PV}{b o:Nat}{n:Nat}{F:Nat->Prop}(hc:Bk β n F w cs b o):
  ∃ xs:List Value,(loadCells ⟨b,o,none⟩ cs.length).run P w= .ok xs.toArray w/\AT β n F w cs xs/\ ∀ v∈xs,v.oneCell'=true:=by
 obtain⟨xs,h1,h2,h3,h4⟩:=hc.vals;refine⟨xs,?_,h2,h3⟩;rw[← h1];exact run_loadCells_list w ⟨b,o,none⟩ xs (λj v hv=>by rw[Addr.add_lit];exact h4 j v hv)
theorem Tg{t n:Nat}{cs:List PV}{v:PV}{b o m:Nat}{F:Nat->Prop}(hz:CQ P t=some n)(hv:JF (Cj P t) n cs=some v)(hc:Bk β m F w cs b o):
  ∃ xv,(loadVar t ⟨b,o,none⟩).run P w= .ok xv w/\AA β m F w v xv:=by
 obtain⟨d,i,hd,hi,hn⟩:=Qw hz;unfold JF at hv;by_cases ha:Cj P t=true
 ·rw [ha]at hv;simp only[AO]at hv;split at hv
  ·rename_i hle;simp only[BC]at hv;subst hv;obtain⟨xs,h1,h2,h3⟩:=ZP (P:=P) (hc.take n);have hl:(cs.take n).length=n:=(by simp;omega);rw[hl]at h1;refine⟨.agg xs.toArray,?_,?_⟩
   ·simp [loadVar,Na hd,ha,NZ hz,h1]
   ·simp only[AA];exact⟨xs,rfl,h3,h2⟩
  ·simp at hv
 ·simp only[ha]at hv;simp only[BQ,AP]at hv;cases cs with
  |nil=>simp at hv
  |cons c cs=>
   simp at hv;subst hv;simp only[Bk]at hc;obtain⟨⟨xv,h1,h2,h3⟩,_⟩:=hc;refine⟨xv,?_,h3⟩;have ha':Cj P t=false:=(by simpa using ha);simp[loadVar,Na hd,ha',h1]
theorem B2.Jm(sm:B2 β h w){id b:Nat}{o:Am}(ho:h.obj id=some o)(hb:(β id).b=some b):b<w.heap.size:=by
 have hin:=sm.ok id o ho;cases o with
 |arr z rows=>
  simp only[BN]at hin;rcases hin.2 with⟨h5,_⟩|⟨b',c,t,fr,h5,h6,_⟩
  ·rw [h5]at hb;simp at hb
  ·rw [h5]at hb;simp at hb;subst hb;exact(JB.1 h6).1
 |map es=>
  simp only[BN]at hin;obtain⟨b',fs,cl,h5,h6,_⟩:=hin;rw[h5]at hb;simp at hb;subst hb;exact(JB.1 h6).1
 |Ih g lo hi=>
  simp only[BN]at hin;rw[hin.1]at hb;simp at hb
theorem B2.Ql(sm:B2 β h w)(o:Obj):B2 β h (w.alloc o)/\BR β h w β h (w.alloc o)/\Fz β h (w.alloc o) w.heap.size:=by
 have e:BR β h w β h (w.alloc o):=⟨rfl,rfl,rfl,by simp,AG _,λ_ _=>rfl,rfl,λb _ hl=>heap_alloc_old w _ hl,λb hb=>⟨⟨by have:=hb.1;simp;omega,hb.2⟩,heap_alloc_old w _ hb.1⟩⟩;refine⟨⟨sm.lt,λid o' ho=>BN.mv e.mv (λb hbb=>heap_alloc_old w _ (sm.Jm ho hbb)) (sm.ok id o' ho),sm.inj,λb hb=>by have:=sm.xs b hb;simp;omega,sm.nx⟩,e,⟨by simp,λid hid hbb=>?_,λhx=>by have:=sm.xs _ hx;omega⟩⟩;have:=sm.Jm (Yo hid) hbb;omega
def HI(β:BK)(n:Nat)(F:Nat->Prop)(w:World)(z:Nat)(rows:List (List PV))(c:Array Value):Prop:=
 ∀ (i:Nat)(r:List PV),rows[i]? =some r->r.length=z/\ ∀ (j:Nat)(p:PV),r[j]? =some p-> ∃ v,c[i*z+j]? =some v/\v.oneCell'=true/\AA β n F w p v
theorem HI.rep{n n':Nat}{F F':Nat->Prop}{z b:Nat}{rows:List (List PV)}{c:Array Value}{e:TypeId}{fr:Nat × Nat}(hr:HI β n F w z rows c)(m:Mv β n F w β' n' F' w')(hb:w'.heap[b]? =some (.cells c e fr)):BI β' n' F' w' z rows b 0:=by
 rw[Hi];intro i r hi;obtain⟨h1,h2⟩:=hr i r hi;refine⟨h1,?_⟩;rw[Hh];intro j p hp;obtain⟨v,h3,h4,h5⟩:=h2 j p hp;exact⟨v,by rw[cell_of_row _ _ _ c e fr hb,C7];exact h3,h4,AA.mv m p v h5⟩
theorem B2.Z1(sm:B2 β h w)(z:Nat)(rows:List (List PV))(c:Array Value)(e:TypeId)(hr:HI β h.next (Fz β h w) w z rows c)(hlen:rows.length*z<=c.size):
  B2 ⟨λid=>if id=h.next then⟨some w.heap.size,0,z,c.size⟩else β id,β.X⟩ (h.new (.arr z rows)) (w.alloc (.cells c e))/\
  BR β h w ⟨λid=>if id=h.next then⟨some w.heap.size,0,z,c.size⟩else β id,β.X⟩ (h.new (.arr z rows)) (w.alloc (.cells c e)):=by
 refine B2.step sm h.next (.arr z rows) rfl rfl rfl (by simp) (by simp[A0.new]) (λid hid=>by simp;intro e;omega) (by simp[A0.new]) (by simp[A0.new]) (λid hne=> .inr (by simp[A0.new,hne])) (λb hb=> .inl (by simp at hb;omega)) (λb hb _=>heap_alloc_old w _ hb) (λm=>?_)
 simp only[BN,AO];exact⟨trivial,.inr ⟨w.heap.size,c,e,(0,0),rfl,heap_alloc_new w _,rfl,by omega,λi _=>by simp,hr.rep m (heap_alloc_new w _)⟩⟩
theorem HI.of_flat{n:Nat}{F:Nat->Prop}{z:Nat}{c:Array Value}:{rows:List (List PV)}->{xs:List Value}->(∀ r∈rows,r.length=z)->AT β n F w rows.flatten xs->(∀ v∈xs,v.oneCell'=true)->(∀ (j:Nat)(v:Value),xs[j]? =some v->c[j]? =some v)->HI β n F w z rows c:=by
 intro rows xs hz hrep h1 hc i r hi;have hil:i<rows.length:=(List.getElem?_eq_some_iff.1 hi).1;refine⟨hz r (List.mem_of_getElem? hi),λj p hp=>?_⟩;have hjl:j<r.length:=(List.getElem?_eq_some_iff.1 hp).1;have hflat:rows.flatten[i*z+j]? =some p:=by
  clear hrep h1 hc
  induction rows generalizing i with
  |nil=>simp at hil
  |cons r0 rs ih=>
   have hr0:=hz r0 (by simp);simp only[List.flatten_cons];cases i with
   |zero=>
    simp at hi;subst hi;rw[Nat.zero_mul,C7,List.getElem?_append_left hjl];exact hp
   |succ i=>
    rw[List.getElem?_append_right (by rw[Jk];omega)];rw[show(i+1)*z+j-r0.length=i*z+j by rw[Jk];omega];exact ih (λq hq=>hz q (by simp[hq])) i (by simpa using hi) (by simpa using hil)
 obtain⟨v,hv,hr⟩:=hrep.get hflat;exact⟨v,hc _ v hv,h1 v (List.mem_of_getElem? hv),hr⟩
theorem B2.Z2(sm:B2 β h w)(z:Nat)(rows:List (List PV))(c:Array Value)(e:TypeId)(xs:List Value)(hz: ∀ r∈rows,r.length=z)
  (hrep:AT β h.next (Fz β h w) w rows.flatten xs)(h1: ∀ v∈xs,v.oneCell'=true)(hc: ∀ (j:Nat)(v:Value),xs[j]? =some v->c[j]? =some v)(hlen:rows.length*z<=c.size):
  B2 ⟨λid=>if id=h.next then⟨some w.heap.size,0,z,c.size⟩else β id,β.X⟩ (h.new (.arr z rows)) (w.alloc (.cells c e))/\
  BR β h w ⟨λid=>if id=h.next then⟨some w.heap.size,0,z,c.size⟩else β id,β.X⟩ (h.new (.arr z rows)) (w.alloc (.cells c e)):=
 B2.Z1 sm z rows c e (HI.of_flat hz hrep h1 hc) hlen
theorem B2.pU(sm:B2 β h w)(z:Nat):
  B2 ⟨λid=>if id=h.next then⟨none,0,z,0⟩else β id,β.X⟩ (h.new (.arr z [])) w/\
  BR β h w ⟨λid=>if id=h.next then⟨none,0,z,0⟩else β id,β.X⟩ (h.new (.arr z [])) w:=by
 refine B2.step sm h.next (.arr z []) rfl rfl rfl (AG _) (by simp[A0.new]) (λid hid=>by simp;intro e;omega) (by simp[A0.new]) (by simp[A0.new]) (λid hne=> .inr (by simp[A0.new,hne])) (λb hb=>by simp at hb) (λb _ _=>rfl) (λm=>?_)
 simp[BN]
theorem PE(t:TypeId)(x:Value)(w:World):(newVar t x).run P w= .ok ⟨w.heap.size,0,none⟩ (w.alloc (.cells x.cells t)):=by
 simp[newVar,newRow]
theorem Th(sm:B2 β h w)(t:TypeId)(x:Value)(cs:List PV)(hx:AT β h.next (Fz β h w) w cs x.cells.toList)(h1: ∀ v∈x.cells.toList,v.oneCell'=true):
  ∃ β',B2 β' (h.new (.arr cs.length [cs])) (w.alloc (.cells x.cells t))/\BR β h w β' (h.new (.arr cs.length [cs])) (w.alloc (.cells x.cells t))/\
   AS β' (h.new (.arr cs.length [cs])) (w.alloc (.cells x.cells t)) (.ptr h.next 0 0) (.pointer (some ⟨w.heap.size,0,none⟩)):=by
 have hl:=hx.len;obtain⟨a1,a2⟩:=B2.Z2 sm cs.length [cs] x.cells t x.cells.toList (by simp) (by simpa using hx) h1 (λj v hv=>by simpa using hv) (by simp at hl⊢;omega);refine⟨_,a1,a2,?_⟩;simp[AS,AA,A0.new]
theorem ZQ(sm:B2 β h w)(t:TypeId)(x:Value)(cs:List PV)(hx:AT β h.next (Fz β h w) w cs x.cells.toList)(h1: ∀ v∈x.cells.toList,v.oneCell'=true):
  B2 β h (w.alloc (.cells x.cells t))/\BR β h w β h (w.alloc (.cells x.cells t))/\
   AS β h (w.alloc (.cells x.cells t)) (.Aj cs) (.pointer (some ⟨w.heap.size,0,none⟩)):=by
 obtain⟨s1,e,hF⟩:=sm.Ql (.cells x.cells t);refine⟨s1,e,?_⟩;simp only[AS,AA];refine⟨w.heap.size,0,hF,rfl,?_⟩
 ·rw [Hh];intro j p hp;obtain⟨v,hv,hr⟩:=hx.get hp;refine⟨v,?_,h1 v (List.mem_of_getElem? hv),AA.mv e.mv p v hr⟩;rw[cell_of_row _ _ _ _ _ (0,0) (heap_alloc_new w _),C7];simpa using hv
end
end Go.AM
namespace Go.AM
section
variable {P:Program}{β β':BK}{h h':A0}{w w':World}{s:AE}{a:Act}
theorem ZR(w:World)(g o:Nat)(cur:Array Value)(t:TypeId)(fr:Nat × Nat)(v:Value)(hg:w.heap[g]? =some (.cells cur t fr)):
  w.setCell ⟨g,o,none⟩ v=w.setRow g (cur.setIfInBounds o v):=by
 have hlt:g<w.heap.size:=(JB.1 hg).1;have hv:w.heap[g]= .cells cur t fr:=(JB.1 hg).2;unfold World.setCell World.setRow;congr 1;apply Array.ext
 ·simp
 ·intro i h1 h2;simp only[Array.getElem_modify];split
  ·rename_i hgi;subst hgi;simp[hv]
  ·rfl
theorem Qx(g o:Nat)(t:TypeId)(fr:Nat × Nat): ∀ (vs:List Value)(i:Nat)(cur:Array Value)(w:World),w.heap[g]? =some (.cells cur t fr)->o+i+vs.length<=cur.size->
  (∀ j,j<cur.size->¬ (fr.1<=j/\j<fr.2))->(∀ v∈vs,v.oneCell'=true)->
  (storeCells ⟨g,o,none⟩ vs i).run P w= .ok () (w.setRow g (cur.toList.take (o+i)++vs++cur.toList.drop (o+i+vs.length)).toArray)
 |[],i,cur,w,hg,_,_,_=>by
  simp only[storeCells,List.append_nil,List.length_nil,GC,List.take_append_drop,Array.toArray_toList];rw[setRow_self w g cur t fr hg];try rfl
 |v::rest,i,cur,w,hg,hl,hf,h1=>by
  have hi:o+i<cur.size:=by simp at hl;omega
  have hcell:w.cell? ⟨g,o+i,none⟩=some cur[o+i]:=by simp[World.cell?,hg,hi]
  have hfro:w.frozen? ⟨g,o+i,none⟩=false:=by
   have:=hf (o+i) hi;cases hd:w.frozen? ⟨g,o+i,none⟩with
   |false=>rfl
   |true=>simp[World.frozen?,hg]at hd;exact absurd hd this
  have hst:(store ((⟨g,o,none⟩:Addr).add i) v).run P w= .ok () (w.setRow g (cur.setIfInBounds (o+i) v)):=by
   rw[Addr.add_lit,run_store P w _ v _ (h1 v (by simp)),hcell];simp[hfro,ZR w g (o+i) cur t fr v hg]
  have ih:=Qx g o t fr rest (i+1) (cur.setIfInBounds (o+i) v) (w.setRow g (cur.setIfInBounds (o+i) v)) (setRow_heap w g cur _ t _ hg) (by simp at hl⊢;omega) (by simpa using hf) (λx hx=>h1 x (by simp[hx]));simp only[storeCells,Sem.run_bind,hst,Result.andThen_ok,ih,setRow_setRow];congr 3;have e:=list_seg_step cur.toList (o+i) v rest (by simp at hl⊢;omega);simpa[Array.toList_setIfInBounds,Qg]using e
theorem Qy{α:Type}(l m:List α)(o j:Nat)(ho:o+m.length<=l.length):(l.take o++m++l.drop (o+m.length))[j]? =if o<=j/\j<o+m.length then m[j-o]? else l[j]?:=by
 rw[List.append_assoc,List.getElem?_append,List.length_take,Nat.min_eq_left (by omega)];by_cases h1:j<o
 ·rw [AK h1,A7 (by omega),List.getElem?_take,AK h1]
 ·rw [A7 h1,List.getElem?_append];by_cases h2:j<o+m.length
  ·rw [AK (by omega),AK (by omega)]
  ·rw [A7 (by omega),A7 (by omega),List.getElem?_drop];congr 1;omega
theorem Nb{α:Type}(l m:List α)(o:Nat)(ho:o+m.length<=l.length):(l.take o++m++l.drop (o+m.length)).length=l.length:=by
 simp only[List.length_append,List.length_take,List.length_drop];omega
theorem Ti(r vc:List PV)(f j:Nat)(hf:f+vc.length<=r.length):(Jo r f vc)[j]? =if f<=j/\j<f+vc.length then vc[j-f]? else r[j]?:=Qy r vc f j hf
theorem Tj(r vc:List PV)(f:Nat)(hf:f+vc.length<=r.length):(Jo r f vc).length=r.length:=Nb r vc f hf
theorem Tm{z i i' f j n:Nat}(hne:i≠i')(hf:f+n<=z)(hj:j<z):¬ (i*z+f<=i'*z+j/\i'*z+j<i*z+f+n):=by
 intro⟨h1,h2⟩;rcases Nat.lt_or_gt_of_ne hne with h3|h3
 ·have:(i+1)*z<=i'*z:=LO _ h3;rw[Jk]at this;omega
 ·have:(i'+1)*z<=i*z:=LO _ h3;rw[Jk]at this;omega
theorem ZS(sm:B2 β h w){t n:Nat}{p q:PV}{x y:Value}(hz:CQ P t=some n)(hn:q.cells.length=n)(hone:q.cells.all Cs=true)
  (hw:wr h q.cells p=some h')(hx:AS β h w p x)(hy:AS β h w q y):
  ∃ w',(Instr.storeAt t x y).run P w= .ok () w'/\B2 β h' w'/\BR β h w β h' w':=by
 cases p with
 |ptr id i f=>
  simp only[wr]at hw;split at hw
  ·rename_i z rows hob;split at hw
   ·rename_i r hri;split at hw
    ·rename_i hfit;simp only[BC]at hw;subst hw;obtain⟨hyl,hy1⟩:=AA.cells hone hy;have hok:=sm.ok id _ hob;simp only[BN]at hok;simp only[AS,AA]at hx;obtain⟨hid,b,hb,rfl⟩:=hx;rcases hok.2 with⟨_,h2⟩|⟨b',c,e,fr,h5,h6,h7,h8,h9,h10⟩
     ·subst h2;simp at hri
     ·rw [hb]at h5;simp at h5;subst h5;rw[hok.1];have hri':=(Hi.1 h10) i r hri;have hilt:i<rows.length:=(List.getElem?_eq_some_iff.1 hri).1;have hle:(i+1)*z<=rows.length*z:=LO _ hilt;rw[Jk]at hle;have hvl:=hyl.len;have hst:=Qx (P:=P) b ((β id).o+i*z+f) e fr y.cells.toList 0 c w h6 (by rw[h7, ← hvl];omega) h9 hy1;simp only[GC]at hst;refine⟨w.setRow b (c.toList.take ((β id).o+i*z+f)++y.cells.toList++c.toList.drop ((β id).o+i*z+f+y.cells.toList.length)).toArray,?_,?_⟩
      ·have hsz:y.cells.size=n:=(by rw[← hn,hvl,Ed]);simp only[Instr.storeAt,Instr.sureAddr,Sem.run_bind,Sem.run_pure,Result.andThen_ok,storeVar,NZ hz,hsz,ne_eq,ES,AP];exact hst
      ·have hfit2:(β id).o+i*z+f+y.cells.toList.length<=c.toList.length:=(by have e1:c.toList.length=c.size:=Ed;omega);refine B2.step sm id (.arr z (rows.set i (Jo r f q.cells))) rfl rfl rfl (by simp) (by simp[A0.set]) (λ_ _=>rfl) (by simp[A0.set]) (sm.lt id (by rw[hob];try rfl)) (λid' hne=> .inr (by simp[A0.set,hne])) (λb' hb'=> .inr ⟨id,by rw[hob];try rfl,hb',.inl rfl⟩) (λb' _ hb'=>setRow_other _ _ _ _ (λhbe=>hb' (by rw[hbe];exact hb))) (λm=>?_);simp only[BN];refine⟨hok.1,.inr ⟨b,_,e,fr,hb,setRow_heap w b c _ e fr h6,?_,by simpa using h8,?_,?_⟩⟩
       ·rw [← h7];simp only[List.size_toArray];rw[Nb _ _ _ hfit2,Ed]
       ·intro j hj;apply h9;simp only[List.size_toArray]at hj;rw[Nb _ _ _ hfit2,Ed]at hj;exact hj
       ·rw [Hi];intro i' r' hr';rw[List.getElem?_set]at hr';have hcell: ∀ j,((w.setRow b (c.toList.take ((β id).o+i*z+f)++y.cells.toList++c.toList.drop ((β id).o+i*z+f+y.cells.toList.length)).toArray).cell? ⟨b,j,none⟩)=if(β id).o+i*z+f<=j/\j<(β id).o+i*z+f+y.cells.toList.length then y.cells.toList[j-((β id).o+i*z+f)]? else w.cell? ⟨b,j,none⟩:=by
         intro j;rw[cell_setRow_same w b j c _ e fr h6,cell_of_row w b j c e fr h6];rw[List.getElem?_toArray,Qy _ _ _ _ hfit2];simp
        split at hr'
        ·rename_i hie;subst hie;simp at hr';subst hr';refine⟨by rw[Tj _ _ _ hfit];exact hri'.1,?_⟩;rw[Hh];intro j p' hp';rw[Ti _ _ _ _ hfit]at hp';rw[hcell];split at hp'
         ·rename_i hj;rw[AK (by rw[← hvl];omega)];obtain⟨v,hv,hr⟩:=hyl.get hp';refine⟨v,?_,hy1 v (List.mem_of_getElem? hv),AA.mv m p' v hr⟩;rw[show(β id).o+i*z+j-((β id).o+i*z+f)=j-f by omega];exact hv
         ·rename_i hj;rw[A7 (by rw[← hvl];omega)];obtain⟨v,hv,hv1,hr⟩:=(Hh.1 hri'.2) j p' hp';exact⟨v,hv,hv1,AA.mv m p' v hr⟩
        ·rename_i hie;have hri2:=(Hi.1 h10) i' r' hr';refine⟨hri2.1,?_⟩;rw[Hh];intro j p' hp';have hjz:j<z:=(by rw[← hri2.1];exact(List.getElem?_eq_some_iff.1 hp').1);have htr:=Tm (z:=z) (f:=f) (j:=j) (n:=q.cells.length) hie (by rw[← hri'.1];exact hfit) hjz;rw[hcell,A7 (by rw[← hvl];omega)];obtain⟨v,hv,hv1,hr⟩:=(Hh.1 hri2.2) j p' hp';exact⟨v,hv,hv1,AA.mv m p' v hr⟩
    ·simp at hw
   ·simp at hw
  ·simp at hw
 |_=>simp[wr]at hw
theorem Qz(sm:B2 β h w){z:Nat}{p:PV}{x:Value}{rows:List (List PV)}(hv:Gj h p=some rows)(hzk:Dx h z p=true)(hx:AS β h w p x):
  ∃ aa cap,x= .slice aa rows.length cap/\rows.length<=cap/\(rows=[]\/ ∃ b o,aa=some ⟨b,o,none⟩/\BI β h.next (Fz β h w) w z rows b o):=by
 unfold Gj at hv;split at hv
 ·rename_i z' rows';simp at hv;subst hv;simp[Dx]at hzk;subst hzk;simp only[AS,AA]at hx;obtain⟨aa,cap,rfl,h2,_,h3⟩:=hx;exact⟨aa,cap,rfl,h2,h3.imp id (λ⟨b,o,_,h5,h6⟩=>⟨b,o,h5,h6⟩)⟩
 ·simp at hv;subst hv;simp only[AS,AA]at hx;obtain⟨aa,rfl⟩:=hx;exact⟨aa,0,rfl,AG _,.inl rfl⟩
 ·simp at hv;subst hv;simp only[AS,AA]at hx;exact⟨none,0,hx,AG _,.inl rfl⟩
 ·simp at hv;subst hv;simp only[AS,AA]at hx;exact⟨_,_,hx,Bj _,.inl rfl⟩
 ·rename_i id off len;split at hv
  ·rename_i z' rows' hob;split at hv
   ·rename_i hle;simp at hv;subst hv;simp[Dx,hob]at hzk;subst hzk;have hl:((rows'.drop off).take len).length=len:=(by simp;omega);simp only[AS,AA]at hx;obtain⟨hid,aa,cap,rfl,h2,h2',h3⟩:=hx;refine⟨aa,cap,by rw[hl],by rw[hl];exact h2,?_⟩;rcases h3 with h3|⟨b,h4,h5,h6⟩
    ·left;apply List.eq_nil_of_length_eq_zero;rw[hl];omega
    ·have hok:=sm.ok id _ hob;simp only[BN]at hok;rcases hok.2 with⟨h7,h8⟩|⟨b',c,e,fr,g5,g6,g7,g8,g9,g10⟩
     ·rw [h7]at h4;simp at h4
     ·rw [h4]at g5;simp at g5;subst g5;right;refine⟨b,_,h5,?_⟩;rw[hok.1];exact(g10.drop off).take len
   ·simp at hv
  ·simp at hv
 ·simp at hv
theorem PF{z:Nat}{rows:List (List PV)}{aa:Option Addr}{cap n:Nat}{F:Nat->Prop}(hz: ∀ r∈rows,r.length=z)
  (hx:rows=[]\/ ∃ b o,aa=some ⟨b,o,none⟩/\BI β n F w z rows b o):
  ∃ xs:List Value,(Builtin.firstCells z rows.length (.slice aa rows.length cap)).run P w= .ok xs.toArray w/\AT β n F w rows.flatten xs/\(∀ v∈xs,v.oneCell'=true)/\xs.length=rows.length*z:=by
 rcases hx with rfl|⟨b,o,rfl,h2⟩
 ·refine ⟨[],?_,by simp[AT],by simp,by simp⟩;cases aa with
  |none=>simp[Builtin.firstCells]
  |some aa=>simp[Builtin.firstCells,loadCells,loadCellsFrom]
 ·obtain ⟨xs,h3,h4,h5,h6⟩:=h2.vals;refine⟨xs,?_,h4,h5,h3⟩;exact run_firstCells_some w z rows.length ⟨b,o,none⟩ rows.length cap xs h3 (λj v hv=>by rw[Addr.add_lit];exact h6 j v hv)
theorem BI.lens{z b o n:Nat}{F:Nat->Prop}{rows:List (List PV)}(h:BI β n F w z rows b o): ∀ r∈rows,r.length=z:=by
 intro r hr;obtain⟨i,hi⟩:=List.getElem?_of_mem hr;exact((Hi.1 h) i r hi).1
theorem ZT(sm:B2 β h w){z id off len:Nat}{rows new:List (List PV)}{c:Array Value}{e:TypeId}{fr:Nat × Nat}{b cap:Nat}{ys:List Value}
  (hob:h.obj id=some (.arr z rows))(hle:off+len<=rows.length)(hb:(β id).b=some b)(h6:w.heap[b]? =some (.cells c e fr))(h7:c.size=(β id).sz)
  (h9: ∀ i,i<c.size->¬ (fr.1<=i/\i<fr.2))(h10:BI β h.next (Fz β h w) w z rows b (β id).o)(hcap:(β id).o+(off+cap)*z<=(β id).sz)(hroom:len+new.length<=cap)(hcm:cap<=maxLen)
  (hnz: ∀ r∈new,r.length=z)(hyl:AT β h.next (Fz β h w) w new.flatten ys)(hy1: ∀ v∈ys,v.oneCell'=true)(hyn:ys.length=new.length*z):
  ∃ w' β',(storeCells ⟨b,(β id).o+off*z+len*z,none⟩ ys).run P w= .ok () w'/\B2 β' ((h.kill id).new (.arr z ((rows.drop off).take len++new))) w'/\
   BR β h w β' ((h.kill id).new (.arr z ((rows.drop off).take len++new))) w'/\
   AS β' ((h.kill id).new (.arr z ((rows.drop off).take len++new))) w' (.own h.next 0 (len+new.length)) (.slice (some ⟨b,(β id).o+off*z,none⟩) (len+new.length) cap):=by
 have hlen:((rows.drop off).take len).length=len:=by simp;omega
 have hm1:(off+cap)*z=off*z+cap*z:=LN _ _ _;have hm2:(len+new.length)*z<=cap*z:=LO _ hroom;rw[LN]at hm2;have hfit:(β id).o+off*z+len*z+ys.length<=c.toList.length:=by have e1:c.toList.length=c.size:=Ed;omega
 have hst:=Qx (P:=P) b ((β id).o+off*z+len*z) e fr ys 0 c w h6 (by simpa using hfit) h9 hy1;simp only[GC]at hst;have hid:id<h.next:=sm.lt id (by rw[hob];try rfl)
 refine⟨_,⟨λi=>if i=h.next then⟨some b,(β id).o+off*z,z,(β id).sz⟩else β i,β.X⟩,hst,?_⟩;rw[← KU];refine⟨?_,?_⟩
 ·refine B2.step sm h.next (.arr z ((rows.drop off).take len++new)) rfl rfl rfl (by simp) (by simp[A0.new,A0.kill]) (λi hi=>by simp;intro e;omega) (by simp[A0.new,A0.kill]) (by simp[A0.new,A0.kill]) (λi hne=>?_) (λb' hb'=> .inr ⟨id,by rw[hob];try rfl,?_,.inr ?_⟩) (λb' _ hb'=>setRow_other _ _ _ _ (λhbe=>hb' (by simp[hbe]))) (λm=>?_)
  ·simp only[A0.new,A0.kill,hne,AP];by_cases hi:i=id
   ·simp [hi]
   ·simp [hi]
  ·simp at hb';subst hb';exact hb
  ·simp only[A0.new,A0.kill];rw[A7 (by omega)];simp
  ·simp only[BN,AO];refine⟨trivial,.inr ⟨b,_,e,fr,rfl,setRow_heap w b c _ e fr h6,?_,?_,?_,?_⟩⟩
   ·simp only[List.size_toArray];rw[Nb _ _ _ hfit,Ed,h7]
   ·simp only[List.length_append,hlen];rw[LN];omega
   ·intro j hj;apply h9;simp only[List.size_toArray]at hj;rw[Nb _ _ _ hfit,Ed]at hj;exact hj
   ·have hcell: ∀ j,((w.setRow b (c.toList.take ((β id).o+off*z+len*z)++ys++c.toList.drop ((β id).o+off*z+len*z+ys.length)).toArray).cell? ⟨b,j,none⟩)=if(β id).o+off*z+len*z<=j/\j<(β id).o+off*z+len*z+ys.length then ys[j-((β id).o+off*z+len*z)]? else w.cell? ⟨b,j,none⟩:=by
     intro j;rw[cell_setRow_same w b j c _ e fr h6,cell_of_row w b j c e fr h6];rw[List.getElem?_toArray,Qy _ _ _ _ hfit];simp
    have hold:=(h10.drop off).take len;have hnew:BI ⟨λi=>if i=h.next then⟨some b,(β id).o+off*z,z,(β id).sz⟩else β i,β.X⟩ ((h.kill id).new (.arr z ((rows.drop off).take len++new))).next
      (Fz ⟨λi=>if i=h.next then⟨some b,(β id).o+off*z,z,(β id).sz⟩else β i,β.X⟩ ((h.kill id).new (.arr z ((rows.drop off).take len++new))) (w.setRow b (c.toList.take ((β id).o+off*z+len*z)++ys++c.toList.drop ((β id).o+off*z+len*z+ys.length)).toArray))
      (w.setRow b (c.toList.take ((β id).o+off*z+len*z)++ys++c.toList.drop ((β id).o+off*z+len*z+ys.length)).toArray) z new b ((β id).o+off*z+len*z):=by
     refine BI.Z0 hnz (AT.mv m _ _ hyl) hy1 (λj v hv=>?_);have hj:j<ys.length:=(List.getElem?_eq_some_iff.1 hv).1;rw[hcell,AK (by omega)];rw[show(β id).o+off*z+len*z+j-((β id).o+off*z+len*z)=j by omega];exact hv
    rw[Hi]at hold hnew⊢;intro i r hr;rw[List.getElem?_append,hlen]at hr;split at hr
    ·rename_i hi;have h1:=hold i r hr;refine⟨h1.1,?_⟩;rw[Hh];intro j p hp;have hjz:j<z:=(by rw[← h1.1];exact(List.getElem?_eq_some_iff.1 hp).1);have hi2:(i+1)*z<=len*z:=LO _ hi;rw[Jk]at hi2;rw[hcell,A7 (by omega)];obtain⟨v,hv,hv1,hr'⟩:=(Hh.1 h1.2) j p hp;exact⟨v,hv,hv1,AA.mv m p v hr'⟩
    ·rename_i hi;have h1:=hnew (i-len) r hr;have he:(β id).o+off*z+len*z+(i-len)*z=(β id).o+off*z+i*z:=by
      have:len*z+(i-len)*z=i*z:=(by rw[← LN];congr 1;omega);omega
     rw[he]at h1;exact h1
 ·simp only[AS,AA];refine⟨by simp[A0.new,A0.kill],_,cap,rfl,hroom,hcm,.inr ⟨b,by simp,by simp,?_⟩⟩;simp only[AO,C7];omega
theorem ZU(w:World)(t ty e:TypeId)(i:TypeInfo)(z:Value)(ht:P.underlying t=some (.slice e))(hi:P.info? e=some i)(hz:i.zero=some z)
  (ax ay:Option Addr)(sLen sCap n c:Nat)(olds news:List Value)
  (ho:(Builtin.firstCells i.size sLen (.slice ax sLen sCap)).run P w.drew= .ok olds.toArray w.drew)
  (hn:(Builtin.firstCells i.size n (.slice ay n c)).run P w.drew= .ok news.toArray w.drew)
  (hg:sCap<sLen+n)(h63:((sLen+n:Nat):Int)<=9223372036854775807)(hfit:Builtin.nextslicecap (sLen+n) sCap*i.bytes<=281474976710656):
  (Builtin.append_ #[t,t] ty #[.slice ax sLen sCap,.slice ay n c]).run P w=
   .ok (.slice (some ⟨w.heap.size,0,none⟩) (sLen+n) (grownCap w (sLen+n) sCap e))
    (w.drew.alloc (.cells (olds++news++(Builtin.zeroCells z.cells (grownCap w (sLen+n) sCap e-(sLen+n))).toList).toArray e)):=by
 have hn':¬ (sLen+n<=sCap):=by omega
 have h63':¬ (9223372036854775807<((sLen:Int)+(n:Int))):=by omega
 have h48':¬ (281474976710656<Builtin.nextslicecap (sLen+n) sCap*i.bytes):=by omega
 simp[Builtin.append_,run_underlying ht,sizeOf,typeInfo,zeroValue,hi,hz,Builtin.lenOf,hn',h63',h48',Question.forced,hn,ho,newRow,grownCap];congr 2;apply Array.ext';simp
theorem ZV(sm:B2 β h w){t:Nat}{zb:Nat × Nat}{p q r:PV}{x y:Value}(ty:TypeId)(hz:Dc P t=some zb)
  (ha:Ld zb.1 zb.2 h p q=some (r,h'))(hx:AS β h w p x)(hy:AS β h w q y):
  ∃ v w' β',(Builtin.append_ #[t,t] ty #[x,y]).run P w= .ok v w'/\B2 β' h' w'/\BR β h w β' h' w'/\AS β' h' w' r v:=by
 obtain⟨z,bytes⟩:=zb;obtain⟨e,i,zv,hu,hi,hsz,hby,hiz,hzl⟩:=Mg hz;simp only at hsz hby hzl;unfold Ld at ha;simp only at ha;split at ha
 case isFalse=>simp at ha
 rename_i hcond;simp only[AV,Ba]at hcond;obtain⟨⟨⟨hzp,hzq⟩,hzpos⟩,hbpos⟩:=hcond;split at ha
 case h_2=>simp at ha
 rename_i new h1 B1 hvq hit;split at ha
 case isFalse=>simp at ha
 rename_i hbytes;simp only[BC,C4]at ha;obtain⟨rfl,rfl⟩:=ha;obtain⟨aq,capq,rfl,hcapq,hq⟩:=Qz sm hvq hzq hy;have hvp:Gj h p=some B1/\(h1=h\/ ∃ id,h1=h.kill id):=by
  unfold F3 at hit;split at hit
  ·simp at hit;obtain⟨rfl,rfl⟩:=hit;exact⟨rfl,.inl rfl⟩
  ·simp at hit;obtain⟨rfl,rfl⟩:=hit;exact⟨rfl,.inl rfl⟩
  ·rename_i id off len;split at hit
   ·rename_i z' rows hob;simp at hit;obtain⟨hle,rfl,rfl⟩:=hit;exact⟨by simp[Gj,hob,hle],.inr ⟨id,rfl⟩⟩
   ·simp at hit
  ·simp at hit
 obtain⟨ap,capp,hxe,hcapp,hp⟩:=Qz sm hvp.1 hzp hx;have hnext:h1.next=h.next:=by rcases hvp.2 with rfl|⟨id,rfl⟩<;>rfl
 have hmax:B1.length+new.length<=140737488355328:=ER (pL _ hbpos) hbytes;have hnz: ∀ r∈new,r.length=z:=by
  rcases hq with rfl|⟨b,o,_,h3⟩
  ·simp
  ·exact h3.lens
 have hoz: ∀ r∈B1,r.length=z:=by
  rcases hp with rfl|⟨b,o,_,h3⟩
  ·simp
  ·exact h3.lens
 have hkill:B2 β h1 w/\BR β h w β h1 w:=by
  rcases hvp.2 with rfl|⟨id,rfl⟩
  ·exact ⟨sm,BR.refl⟩
  ·exact sm.kill id
 obtain⟨ys,hyr,hyl,hy1,hyn⟩:=PF (P:=P) (w:=w) (cap:=capq) hnz hq;by_cases hg:B1.length+new.length<=capp
 ·by_cases hc0:capp=0
  ·-- nothing is there and nothing comes
   have ho:B1=[]:=List.eq_nil_of_length_eq_zero (by omega);have hn:new=[]:=List.eq_nil_of_length_eq_zero (by omega);subst ho;subst hn;subst hc0;obtain⟨a1,a2⟩:=B2.pU hkill.1 z;have hys:ys=[]:=List.eq_nil_of_length_eq_zero (by simpa using hyn);subst hys;refine⟨.slice ap 0 0,w,_,?_,by simpa using a1,by simpa using hkill.2.trans a2,?_⟩
   ·subst hxe;simp only[List.length_nil]at hyr;have hyr':(Builtin.firstCells i.size 0 (.slice aq 0 capq)).run P w= .ok #[] w:=(by rw[hsz];exact hyr);cases ap<;>simp[Builtin.append_,run_underlying hu,sizeOf,typeInfo,hi,Builtin.lenOf,hyr',storeCells]
   ·simp only[AS,AA,List.length_nil,GC,List.append_nil];refine⟨by simp[A0.new,hnext],ap,0,rfl,AG _,Bj _,.inl rfl⟩
  ·-- there is room
   unfold F3 at hit;split at hit
   ·simp only[AS,AA]at hx;obtain⟨a0,rfl⟩:=hx;simp at hxe;omega
   ·simp only[AS,AA]at hx;rw[hx]at hxe;simp at hxe;omega
   ·rename_i id off len;split at hit
    ·rename_i z' rows hob;split at hit
     ·rename_i hle;simp at hit;obtain⟨rfl,rfl⟩:=hit;have hz':z'=z:=(by simpa[Dx,hob]using hzp);subst hz';have hlen:((rows.drop off).take len).length=len:=(by simp;omega);simp only[AS,AA]at hx;obtain⟨hid,a1,cap1,rfl,h2,h2',h3⟩:=hx;simp only[Value.slice.injEq]at hxe;obtain⟨rfl,_,rfl⟩:=hxe;rcases h3 with h3|⟨b,h4,h5,h6⟩
      ·exact absurd h3 hc0
      ·subst h5;have hok:=sm.ok id _ hob;simp only[BN]at hok;rcases hok.2 with⟨h7,h8⟩|⟨b',c,e',fr,g5,g6,g7,g8,g9,g10⟩
       ·rw [h7]at h4;simp at h4
       ·rw [h4]at g5;simp at g5;subst g5;rw[hok.1]at h6⊢;rw[hlen]at hg hmax⊢;obtain⟨w',β',q1,q2,q3,q4⟩:=ZT (P:=P) sm hob hle h4 g6 g7 g9 g10 h6 hg h2' hnz hyl hy1 hyn;refine⟨_,w',β',?_,q2,q3,q4⟩;have hyr':(Builtin.firstCells i.size new.length (.slice aq new.length capq)).run P w= .ok ys.toArray w:=(by rw[hsz];exact hyr);simp[Builtin.append_,run_underlying hu,sizeOf,typeInfo,hi,Builtin.lenOf,hyr',hg,Addr.add_lit];rw[hsz,q1];try rfl
     ·simp at hit
    ·simp at hit
   ·simp at hit
 ·-- it grows
  obtain⟨d1,d2⟩:=hkill.1.drew;have hq':new=[]\/ ∃ b o,aq=some ⟨b,o,none⟩/\BI β h.next (Fz β h w) w.drew z new b o:=by
   refine hq.imp id (λ⟨b,o,q1,q2⟩=>⟨b,o,q1,?_⟩);exact BI.KX (sm.drew.2.mv) rfl z new o q2
  have hp':B1=[]\/ ∃ b o,ap=some ⟨b,o,none⟩/\BI β h.next (Fz β h w) w.drew z B1 b o:=by
   refine hp.imp id (λ⟨b,o,q1,q2⟩=>⟨b,o,q1,?_⟩);exact BI.KX (sm.drew.2.mv) rfl z B1 o q2
  obtain⟨ys',hyr',hyl',hy1',hyn'⟩:=PF (P:=P) (w:=w.drew) (cap:=capq) hnz hq';obtain⟨os,hor,hol,ho1,hon⟩:=PF (P:=P) (w:=w.drew) (cap:=capp) hoz hp';have hrun:=ZU (P:=P) w t ty e i zv hu hi hiz ap aq B1.length capp new.length capq os ys' (by rw[hsz];exact hor) (by rw[hsz];exact hyr') (by omega) (by omega) (growslice_fits (by omega) (by rw[hby];exact hbytes));have hge:=grownCap_ge w (B1.length+new.length) capp e;have hgm:grownCap w (B1.length+new.length) capp e<=maxLen:=grownCap_le_maxLen w _ _ e (by simp only[maxLen];omega);have hcs:(os++ys'++(Builtin.zeroCells zv.cells (grownCap w (B1.length+new.length) capp e-(B1.length+new.length))).toList).toArray.size=grownCap w (B1.length+new.length) capp e*z:=by
   simp only[List.size_toArray,List.length_append,hon,hyn',Ed,size_zeroCells,hzl, ← LN];congr 1;omega
  have hflat:AT β h1.next (Fz β h1 w.drew) w.drew (B1++new).flatten (os++ys'):=by
   rw[List.flatten_append];exact AT.mv ⟨by omega,λ_ _ _=>rfl,λb hb=>⟨(hkill.2.fz b hb).1,rfl⟩⟩ _ _ (AT.append hol hyl')
  have hmm:=LO z hge;obtain⟨a1,a2⟩:=B2.Z2 d1 z (B1++new) (os++ys'++(Builtin.zeroCells zv.cells (grownCap w (B1.length+new.length) capp e-(B1.length+new.length))).toList).toArray e (os++ys')
   (λr hr=>(List.mem_append.1 hr).elim (hoz r) (hnz r)) hflat (λv hv=>(List.mem_append.1 hv).elim (ho1 v) (hy1' v))
   (λj v hv => by
    rw[List.getElem?_toArray,List.getElem?_append_left (List.getElem?_eq_some_iff.1 hv).1];exact hv)
   (by rw[hcs,List.length_append];exact hmm)
  subst hxe;refine⟨_,_,_,hrun,a1,(hkill.2.trans d2).trans a2,?_⟩;simp only[AS,AA];refine⟨by simp[A0.new,hnext],_,_,rfl,hge,hgm,.inr ⟨w.heap.size,by simp[hnext],by simp[hnext],?_⟩⟩;simp only[hnext,AO,C7];rw[hcs];exact AG _
end
end Go.AM
namespace Go.AM
section
variable {P:Program}{β β':BK}{h h':A0}{w w':World}{s:AE}{a:Act}
theorem Nc{n:Nat}{F:Nat->Prop}{p:PV}{k:Int}{x:Value}(hp:Gw p=some k)(hx:AA β n F w p x): ∃ kk,x= .int kk k:=by
 cases p with
 |sc v=>cases v<;>simp[Gw]at hp;subst hp;simp only[AA]at hx;exact⟨_,hx⟩
 |_=>simp[Gw]at hp
theorem ZW(sm:B2 β h w){t:Nat}{zb:Nat × Nat}{p q:PV}{x:Value}{k:IntKind}{n:Int}(hz:Dc P t=some zb)(hi:Kh h zb.1 p n=some q)(hx:AS β h w p x):
  ∃ v,(Instr.indexAt t x (.int k n)).run P w= .ok v w/\AS β h w q v:=by
 obtain⟨e,i,zv,hu,hin,hsz,hby,hiz,hzl⟩:=Mg hz;unfold Kh at hi;split at hi
 case isFalse=>simp at hi
 rename_i h0;have hrun: ∀ (aa:Addr)(len cap:Nat),n.toNat<len->(Instr.indexAt t (.slice (some aa) len cap) (.int k n)).run P w= .ok (.pointer (some (aa.add (n.toNat*zb.1)))) w:=by
  intro aa len cap hlt;have h1:n<(len:Int):=by omega
  simp[Instr.indexAt,asIntOf,run_underlying hu,h0,h1,sizeOf,typeInfo,hin,hsz]
 split at hi
 ·rename_i z' rows;split at hi
  case isFalse=>simp at hi
  rename_i hzz;subst hzz;cases hr:rows[n.toNat]? with
  |none=>simp[hr]at hi
  |some r=>
   simp[hr]at hi;subst hi;have hlt:n.toNat<rows.length:=(List.getElem?_eq_some_iff.1 hr).1;simp only[AS,AA]at hx;obtain⟨aa,cap,rfl,_,_,h3⟩:=hx;rcases h3 with rfl|⟨b,o,h4,rfl,h5⟩
   ·simp at hlt
   ·refine ⟨_,hrun _ _ _ hlt,?_⟩;rw[Addr.add_lit];simp only[AS,AA];exact⟨b,_,h4,rfl,((Hi.1 h5) _ r hr).2⟩
 ·rename_i id off len;split at hi
  case h_2=>simp at hi
  rename_i z' rows hob;split at hi
  case isFalse=>simp at hi
  rename_i hc;simp at hi;subst hi;simp only[AS,AA]at hx;obtain⟨hid,aa,cap,rfl,h2,_,h3⟩:=hx;rcases h3 with h3|⟨b,h4,rfl,h6⟩
  ·omega
  ·refine ⟨_,hrun _ _ _ hc.2,?_⟩;rw[Addr.add_lit];have hok:=sm.ok id _ hob;simp only[BN]at hok;simp only[AS,AA];refine⟨hid,b,h4,?_⟩;have hzb:(β id).z=zb.1:=(by rw[hok.1];exact hc.1);rw[hzb,LN,GC,Qg]
 ·simp at hi
theorem ZX{t:Nat}{na:Nat × Nat}{p q:PV}{x:Value}{k:IntKind}{n:Int}(hz:Kf P t=some na)(hi:MY na.1 na.2 p n=some q)(hx:AS β h w p x):
  ∃ v,(Instr.indexAt t x (.int k n)).run P w= .ok v w/\AS β h w q v:=by
 obtain⟨e,i,hu,hin,hsz⟩:=Te hz;unfold MY at hi;split at hi
 case isFalse=>simp at hi
 rename_i h0;have hrun: ∀ (aa:Addr),(Instr.indexAt t (.pointer (some aa)) (.int k n)).run P w= .ok (.pointer (some (aa.add (n.toNat*na.2)))) w:=by
  intro aa;simp[Instr.indexAt,asIntOf,run_underlying hu,h0.1,h0.2,sizeOf,typeInfo,hin,hsz,Instr.sureAddr]
 split at hi
 ·rename_i id r f;simp at hi;subst hi;simp only[AS,AA]at hx;obtain⟨hid,b,hb,rfl⟩:=hx;refine⟨_,hrun _,?_⟩;rw[Addr.add_lit];simp only[AS,AA];exact⟨hid,b,hb,by simp[Qg]⟩
 ·rename_i cs;split at hi
  case isFalse=>simp at hi
  simp at hi;subst hi;simp only[AS,AA]at hx;obtain⟨b,o,h1,rfl,h3⟩:=hx;refine⟨_,hrun _,?_⟩;rw[Addr.add_lit];simp only[AS,AA];exact⟨b,_,h1,rfl,(h3.drop _).take _⟩
 ·simp at hi
theorem ZY{t f:Nat}{o:Nat × Nat × Bool}{p q:PV}{x:Value}(ho:BT P t f=some o)(hf:MZ o.1 o.2.1 p=some q)(hx:AS β h w p x):
  ∃ v,(Instr.fieldAt t x f).run P w= .ok v w/\AS β h w q v:=by
 obtain⟨fs,fd,hu,hfd,hsz,hof,hag⟩:=ZO ho;have hrun: ∀ aa:Addr,0<o.2.1->(Instr.fieldAt t (.pointer (some aa)) f).run P w= .ok (.pointer (some (aa.add o.1))) w:=by
  intro aa hpos;simp[Instr.fieldAt,run_underlying hu,hfd,Instr.sureAddr,fieldPlace,NZ hsz,hof];intro h0;omega
 unfold MZ at hf;split at hf
 ·rename_i id i c;split at hf
  case isFalse=>simp at hf
  rename_i hpos;simp at hf;subst hf;simp only[AS,AA]at hx;obtain⟨hid,b,hb,rfl⟩:=hx;refine⟨_,hrun _ hpos,?_⟩;rw[Addr.add_lit];simp only[AS,AA];exact⟨hid,b,hb,by simp[Qg]⟩
 ·rename_i cs;split at hf
  case isFalse=>simp at hf
  rename_i hc;simp at hf;subst hf;simp only[AS,AA]at hx;obtain⟨b,oo,h1,rfl,h3⟩:=hx;refine⟨_,hrun _ hc.1,?_⟩;rw[Addr.add_lit];simp only[AS,AA];exact⟨b,_,h1,rfl,(h3.drop _).take _⟩
 ·simp at hf
theorem ZZ{t:Nat}{na:Nat × Nat × Bool}(h:NT P t=some na): ∃ e,P.underlying t=some (.array na.1 e)/\CQ P e=some na.2.1/\Cj P e=na.2.2:=by
 unfold NT at h;split at h
 ·rename_i n e hu;simp only[LP]at h;obtain⟨z,hz,rfl⟩:=h;exact⟨e,hu,hz,rfl⟩
 ·simp at h
theorem Za{t:Nat}{na:Nat × Nat × Bool}{cs:List PV}{v:PV}{x:Value}{k:IntKind}{n:Int}(ho:NT P t=some na)(h0:0<=n/\n<na.1)(hv:JF na.2.2 na.2.1 (cs.drop (n.toNat*na.2.1))=some v)(hx:AS β h w (.agg cs) x):
  ∃ u,(Instr.index t x (.int k n)).run P w= .ok u w/\AS β h w v u:=by
 obtain⟨e,hu,hsz,hag⟩:=ZZ ho;obtain⟨d,i,hd,hi,hn⟩:=Qw hsz;simp only[AS,AA]at hx;obtain⟨xs,rfl,h1,h2⟩:=hx;have hlen:=h2.len;unfold JF at hv;rw[← hag]at hv;by_cases ha:Cj P e=true
 ·rw [AK ha]at hv;split at hv
  case isFalse=>simp at hv
  simp at hv;subst hv;refine⟨.agg ((xs.drop (n.toNat*na.2.1)).take na.2.1).toArray,?_,?_⟩
  ·simp [Instr.index,asIntOf,run_underlying hu,h0.1,h0.2,part,Na hd,ha,NZ hsz,asAgg,List.extract_eq_take_drop]
  ·simp only[AS,AA];exact⟨_,rfl,λu hu=>h1 u (List.mem_of_mem_drop (List.mem_of_mem_take hu)),(h2.drop _).take _⟩
 ·have ha':Cj P e=false:=by simpa using ha
  rw[ha']at hv;simp only[BQ,AP]at hv;rw[List.head?_eq_getElem?,List.getElem?_drop]at hv;obtain⟨u,hu',hr⟩:=h2.get hv;refine⟨u,?_,hr⟩;simp at hu';simp[Instr.index,asIntOf,run_underlying hu,h0.1,h0.2,part,Na hd,ha',NZ hsz,asAgg,hu']
theorem Tn(hs: ∀ t,AS β h w (s t) (a.tmps.getD t undef)){x:Option Operand}{r:Option Int}(hx:IF (A9 s) x=some r):
  (x=none/\r=none)\/ ∃ y k kk,x=some y/\r=some k/\a.eval y= .int kk k:=by
 cases x with
 |none=>simp[IF]at hx;exact .inl ⟨rfl,hx.symm⟩
 |some y=>
  simp only[IF]at hx;cases hk:Gw (A9 s y)with
  |none=>simp[hk]at hx
  |some k=>
   simp[hk]at hx;obtain⟨kk,he⟩:=Nc hk (Kj hs y);exact .inr ⟨y,k,kk,rfl,hx.symm,he⟩
theorem Tp(w:World)(isS:Bool)(len cap:Nat)(lo hi:Option Operand)(al bl:Option Int)(hlo:(lo=none/\al=none)\/ ∃ y k kk,lo=some y/\al=some k/\a.eval y= .int kk k)
  (hhi:(hi=none/\bl=none)\/ ∃ y k kk,hi=some y/\bl=some k/\a.eval y= .int kk k)(hlc:len<=cap)(h0:0<=al.getD 0)(h1:al.getD 0<=bl.getD (len:Int))(h2:bl.getD (len:Int)<=(len:Int)):
  (Instr.sliceBounds isS len cap (lo.map a.eval) (hi.map a.eval) none).run P w= .ok ((al.getD 0).toNat,(bl.getD (len:Int)).toNat,cap) w:=by
 rcases hlo with⟨rfl,rfl⟩|⟨y,k,kk,rfl,rfl,hy⟩<;>rcases hhi with⟨rfl,rfl⟩|⟨y',k',kk',rfl,rfl,hy'⟩
 ·simp [Instr.sliceBounds]
 ·simp at h0 h1 h2;have e1:(k':Int)<=(cap:Int):=by omega
  simp[Instr.sliceBounds,hy',Instr.sliceBound,asIntOf,h1,e1]
 ·simp at h0 h1 h2;simp[Instr.sliceBounds,hy,Instr.sliceBound,asIntOf,h0,h1]
 ·simp at h0 h1 h2;have e1:(k':Int)<=(cap:Int):=by omega
  have e2:(0:Int)<=k':=by omega
  have e3:k<=max k' 0:=by omega
  simp[Instr.sliceBounds,hy,hy',Instr.sliceBound,asIntOf,h0,e1,e2,e3]
theorem Zb(sm:B2 β h w){t:Nat}{zb:Nat × Nat}{p q:PV}{x:Value}{lo hi:Option Operand}{al bl:Option Int}(hz:Dc P t=some zb)
  (hlo:(lo=none/\al=none)\/ ∃ y k kk,lo=some y/\al=some k/\a.eval y= .int kk k)(hhi:(hi=none/\bl=none)\/ ∃ y k kk,hi=some y/\bl=some k/\a.eval y= .int kk k)
  (hq:Ma zb.1 p h al bl=some q)(hx:AS β h w p x):
  ∃ v,(Instr.sliceAt t x (lo.map a.eval) (hi.map a.eval) none).run P w= .ok v w/\AS β h w q v:=by
 obtain⟨e,i,zv,hu,hin,hsz,hby,hiz,hzl⟩:=Mg hz;unfold Ma at hq;split at hq
 case h_1=>simp at hq
 rename_i n hn;dsimp only at hq;split at hq
 case isFalse=>simp at hq
 rename_i hc;obtain⟨c0,c1,c2,hzk⟩:=hc;have hrun: ∀ (aa:Option Addr)(cap:Nat),n<=cap->(Instr.sliceAt t (.slice aa n cap) (lo.map a.eval) (hi.map a.eval) none).run P w=
   .ok (.slice (if cap=(al.getD 0).toNat then aa else aa.map (·.add ((al.getD 0).toNat*zb.1))) ((bl.getD (n:Int)).toNat-(al.getD 0).toNat) (cap-(al.getD 0).toNat)) w:=by
  intro aa cap hcap;have hb:=Tp (P:=P) (a:=a) w true n cap lo hi al bl hlo hhi hcap c0 c1 c2;simp[Instr.sliceAt,Instr.slice,run_underlying hu,hb,sizeOf,typeInfo,hin,hsz]
 split at hq
 ·rename_i z' rows;simp[GF]at hn;simp[Dx]at hzk;simp at hq;subst hq;subst hzk;subst hn;simp only[AS,AA]at hx;obtain⟨aa,cap,rfl,h2,h2',h3⟩:=hx;refine⟨_,hrun aa cap h2,?_⟩;have hl:((rows.drop (al.getD 0).toNat).take (bl.getD (rows.length:Int)-al.getD 0).toNat).length=(bl.getD (rows.length:Int)).toNat-(al.getD 0).toNat:=by
   simp only[List.length_take,List.length_drop];omega
  simp only[AS,AA];rw[hl];refine⟨_,_,rfl,by omega,by omega,?_⟩;rcases h3 with rfl|⟨b,o,h4,rfl,h5⟩
  ·left;simp
  ·by_cases hem:(bl.getD (rows.length:Int)).toNat-(al.getD 0).toNat=0
   ·left;exact List.eq_nil_of_length_eq_zero (by rw[hl];exact hem)
   ·right;refine⟨b,o+(al.getD 0).toNat*zb.1,h4,?_,(h5.drop _).take _⟩;rw[A7 (by omega)];simp[Addr.add_lit]
 ·rename_i id off len;split at hq
  case h_2=>simp at hq
  rename_i z' rows hob;simp[GF]at hn;simp[Dx,hob]at hzk;simp at hq;subst hq;subst hzk;subst hn;have hok:=sm.ok id _ hob;simp only[BN]at hok;simp only[AS,AA]at hx;obtain⟨hid,aa,cap,rfl,h2,h2',h3⟩:=hx;refine⟨_,hrun aa cap h2,?_⟩;simp only[AS,AA];have hl:(bl.getD (len:Int)-al.getD 0).toNat=(bl.getD (len:Int)).toNat-(al.getD 0).toNat:=by omega
  rw[hl];refine⟨hid,_,_,rfl,by omega,by omega,?_⟩;rcases h3 with h3|⟨b,h4,rfl,h6⟩
  ·left;omega
  ·by_cases hem:cap-(al.getD 0).toNat=0
   ·exact .inl hem
   ·right;refine⟨b,h4,?_,?_⟩
    ·rw [A7 (by omega)];simp[Addr.add_lit,hok.1,LN,Qg]
    ·rw [show off+(al.getD 0).toNat+(cap-(al.getD 0).toNat)=off+cap by omega];exact h6
 ·simp [GF]at hn;subst hn;simp at hq;subst hq;simp only[AS,AA]at hx;obtain⟨aa,rfl⟩:=hx;refine⟨_,hrun aa 0 (AG _),?_⟩;simp only[AS,AA];have e1:(al.getD 0).toNat=0:=by omega
  have e2:(bl.getD ((0:Nat):Int)).toNat=0:=by omega
  rw[e1,e2];exact⟨_,rfl⟩
 ·simp [GF]at hn;subst hn;simp at hq;subst hq;simp only[AS,AA]at hx;subst hx;refine⟨_,hrun none 0 (AG _),?_⟩;simp only[AS,AA];have e1:(al.getD 0).toNat=0:=by omega
  have e2:(bl.getD ((0:Nat):Int)).toNat=0:=by omega
  rw[e1,e2];try rfl
 ·simp at hq
theorem Zc{t:Nat}{p q:PV}{x:Value}{lo hi:Option Operand}{al bl:Option Int}(hk:kT P t=3)
  (hlo:(lo=none/\al=none)\/ ∃ y k kk,lo=some y/\al=some k/\a.eval y= .int kk k)(hhi:(hi=none/\bl=none)\/ ∃ y k kk,hi=some y/\bl=some k/\a.eval y= .int kk k)
  (hq:Mb p al bl=some q)(hx:AS β h w p x):
  ∃ v,(Instr.sliceAt t x (lo.map a.eval) (hi.map a.eval) none).run P w= .ok v w/\AS β h w q v:=by
 unfold Mb at hq;split at hq
 case h_2=>simp at hq
 rename_i st;split at hq
 case isFalse=>simp at hq
 rename_i hc;simp at hq;subst hq;simp only[AS,AA]at hx;subst hx;have hu:P.underlying t=some .string:=by
  unfold kT at hk;split at hk<;>first|assumption|(simp at hk)
 have hb:=Tp (P:=P) (a:=a) w false st.size st.size lo hi al bl hlo hhi (AG _) hc.1 hc.2.1 hc.2.2;refine⟨_,?_,by simp only[AS,AA];rfl⟩;simp[Instr.sliceAt,Instr.slice,run_underlying hu,hb]
theorem Zd{t:Nat}{zb:Nat × Nat}{p:PV}{x:Value}{hi mx:Value}{k1 k2:IntKind}(hz:Dc P t=some zb)(h1:hi= .int k1 0)(h2:mx= .int k2 0)(hp:Ki p=true)(hx:AS β h w p x):
  ∃ v,(Instr.sliceAt t x none (some hi) (some mx)).run P w= .ok v w/\AS β h w .emp v:=by
 obtain⟨e,i,zv,hu,hin,hsz,hby,hiz,hzl⟩:=Mg hz;subst h1;subst h2;have hx': ∃ aa len cap,x= .slice aa len cap:=by
  unfold Ki at hp;split at hp<;>simp only[AS,AA]at hx
  ·obtain ⟨aa,cap,rfl,_⟩:=hx;exact⟨_,_,_,rfl⟩
  ·obtain ⟨_,aa,cap,rfl,_⟩:=hx;exact⟨_,_,_,rfl⟩
  ·obtain ⟨aa,rfl⟩:=hx;exact⟨_,_,_,rfl⟩
  ·exact ⟨_,_,_,hx⟩
  ·simp at hp
 obtain⟨aa,len,cap,rfl⟩:=hx';refine⟨.slice aa 0 0,?_,by simp only[AS,AA];exact⟨_,rfl⟩⟩;simp[Instr.sliceAt,Instr.slice,run_underlying hu,Instr.sliceBounds,Instr.sliceBound,asIntOf,sizeOf,typeInfo,hin]
theorem Ze{t:Nat}{zb:Nat × Nat}{p q:PV}{x:Value}{hi mx:Value}{k1 k2:IntKind}{b c:Int}(hz:Dc P t=some zb)(h1:hi= .int k1 b)(h2:mx= .int k2 c)(hq:PA b c p=some q)(hx:AS β h w p x):
  ∃ v,(Instr.sliceAt t x none (some hi) (some mx)).run P w= .ok v w/\AS β h w q v:=by
 obtain⟨e,i,zv,hu,hin,hsz,hby,hiz,hzl⟩:=Mg hz;subst h1;subst h2;unfold PA at hq;split at hq
 case h_2=>simp at hq
 rename_i id off len;split at hq
 case isFalse=>simp at hq
 rename_i hc;obtain⟨c1,rfl,c3⟩:=hc;simp only[BC]at hq;subst hq;simp only[AS,AA]at hx;obtain⟨hid,aa,cap,rfl,hlc,hcm,hb⟩:=hx;obtain⟨m,rfl⟩: ∃ m:Nat,b=m:=⟨b.toNat,by omega⟩;have g1:m<=len:=by omega
 refine⟨.slice (if m=0 then aa else aa.map (·.add (0*i.size))) m m,?_,?_⟩
 ·have g2:m<=cap:=by omega
  have g3:(m:Int)<=cap:=by omega
  simp[Instr.sliceAt,Instr.slice,run_underlying hu,Instr.sliceBounds,Instr.sliceBound,asIntOf,sizeOf,typeInfo,hin,g2,g3]
 ·simp only[AS,AA];refine⟨hid,(if m=0 then aa else aa.map (·.add (0*i.size))),m,by simp,AG _,by omega,?_⟩;rcases hb with hb|⟨bb,e1,e2,e3⟩
  ·exact .inl (by omega)
  ·by_cases h0:m=0
   ·exact .inl h0
   ·refine .inr ⟨bb,e1,?_,ER ?_ e3⟩
    ·rw [A7 h0,e2];simp[Addr.add_lit]
    ·have:(off+m)*(β id).z<=(off+cap)*(β id).z:=LO _ (by omega);omega
end
end Go.AM
namespace Go.AM
section
variable {P:Program}{β β':BK}{h h':A0}{w w':World}{s:AE}{a:Act}
theorem Tt(off:Nat): ∀ (l:List Value)(k:Nat)(cells:Array Value),off+k+l.length<=cells.size-> ∀ j,
  ((l.zipIdx k).foldl (λcs x=>cs.setIfInBounds (off+x.2) x.1) cells)[j]? =if off+k<=j/\j<off+k+l.length then l[j-(off+k)]? else cells[j]?
 |[],k,cells,_,j=>by simp;intro h1 h2;omega
 |v::vs,k,cells,hl,j=>by
  simp only[List.length_cons]at hl;rw[List.zipIdx_cons,List.foldl_cons,Tt off vs (k+1) _ (by simp;omega)];by_cases h1:off+(k+1)<=j/\j<off+(k+1)+vs.length
  ·rw [AK h1,AK (by simp only[List.length_cons];omega)];rw[show j-(off+k)=(j-(off+(k+1)))+1 by omega,List.getElem?_cons_succ]
  ·rw [A7 h1];by_cases h2:j=off+k
   ·subst h2;rw[AK (by simp only[List.length_cons];omega)];have:off+k<cells.size:=(by omega);simp[this]
   ·rw [A7 (by simp only[List.length_cons];omega)];simp[MQ (Ne.symm h2)]
theorem Tu(off:Nat): ∀ (l:List Value)(k:Nat)(cells:Array Value),((l.zipIdx k).foldl (λcs x=>cs.setIfInBounds (off+x.2) x.1) cells).size=cells.size
 |[],_,_=>rfl
 |v::vs,k,cells=>by rw[List.zipIdx_cons,List.foldl_cons,Tu off vs];simp
theorem R6(off:Nat)(v:Value)(cells:Array Value)(hl:off+v.cells.size<=cells.size)(j:Nat):
  (v.cells.zipIdx.foldl (λcs x=>cs.setIfInBounds (off+x.2) x.1) cells)[j]? =if off<=j/\j<off+v.cells.size then v.cells[j-off]? else cells[j]?:=by
 have h1:=Tt off v.cells.toList 0 cells (by simpa using hl) j;rw[← Ov,pM];simpa using h1
theorem Tv(off:Nat)(v:Value)(cells:Array Value):(v.cells.zipIdx.foldl (λcs x=>cs.setIfInBounds (off+x.2) x.1) cells).size=cells.size:=by
 have h1:=Tu off v.cells.toList 0 cells;rw[← Ov,pM];exact h1
def Ju(β:BK)(n:Nat)(F:Nat->Prop)(w:World)(l:List PV)(c:Array Value):Prop:=
 l.length=c.size/\ ∀ (j:Nat)(p:PV),l[j]? =some p-> ∃ v,c[j]? =some v/\v.oneCell'=true/\AA β n F w p v
theorem Ju.of{n:Nat}{F:Nat->Prop}{l:List PV}{xs:List Value}(hr:AT β n F w l xs)(h1: ∀ v∈xs,v.oneCell'=true):Ju β n F w l xs.toArray:=by
 refine⟨by simp[hr.len],λj p hp=>?_⟩;obtain⟨v,hv,hvr⟩:=hr.get hp;exact⟨v,by simpa using hv,h1 v (List.mem_of_getElem? hv),hvr⟩
theorem Ju.agg{n:Nat}{F:Nat->Prop}{l:List PV}{c:Array Value}(hc:Ju β n F w l c):AA β n F w (.agg l) (.agg c):=by
 simp only[AA];refine⟨c.toList,by simp,?_,?_⟩
 ·intro v hv;obtain⟨j,hj⟩:=List.getElem?_of_mem hv;have hjl:j<l.length:=by rw[hc.1];simpa using (List.getElem?_eq_some_iff.1 hj).1
  obtain⟨u,hu,h1,_⟩:=hc.2 j _ (List.getElem?_eq_getElem hjl);rw[MR]at hj;rw[hj]at hu;simp at hu;subst hu;exact h1
 ·rw [IG];refine⟨by simp[hc.1],λj p v hp hv=>?_⟩;obtain⟨u,hu,_,hr⟩:=hc.2 j p hp;rw[MR]at hv;rw[hv]at hu;simp at hu;subst hu;exact hr
theorem R7(hs: ∀ t,AS β h w (s t) (a.tmps.getD t undef))(place place':Nat->Option (Nat × Nat))(hpl: ∀ i x,place i=some x->place' i=some x):
  ∀ (parts:List (Nat × Operand))(cells out:List PV)(c:Array Value),Ju β h.next (Fz β h w) w cells c->IC place cells (parts.map λp=>(p.1,A9 s p.2))=some out->
  ∃ c',Instr.fill place' c (parts.map λp=>(p.1,a.eval p.2))=some c'/\Ju β h.next (Fz β h w) w out c'
 |[],cells,out,c,hc,hl=>by simp[IC]at hl;subst hl;exact⟨c,by simp[Instr.fill],hc⟩
 |(i,x)::rest,cells,out,c,hc,hl=>by
  simp only[List.map_cons,IC]at hl;split at hl
  case h_1=>simp at hl
  rename_i off n hp;split at hl
  case isFalse=>simp at hl
  rename_i hcond;obtain⟨c1,c2,c3⟩:=hcond;obtain⟨hr,h1⟩:=AA.cells c3 (Kj hs x);have hlen:=hr.len;have hlen2:(a.eval x).cells.toList.length=(a.eval x).cells.size:=Ed;have hcsz:=hc.1;have hnew:Ju β h.next (Fz β h w) w (Jo cells off (A9 s x).cells) ((a.eval x).cells.zipIdx.foldl (λcs y=>cs.setIfInBounds (off+y.2) y.1) c):=by
   refine⟨by rw[Tj _ _ _ (by omega),Tv];exact hcsz,λj p hp=>?_⟩;rw[Ti _ _ _ _ (by omega)]at hp;rw[R6 off _ c (by omega)];split at hp
   ·rename_i hj;rw[AK (by omega)];obtain⟨v,hv,hvr⟩:=hr.get hp;rw[MR]at hv;exact⟨v,hv,h1 v (by rw[I9];exact pN hv),hvr⟩
   ·rename_i hj;rw[A7 (by omega)];exact hc.2 j p hp
  obtain⟨c',e1,e2⟩:=R7 hs place place' hpl rest _ out _ hnew hl;refine⟨c',?_,e2⟩;simp only[List.map_cons,Instr.fill,hpl i _ hp];rw[A7 (by simp;omega)];exact e1
theorem Tw{n:Nat}{F:Nat->Prop}{t:Nat}{z:List Value}(hz:DP P t=some z): ∃ i v,P.info? t=some i/\i.zero=some v/\v.cells.toList=z/\(∀ x∈z,x.oneCell'=true)/\Ju β n F w (z.map .sc) v.cells:=by
 obtain⟨i,v,h1,h2,h3,h4⟩:=PD hz;refine⟨i,v,h1,h2,h3,h4,?_⟩;have:=Ju.of (β:=β) (n:=n) (F:=F) (w:=w) (AT.sc z) h4;rw[← h3]at this⊢;simpa using this
theorem Zf(hs: ∀ t,AS β h w (s t) (a.tmps.getD t undef)){t:Nat}{z:List Value}{places:List (Nat × Nat)}{parts:Array (Nat × Operand)}{cs:List PV}(hz:DP P t=some z)(hf:Fy P t=some places)
  (hl:IC (λi=>places[i]?) (z.map .sc) (parts.toList.map λp=>(p.1,A9 s p.2))=some cs):
  ∃ v,(Instr.build t (parts.map λp=>(p.1,a.eval p.2))).run P w= .ok v w/\AS β h w (.agg cs) v:=by
 obtain⟨i,v,h1,h2,h3,h4,h5⟩:=Tw (β:=β) (n:=h.next) (F:=Fz β h w) (w:=w) hz;unfold Fy at hf;split at hf
 case h_2=>simp at hf
 rename_i fs hu;obtain⟨c',e1,e2⟩:=R7 hs (λi=>places[i]?) (λi=>places.toArray[i]?) (λi x hx=>by simpa using hx) parts.toList _ cs v.cells h5 hl;refine⟨_,run_build w t _ c' ?_,e2.agg⟩;simp only[Program.built,h1,hu,h2,hf];simpa using e1
theorem Zg(hs: ∀ t,AS β h w (s t) (a.tmps.getD t undef)){t:Nat}{z:List Value}{na:Nat × Nat}{parts:Array (Nat × Operand)}{cs:List PV}(hz:DP P t=some z)(hf:Kf P t=some na)
  (hl:IC (λi=>some (i*na.2,na.2)) (z.map .sc) (parts.toList.map λp=>(p.1,A9 s p.2))=some cs):
  ∃ v,(Instr.build t (parts.map λp=>(p.1,a.eval p.2))).run P w= .ok v w/\AS β h w (.agg cs) v:=by
 obtain⟨i,v,h1,h2,h3,h4,h5⟩:=Tw (β:=β) (n:=h.next) (F:=Fz β h w) (w:=w) hz;obtain⟨e,ie,hu,hie,hsz⟩:=Te hf;obtain⟨c',e1,e2⟩:=R7 hs (λi=>some (i*na.2,na.2)) (λi=>some (i*ie.size,ie.size)) (λi x hx=>by rw[hsz];exact hx) parts.toList _ cs v.cells h5 hl;refine⟨_,run_build w t _ c' ?_,e2.agg⟩;simp only[Program.built,h1,hu,h2,hie];simpa using e1
theorem Zh{n m z:Nat}{F:Nat->Prop}{zs:Array Value}(hz:zs.size=z)(h1: ∀ x∈zs.toList,x.oneCell'=true):
  HI β m F w z (List.replicate n (zs.toList.map .sc)) ((Array.range (n*z)).map λk=>zs[k % zs.size]!):=by
 intro i r hr;rw[List.getElem?_replicate]at hr;split at hr
 case isFalse=>simp at hr
 rename_i hi;simp at hr;subst hr;refine⟨by simp[hz],λj p hp=>?_⟩;rw[List.getElem?_map]at hp;cases hj:zs.toList[j]? with
 |none=>simp[hj]at hp
 |some v=>
  simp[hj]at hp;subst hp;have hjl:j<z:=by rw[← hz];simpa using (List.getElem?_eq_some_iff.1 hj).1
  have hlt:i*z+j<n*z:=by
   have:(i+1)*z<=n*z:=LO _ hi;rw[Jk]at this;omega
  refine⟨v,?_,h1 v (List.mem_of_getElem? hj),by simp only[AA]⟩;have hmod:(i*z+j) % zs.size=j:=by
   rw[hz,Nat.mul_comm,Nat.mul_add_mod,Nat.mod_eq_of_lt hjl]
  rw[MR]at hj;simp[hlt,hmod,getElem!_def,hj]
theorem Tx(hs: ∀ t,AS β h w (s t) (a.tmps.getD t undef))(z:Nat): ∀ (parts:List (Nat × Operand))(rows out:List (List PV))(c:Array Value),
  c.size=rows.length*z->HI β h.next (Fz β h w) w z rows c->
  Hf z rows (parts.map λp=>(p.1,A9 s p.2))=some out->
  ∃ c',Instr.fill (λi=>some (i*z,z)) c (parts.map λp=>(p.1,a.eval p.2))=some c'/\c'.size=out.length*z/\HI β h.next (Fz β h w) w z out c'/\out.length=rows.length
 |[],rows,out,c,hsz,hc,hl=>by simp[Hf]at hl;subst hl;exact⟨c,by simp[Instr.fill],hsz,hc,rfl⟩
 |(i,x)::rest,rows,out,c,hsz,hc,hl=>by
  simp only[List.map_cons,Hf]at hl;split at hl
  case isFalse=>simp at hl
  rename_i hcond;obtain⟨c1,c2,c3⟩:=hcond;obtain⟨hr,h1⟩:=AA.cells c3 (Kj hs x);have hlen:=hr.len;have hlen2:(a.eval x).cells.toList.length=(a.eval x).cells.size:=Ed;have hle:(i+1)*z<=rows.length*z:=LO _ c2;rw[Jk]at hle;have hnew:HI β h.next (Fz β h w) w z (rows.set i (A9 s x).cells) ((a.eval x).cells.zipIdx.foldl (λcs y=>cs.setIfInBounds (i*z+y.2) y.1) c):=by
   intro i' r' hr';rw[List.getElem?_set]at hr';split at hr'
   ·rename_i hie;subst hie;simp at hr';obtain⟨_,rfl⟩:=hr';refine⟨c1,λj p hp=>?_⟩;have hj:j<(A9 s x).cells.length:=(List.getElem?_eq_some_iff.1 hp).1;rw[R6 _ _ c (by omega),AK (by omega)];obtain⟨v,hv,hvr⟩:=hr.get hp;rw[MR]at hv;refine⟨v,by rw[show i*z+j-i*z=j by omega];exact hv,h1 v (by rw[I9];exact pN hv),hvr⟩
   ·rename_i hie;obtain⟨h2,h3⟩:=hc i' r' hr';refine⟨h2,λj p hp=>?_⟩;have hj:j<z:=(by rw[← h2];exact(List.getElem?_eq_some_iff.1 hp).1);have htr:=Tm (z:=z) (f:=0) (j:=j) (n:=z) hie (by omega) hj;rw[R6 _ _ c (by omega),A7 (by omega)];exact h3 j p hp
  obtain⟨c',e1,e2,e3,e4⟩:=Tx hs z rest _ out _ (by rw[Tv,List.length_set];exact hsz) hnew hl;refine⟨c',?_,e2,e3,by rw[e4,List.length_set]⟩;simp only[List.map_cons,Instr.fill];rw[A7 (by simp;omega)];exact e1
theorem Tz(f:Nat->Value):(Array.range 0).map f= #[]:=Array.eq_empty_of_size_eq_zero (by simp)
theorem Zi(sm:B2 β h w)(hs: ∀ t,AS β h w (s t) (a.tmps.getD t undef)){t len:Nat}{zb:Nat × Nat}{z:List Value}{parts:Array (Nat × Operand)}{rows:List (List PV)}{ow:Bool}{r:PV}
  (hz:Dc P t=some zb)(hzz:GQ P t=some z)(hc:z.length=zb.1/\0<zb.1/\len*zb.1<=16777216)
  (hl:Hf zb.1 (List.replicate len (z.map .sc)) (parts.toList.map λp=>(p.1,A9 s p.2))=some rows)
  (hr:(if len=0 then some (PV.emp,h)else if ow then some (.own h.next 0 len,h.new (.arr zb.1 rows))else some (.A1 zb.1 rows,h))=some (r,h')):
  ∃ v w' β',(Instr.buildSlice t len (parts.map λp=>(p.1,a.eval p.2))).run P w= .ok v w'/\B2 β' h' w'/\BR β h w β' h' w'/\AS β' h' w' r v:=by
 obtain⟨e,i,zv,hu,hin,hsz,hby,hiz,hzl⟩:=Mg hz;obtain⟨e',i',zv',hu',hin',hiz',hzl',hz1⟩:=ZN hzz;rw[hu]at hu';simp at hu';subst hu';rw[hin]at hin';simp at hin';subst hin';rw[hiz]at hiz';simp at hiz';subst hiz';obtain⟨c1,c2,c3⟩:=hc;have hzz2:zv.cells.size≠0:=by omega
 have hzero:=Zh (β:=β) (m:=h.next) (w:=w) (n:=len) (F:=Fz β h w) (zs:=zv.cells) hzl (by rw[hzl'];exact hz1);rw[hzl']at hzero;obtain⟨c',e1,e2,e3,e4⟩:=Tx hs zb.1 parts.toList (List.replicate len (z.map .sc)) rows _ (by simp) hzero hl;rw[List.length_replicate]at e4;have hrun:(Instr.buildSlice t len (parts.map λp=>(p.1,a.eval p.2))).run P w= .ok (.slice (some ⟨w.heap.size,0,none⟩) len len) (w.alloc (.cells c' e)):=by
  have h24:¬ (16777216<len*zb.1):=by omega
  by_cases h0:len*zb.1=0
  ·rw [h0,Tz]at e1;simp[Instr.buildSlice,run_underlying hu,sizeOf,typeInfo,hin,hsz,h0,Tz,e1,newRow]
  ·simp [Instr.buildSlice,run_underlying hu,sizeOf,typeInfo,hin,hsz,h24,h0,zeroValue,hiz,e1,newRow]
 refine⟨.slice (some ⟨w.heap.size,0,none⟩) len len,w.alloc (.cells c' e),?_⟩;by_cases hlen:len=0
 ·rw [AK hlen]at hr;simp at hr;obtain⟨rfl,rfl⟩:=hr;subst hlen;obtain⟨a1,a2,_⟩:=sm.Ql (.cells c' e);exact⟨β,hrun,a1,a2,by simp only[AS,AA];exact⟨_,rfl⟩⟩
 ·rw [A7 hlen]at hr;cases ow with
  |true=>
   simp at hr;obtain⟨rfl,rfl⟩:=hr;obtain⟨a1,a2⟩:=B2.Z1 sm zb.1 rows c' e e3 (by omega);refine⟨_,hrun,a1,a2,?_⟩;simp only[AS,AA];have hpos:0<zb.1:=c2;have hm:len<=maxLen:=by
    have:len*1<=len*zb.1:=pO _ hpos;simp only[maxLen];omega
   refine⟨by simp[A0.new],_,len,rfl,AG _,hm,.inr ⟨w.heap.size,by simp,by simp,?_⟩⟩;simp only[AO,C7];rw[e2,e4];exact AG _
  |false=>
   simp at hr;obtain⟨rfl,rfl⟩:=hr;obtain⟨a1,a2,a3⟩:=sm.Ql (.cells c' e);refine⟨β,hrun,a1,a2,?_⟩;simp only[AS,AA];have hm:len<=maxLen:=by
    have:len*1<=len*zb.1:=pO _ c2;simp only[maxLen];omega
   refine⟨_,len,by rw[e4],by omega,hm,.inr ⟨w.heap.size,0,a3,rfl,?_⟩⟩;exact e3.rep a2.mv (heap_alloc_new w _)
end
end Go.AM
