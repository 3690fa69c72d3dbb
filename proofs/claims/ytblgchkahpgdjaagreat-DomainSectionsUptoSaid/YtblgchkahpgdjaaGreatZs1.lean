/- What the claim rests on, part 1: the abstract machine, contracts of the functions, plain data. -/
import Derived.WalkKit
set_option linter.unusedVariables false
set_option linter.defProp false
set_option linter.unusedSimpArgs false
set_option linter.unusedSectionVars false
namespace Go.AM
def A5:=@trivial
def A8:=@if_neg
def AC:=@cond_true
def AG:=@Nat.le_refl
def AK:=@if_pos
def AL:=@cond_false
def AO:=@if_true
def AQ:=@if_false
def AV:=@Bool.and_eq_true
def Av:=@Bool.not_true
def B8:=@Option.getD_some
def BB:=@eq_false
def BD:=@Option.some.injEq
def BF:=@Bool.false_and
def BG:=@Bool.true_and
def BH:=@Bool.and_false
def BR:=@Bool.false_eq_true
def BY:=@Nat.zero_le
def Bf:=@Nat.zero_add
def Bg:=@decide_eq_true_eq
def Bl:=@Option.getD_none
def Bs:=@Option.map_some
def C4:=@Prod.mk.injEq
def CB:=@Bool.not_false
def CT:=@Int.le_refl
def Ce:=@Int.toNat_one
def Ck:=@Bool.and_true
def Cs:=@Nat.lt_or_ge
def D7:=@decide_eq_false_iff_not
def D8:=@beq_self_eq_true
def DI:=@Option.bind_some
def DU:=@eq_true
def DX:=@Array.getD_eq_getD_getElem?
def Dh:=@and_true
def EC:=@not_true_eq_false
def ED:=@Bool.or_eq_true
def EE:=@not_false_eq_true
def EF:=@Bool.not_eq_true'
def ES:=@Nat.le_trans
def ET:=@or_false
def Eg:=@beq_iff_eq
def F7:=@Array.length_toList
def Fb:=@true_and
def G8:=@Nat.add_zero
def Gq:=@Bool.or_false
def HZ:=@Bool.false_or
def I4:=@Nat.lt_of_lt_of_le
def I5:=@Array.getElem?_eq_some_iff
def I6:=@Array.mem_toList_iff
def I7:=@Nat.le_succ_of_le
def If:=@congrArg
def JD:=@Int.toNat_natCast
def JE:=@Option.some.inj
def Jk:=@Nat.succ_mul
def Jl:=@Option.isSome_iff_exists
def KP:=@Nat.add_mul
def KQ:=@and_assoc
def KR:=@Option.map_eq_some_iff
def KS:=@of_decide_eq_true
def KT:=@and_self
def KU:=@Decidable.not_not
def KV:=@Nat.sub_self
def LO:=@Nat.mul_le_mul_right
def LP:=@Bool.and_self
def LQ:=@decide_eq_true
def MN:=@Array.getElem?_setIfInBounds_ne
def MO:=@Array.getElem?_toList
def MP:=@Option.isSome_none
def NI:=@Array.getElem?_eq_getElem
def NJ:=@beq_eq_false_iff_ne
def NK:=@Option.isSome_some
def Ok:=@Array.foldl_toList
def Ol:=@Option.map_none
def Om:=@Array.all_eq_true_iff_forall_mem
def On:=@Bool.true_or
def Oo:=@Nat.le_succ
def Oq:=@ne_of_beq_false
def Qc:=@Nat.add_assoc
def Qd:=@Array.getElem?_replicate
def Qe:=@Nat.le_add_right
def Qf:=@decide_false
def Qg:=@Int.natCast_zero
def Qh:=@decide_eq_false
def TG:=@Nat.testBit_or
def TH:=@decide_true
def TI:=@Bool.or_true
def TJ:=@Bool.or_eq_false_iff
def TK:=@Int.natCast_one
def TL:=@UInt8.toNat_inj
def TM:=@of_decide_eq_false
def TN:=@Nat.add_comm
def TO:=@Int.sub_zero
def Ya:=@Option.eq_some_of_isSome
def Yb:=@Nat.zero_mul
def Yc:=@Bool.not_eq_false
def Yd:=@Array.mem_append
def Ye:=@Nat.lt_trans
def Yf:=@Nat.lt_trichotomy
def Yg:=@Array.getElem?_setIfInBounds_self_of_lt
def Yh:=@Bool.eq_iff_iff
def Yi:=@Nat.lt_irrefl
def Yj:=@Bool.not_eq_true
def Yk:=@decide_eq_decide
def Yl:=@Option.toList_some
def Ym:=@Bool.or_comm
def oL:=@Nat.le_mul_of_pos_right
def oO:=@Array.toList_zipIdx
def oP:=@Array.mem_of_getElem?
def oQ:=@Nat.mul_le_mul_left
def oR:=@Array.getElem?_append_left
def oS:=@Bool.and_eq_false_iff
def oT:=@ByteArray.data_extract
def oU:=@Option.bind_eq_some_iff
def oV:=@Nat.add_sub_cancel_left
end Go.AM
namespace Go.AM
inductive PV where
 |sc(v:Value)
 |ptr(id i f:Nat)
 |Ag(cells:List PV)
 |own(id off len:Nat)
 |A2(z:Nat)(rows:List (List PV))
 |emp
 |mp(id:Nat)
 |agg(cells:List PV)
 |Am(vs:List PV)
 |fn(f:FuncId)(first caps:List PV)
 |ab(k:IntKind)(lo hi m r:Int)
inductive An where
 |arr(z:Nat)(rows:List (List PV))
 |map(es:List (Value × PV))
 |Ig(g:Nat)(lo hi:Int)
structure A1 where
 next:Nat
 obj:Nat->Option An
def A1.nil:A1:=⟨0,λ_=>none⟩
def A1.new(h:A1)(o:An):A1:=⟨h.next+1,λi=>if i=h.next then some o else h.obj i⟩
def A1.set(h:A1)(id:Nat)(o:An):A1:=⟨h.next,λi=>if i=id then some o else h.obj i⟩
def A1.kill(h:A1)(id:Nat):A1:=⟨h.next,λi=>if i=id then none else h.obj i⟩
def PV.cells:PV->List PV
 | .agg l=>l
 |p=>[p]
def Cx:PV->Bool
 | .sc v=>v.oneCell'
 | .agg _=>false
 | .Am _=>false
 |_=>true
abbrev AD:=Nat->PV
def Cf(s:AD)(d:Nat)(v:PV):AD:=λt=>if t=d then v else s t
def Ai(s:AD)(d:Option Nat)(v:PV):AD:=match d with|some d=>Cf s d v|none=>s
def Gf:Value->PV
 | .agg cs=>if cs.toList.all Value.oneCell'=true then .agg (cs.toList.map .sc)else .sc (.agg cs)
 |v=> .sc v
def AB(s:AD):Operand->PV
 | .tmp t=>s t
 | .const v=>Gf v
 | .global g=> .sc (.pointer (some ⟨g,0,none⟩))
 | .func f=> .sc (.func (.func f) #[] #[])
def kT(P:Program)(t:TypeId):Nat:=
 match P.underlying t with
 |some .bool=>1|some (.int _)=>2|some .string=>3|some (.pointer _)=>4|some (.slice _)=>5|some (.map _ _)=>6
 |some (.interface _)=>7|some (.struct _)=>8|some (.array _ _)=>9|some (.func _ _ _)=>10|some _=>11|none=>0
def JG(P:Program)(t:TypeId):Option IntKind:=match P.underlying t with|some (.int k)=>some k|_=>none
def CU(P:Program)(t:TypeId):Option Nat:=match P.underlying t with|some _=>(P.info? t).map (·.size)|none=>none
def DZ(P:Program)(t:TypeId):Option (Nat × Nat):=match P.underlying t with|some (.slice e)=>(P.info? e).bind λi=>i.zero.bind λzv=>if zv.cells.size=i.size then some (i.size,i.bytes)else none|_=>none
def Ke(P:Program)(t:TypeId):Option (Nat × Nat):=match P.underlying t with|some (.array n e)=>(P.info? e).map λi=>(n,i.size)|_=>none
def NO(P:Program)(t:TypeId):Option (Nat × Nat × Bool):=match P.underlying t with|some (.array n e)=>(CU P e).map λz=>(n,z,kT P e==8||kT P e==9)|_=>none
def DN(P:Program)(t:TypeId):Option (List Value):=(P.info? t).bind λi=>i.zero.bind λz=>if z.cells.toList.all Value.oneCell'=true then some z.cells.toList else none
def GK(P:Program)(t:TypeId):Option (List Value):=match P.underlying t with|some (.slice e)=>DN P e|_=>none
def BV(P:Program)(t:TypeId)(f:Nat):Option (Nat × Nat × Bool):=
 match P.underlying t with
 |some (.struct fs)=>(fs[f]?).bind λf=>(CU P f.type).map λn=>(f.offset,n,kT P f.type==8||kT P f.type==9)
 |_=>none
def Ft(P:Program)(t:TypeId):Option (List (Nat × Nat)):=
 match P.underlying t with
 |some (.struct fs)=>fs.toList.mapM λf=>(P.info? f.type).map λi=>(f.offset,i.size)
 |_=>none
def LV(P:Program)(t:TypeId):Option Value:=(P.info? t).bind (·.zero)
def Jn(P:Program)(t:TypeId):Option (Nat × Value):=
 match P.underlying t with
 |some (.map k e)=>(LV P e).map λz=>(kT P k,z)
 |_=>none
def Cg(P:Program)(t:TypeId):Bool:=kT P t==8||kT P t==9
def JH(ag:Bool)(n:Nat)(cs:List PV):Option PV:=
 if ag then(if n<=cs.length then some (.agg (cs.take n))else none)else cs.head?
def NP(k:IntKind)(a b:Int):Int:=k.wrap (BitVec.ofInt k.bits a&&&BitVec.ofInt k.bits b).toNat
def NQ(k:IntKind)(a b:Int):Int:=k.wrap (BitVec.ofInt k.bits a|||BitVec.ofInt k.bits b).toNat
def NS(k:IntKind)(a b:Int):Int:=k.wrap (BitVec.ofInt k.bits a ^^^ BitVec.ofInt k.bits b).toNat
def NT(k:IntKind)(a b:Int):Int:=k.wrap (BitVec.ofInt k.bits a&&& ~~~ BitVec.ofInt k.bits b).toNat
def Dx(op:BinOp)(k:IntKind)(a b:Int):Option Value:=
 match op with
 | .add=>some (.int k (k.wrap (a+b)))
 | .sub=>some (.int k (k.wrap (a-b)))
 | .mul=>some (.int k (k.wrap (a*b)))
 | .quo=>if b=0 then none else some (.int k (k.wrap (a.tdiv b)))
 | .rem=>if b=0 then none else some (.int k (a.tmod b))
 | .and=>some (.int k (NP k a b))
 | .or=>some (.int k (NQ k a b))
 | .xor=>some (.int k (NS k a b))
 | .andNot=>some (.int k (NT k a b))
 | .eql=>some (.bool (a==b))
 | .neq=>some (.bool (a !=b))
 | .lss=>some (.bool (a<b))
 | .leq=>some (.bool (a<=b))
 | .gtr=>some (.bool (a>b))
 | .geq=>some (.bool (a>=b))
 |_=>none
def LW(op:BinOp)(k:IntKind)(a b:Int):Option Value:=
 if b<0 then none else match op with
 | .shl=>some (.int k (k.wrap (a*2 ^ (min b.toNat k.bits))))
 | .shr=>some (.int k (a.fdiv (2 ^ (min b.toNat k.bits))))
 |_=>none
def I9(op:BinOp)(a b:ByteArray):Option Value:=
 match op with
 | .add=>if((a.size+b.size:Nat):Int)>IntKind.i64.max then none else some (.string (a++b))
 | .eql=>some (.bool (a.data.toList==b.data.toList))
 | .neq=>some (.bool !(a.data.toList==b.data.toList))
 | .lss=>some (.bool (Op.bytesLess a.data.toList b.data.toList))
 | .leq=>some (.bool (Op.bytesLess a.data.toList b.data.toList||a.data.toList==b.data.toList))
 | .gtr=>some (.bool !(Op.bytesLess a.data.toList b.data.toList||a.data.toList==b.data.toList))
 | .geq=>some (.bool !(Op.bytesLess a.data.toList b.data.toList))
 |_=>none
def Ii:BinOp->Bool
 | .shl| .shr=>true
 |_=>false
def Fc:Operand->Bool
 | .const _=>true
 |_=>false
def EU(kt:Nat)(c:Bool)(x y:PV):Option Bool:=
 match x,y with
 | .sc (.bool a),.sc (.bool b)=>if kt=1 then some (a==b)else none
 | .sc .nilIface,.sc .nilIface=>if kt=7/\c=true then some true else none
 | .sc .nilIface,.sc (.iface _ _)=>if kt=7 then some false else none
 | .sc (.iface _ _),.sc .nilIface=>if kt=7 then some false else none
 | .sc (.pointer none),.sc (.pointer none)=>if kt=4 then some true else none
 | .ptr _ _ _,.sc (.pointer none)=>if kt=4 then some false else none
 | .sc (.pointer none),.ptr _ _ _=>if kt=4 then some false else none
 | .Ag _,.sc (.pointer none)=>if kt=4 then some false else none
 | .sc (.pointer none),.Ag _=>if kt=4 then some false else none
 | .mp _,.sc (.map none)=>if kt=6 then some false else none
 | .sc (.map none),.sc (.map none)=>if kt=6 then some true else none
 | .sc (.slice none 0 _),.sc (.slice none 0 0)=>if kt=5 then some true else none
 | .sc (.slice (some _) 0 _),.sc (.slice none 0 0)=>if kt=5 then some false else none
 | .A2 _ rows,.sc (.slice none 0 0)=>if kt=5/\0<rows.length then some false else none
 | .own _ _ len,.sc (.slice none 0 0)=>if kt=5/\0<len then some false else none
 |_,_=>none
def MR(op:BinOp)(lo hi c:Int):Option Bool:=
 match op with
 | .lss=>if hi<c then some true else if c<=lo then some false else none
 | .leq=>if hi<=c then some true else if c<lo then some false else none
 | .gtr=>if c<lo then some true else if hi<=c then some false else none
 | .geq=>if c<=lo then some true else if hi<c then some false else none
 | .eql=>if hi<c\/c<lo then some false else none
 | .neq=>if hi<c\/c<lo then some true else none
 |_=>none
def Qr:BinOp->BinOp
 | .lss=> .gtr
 | .leq=> .geq
 | .gtr=> .lss
 | .geq=> .leq
 |op=>op
def TS(op:BinOp)(k:IntKind)(lo hi m r:Int)(k':IntKind)(c:Int):Option PV:=
 if k=k' then(match op with
  | .rem=>if c=m/\0<m then some (.sc (.int k r))else none
  |op=>(MR op lo hi c).map λb=> .sc (.bool b))else none
def TT(op:BinOp)(k:IntKind)(lo hi:Int)(k':IntKind)(c:Int):Option PV:=
 if k=k' then(MR (Qr op) lo hi c).map λb=> .sc (.bool b)else none
def Ij(op:BinOp)(kt:Nat)(c:Bool)(x y:PV):Option PV:=
 match x,y with
 | .sc (.int k a),.sc (.int k' b)=>(if Ii op then LW op k a b else if k=k' then Dx op k a b else none).map .sc
 | .sc (.string a),.sc (.string b)=>(I9 op a b).map .sc
 | .ab k lo hi m r,.sc (.int k' b)=>TS op k lo hi m r k' b
 | .sc (.int k' b),.ab k lo hi _ _=>TT op k lo hi k' b
 |x,y=>
  match op with
  | .eql=>(EU kt c x y).map λb=> .sc (.bool b)
  | .neq=>(EU kt c x y).map λb=> .sc (.bool !b)
  |_=>none
def Oy(P:Program):Nat->List Field->Bool
 |_,[]=>true
 |i,f::fs=>decide (f.name≠ "_")&&f.offset==i&&kT P f.type==3&&Oy P (i+1) fs
def NU(P:Program)(t:TypeId):Option Nat:=match P.underlying t with
 |some (.struct fs)=>if P.stoodInHeld t=false/\P.eqGuardType P.depth t=false/\Oy P 0 fs.toList=true then some fs.size else none
 |_=>none
def Ik:List PV->List PV->Option Bool
 |[],[]=>some true
 | .sc (.string a)::l,.sc (.string b)::m=>(Ik l m).map λr=>(a.data.toList==b.data.toList)&&r
 |_,_=>none
def Kf(op:BinOp)(n:Option Nat)(x y:PV):Option PV:=
 match x,y with
 | .agg a,.agg b=>if n=some a.length then(match op with
  | .eql=>(Ik a b).map λr=> .sc (.bool r)
  | .neq=>(Ik a b).map λr=> .sc (.bool !r)
  |_=>none)else none
 |_,_=>none
def LY(op:UnOp)(x:PV):Option PV:=
 match op,x with
 | .not,.sc (.bool b)=>some (.sc (.bool !b))
 | .neg,.sc (.int k n)=>some (.sc (.int k (k.wrap (0-n))))
 | .xor,.sc (.int k n)=>some (.sc (.int k (k.wrap (BitVec.ofInt k.bits (if k.signed then-1 else k.max) ^^^ BitVec.ofInt k.bits n).toNat)))
 |_,_=>none
def MT(ks kd:Option IntKind)(x:PV):Option PV:=
 match ks,kd,x with
 |some _,some k,.sc (.int _ n)=>some (.sc (.int k (k.wrap n)))
 |some _,some k,.ab _ lo hi m r=>if k= .i64/\ -9223372036854775808<=lo/\hi<=9223372036854775807 then some (.ab .i64 lo hi m r)else none
 |_,_,_=>none
def LZ(P:Program)(t:TypeId):Bool:=match P.underlying t with
 |some (.slice e)=>(match P.underlying e with|some (.int .u8)=>true|_=>false)
 |_=>false
def EV(l:List UInt8):List (List PV):=l.map λb=>[.sc (.int .u8 b.toNat)]
def Il:List (List PV)->Option (List UInt8)
 |[]=>some []
 |[.sc (.int .u8 n)]::rest=>(Il rest).map (UInt8.ofNat n.toNat::·)
 |_=>none
theorem Z6(l:List UInt8):Il (EV l)=some l:=by
 induction l with
 |nil=>rfl
 |cons b l ih=>simp only[EV,List.map_cons,Il]at ih⊢;rw[ih];simp
def Gg(h:A1):PV->Option (List (List PV))
 | .A2 _ rows=>some rows
 | .emp=>some []
 | .sc (.slice none 0 0)=>some []
 | .sc (.slice _ 0 _)=>some []
 | .own id off len=>match h.obj id with
  |some (.arr _ rows)=>if off+len<=rows.length then some ((rows.drop off).take len)else none
  |_=>none
 |_=>none
def GA(h:A1):PV->Option Nat
 | .A2 _ rows=>some rows.length
 | .emp=>some 0
 | .sc (.slice none 0 0)=>some 0
 | .own _ _ len=>some len
 | .sc (.string s)=>some s.size
 | .sc (.map none)=>some 0
 | .mp id=>match h.obj id with|some (.map es)=>some es.length|_=>none
 |_=>none
def GL(k:Nat):PV->Bool
 | .A2 _ _=>k==5
 | .emp=>k==5
 | .own _ _ _=>k==5
 | .sc (.slice none 0 0)=>k==5
 | .sc (.string _)=>k==3
 | .sc (.map none)=>k==6
 | .mp _=>k==6
 |_=>false
def Gs:PV->Option Int
 | .sc (.int _ n)=>some n
 |_=>none
def Kg(h:A1)(z:Nat)(x:PV)(i:Int):Option PV:=
 if 0<=i then
  match x with
  | .A2 z' rows=>if z'=z then(rows[i.toNat]?).map .Ag else none
  | .own id off len=>match h.obj id with
   |some (.arr z' _)=>if z'=z/\i.toNat<len then some (.ptr id (off+i.toNat) 0)else none
   |_=>none
  |_=>none
 else none
def MU(n z:Nat)(x:PV)(i:Int):Option PV:=
 if 0<=i/\i<n then
  match x with
  | .ptr id r f=>some (.ptr id r (f+i.toNat*z))
  | .Ag cs=>if i.toNat*z+z<=cs.length then some (.Ag ((cs.drop (i.toNat*z)).take z))else none
  |_=>none
 else none
def MV(off n:Nat):PV->Option PV
 | .ptr id i f=>if 0<n then some (.ptr id i (f+off))else none
 | .Ag cs=>if 0<n/\off+n<=cs.length then some (.Ag ((cs.drop off).take n))else none
 |_=>none
def rd(h:A1):PV->Option (List PV)
 | .ptr id i f=>match h.obj id with
  |some (.arr _ rows)=>(rows[i]?).map (·.drop f)
  |_=>none
 | .Ag cs=>some cs
 | .sc (.pointer (some ⟨g,0,none⟩))=>match h.obj g with
  |some (.Ig g' lo hi)=>if g'=g then some [.ab .i64 lo hi 1 0]else none
  |_=>none
 |_=>none
def Jo(r:List PV)(f:Nat)(vc:List PV):List PV:=r.take f++vc++r.drop (f+vc.length)
def wr(h:A1)(vc:List PV):PV->Option A1
 | .ptr id i f=>match h.obj id with
  |some (.arr z rows)=>match rows[i]? with
   |some r=>if f+vc.length<=r.length then some (h.set id (.arr z (rows.set i (Jo r f vc))))else none
   |none=>none
  |_=>none
 |_=>none
def EW(h:A1):PV->Option (A1 × List (List PV))
 | .emp=>some (h,[])
 | .sc (.slice none 0 0)=>some (h,[])
 | .own id off len=>match h.obj id with
  |some (.arr _ rows)=>if off+len<=rows.length then some (h.kill id,(rows.drop off).take len)else none
  |_=>none
 |_=>none
def De(h:A1)(z:Nat):PV->Bool
 | .A2 z' _=>z'==z
 | .own id _ _=>match h.obj id with|some (.arr z' _)=>z'==z|_=>false
 | .emp=>true
 | .sc (.slice none 0 0)=>true
 | .sc (.slice _ 0 _)=>true
 |_=>false
def La(z bytes:Nat)(h:A1)(x y:PV):Option (PV × A1):=
 if De h z x&&De h z y&&decide (0<z)&&decide (0<bytes)then
  match Gg h y,EW h x with
  |some new,some (h',B6)=>if(B6.length+new.length)*bytes<=140737488355328 then some (.own h.next 0 (B6.length+new.length),h'.new (.arr z (B6++new)))else none
  |_,_=>none
 else none
def MW(z:Nat)(x:PV)(h:A1)(lo hi:Option Int):Option PV:=
 match GA h x with
 |none=>none
 |some n=>
  let a:=lo.getD 0;let b:=hi.getD n
  if 0<=a/\a<=b/\b<=n/\De h z x=true then
   match x with
   | .A2 z rows=>some (.A2 z ((rows.drop a.toNat).take (b-a).toNat))
   | .own id off _=>match h.obj id with
    |some (.arr _ _)=>some (.own id (off+a.toNat) (b-a).toNat)
    |_=>none
   | .emp=>some .emp
   | .sc (.slice none 0 0)=>some (.sc (.slice none 0 0))
   |_=>none
  else none
def MX(x:PV)(lo hi:Option Int):Option PV:=
 match x with
 | .sc (.string s)=>if 0<=lo.getD 0/\lo.getD 0<=hi.getD s.size/\hi.getD s.size<=s.size then some (.sc (.string (s.extract (lo.getD 0).toNat (hi.getD s.size).toNat)))else none
 |_=>none
def IA(place:Nat->Option (Nat × Nat))(cells:List PV):List (Nat × PV)->Option (List PV)
 |[]=>some cells
 |(i,v)::rest=>match place i with
  |none=>none
  |some (off,n)=>if v.cells.length=n/\off+n<=cells.length/\v.cells.all Cx=true then IA place (Jo cells off v.cells) rest else none
def He(z:Nat)(rows:List (List PV)):List (Nat × PV)->Option (List (List PV))
 |[]=>some rows
 |(i,v)::rest=>if v.cells.length=z/\i<rows.length/\v.cells.all Cx=true then He z (rows.set i v.cells) rest else none
def IB:Value->Value->Option Bool
 | .int k a,.int k' b=>if k=k' then some (a==b)else none
 | .string a,.string b=>some (a==b)
 | .bool a,.bool b=>some (a==b)
 |_,_=>none
def Fv(kt:Nat):Value->Bool
 | .int _ _=>kt==2
 | .string _=>kt==3
 | .bool _=>kt==1
 |_=>false
def Hf(k:Value):List (Value × PV)->Option (Option PV)
 |[]=>some none
 |(k',v)::es=>match IB k k' with
  |some true=>some (some v)
  |some false=>Hf k es
  |none=>none
def IC(k:Value)(v:PV):List (Value × PV)->Option (List (Value × PV))
 |[]=>some [(k,v)]
 |(k',v')::es=>match IB k k' with
  |some true=>some ((k,v)::es)
  |some false=>(IC k v es).map ((k',v')::·)
  |none=>none
def MY(h:A1):PV->Option (List (Value × PV))
 | .sc (.map none)=>some []
 | .mp id=>match h.obj id with|some (.map es)=>some es|_=>none
 |_=>none
def ID(s:Operand->PV):Option Operand->Option (Option Int)
 |none=>some none
 |some x=>(Gs (s x)).map some
def zB(n:Int):Bool:=decide (n=0)
def Jp(s:Operand->PV):Option Operand->Bool
 |some x=>match s x with| .sc (.int _ n)=>zB n|_=>false
 |none=>false
def Jq(ok:Bool)(z:Value):Option PV->PV
 |some v=>if ok then .Am [v,.sc (.bool true)]else v
 |none=>if ok then .Am [Gf z,.sc (.bool false)]else Gf z
def Kh:PV->Bool
 | .A2 _ _=>true
 | .own _ _ _=>true
 | .emp=>true
 | .sc (.slice none 0 0)=>true
 |_=>false
def Oz(b c:Int):PV->Option PV
 | .own id off len=>if 0<=b/\b=c/\b<=len then some (.own id off b.toNat)else none
 |_=>none
def AX(P:Program)(ow:Bool)(op:Op)(ρ:Operand->PV)(h:A1):Option (PV × A1):=
 match op with
 | .move x=>some (ρ x,h)
 | .assign x=>some (ρ x,h)
 | .pick c a b=>match ρ c with| .sc (.bool t)=>some (if t then ρ a else ρ b,h)|_=>none
 | .alloc t=>(DN P t).bind λz=>if 0<z.length then some (.ptr h.next 0 0,h.new (.arr z.length [z.map .sc]))else none
 | .box _ x=>if(ρ x).cells.all Cx=false then none else if ow then(if 0<(ρ x).cells.length then some (.ptr h.next 0 0,h.new (.arr (ρ x).cells.length [(ρ x).cells]))else none)else some (.Ag (ρ x).cells,h)
 | .build t parts=>
  if kT P t=8 then(DN P t).bind λz=>(Ft P t).bind λplaces=>(IA (λi=>places[i]?) (z.map .sc) (parts.toList.map λp=>(p.1,ρ p.2))).map λcs=>(.agg cs,h)
  else if kT P t=9 then(DN P t).bind λz=>(Ke P t).bind λna=>(IA (λi=>some (i*na.2,na.2)) (z.map .sc) (parts.toList.map λp=>(p.1,ρ p.2))).map λcs=>(.agg cs,h)
  else none
 | .buildSlice t len parts=>
  (DZ P t).bind λzb=>(GK P t).bind λz=>
   if z.length=zb.1/\0<zb.1/\len*zb.1<=16777216 then
    (He zb.1 (List.replicate len (z.map .sc)) (parts.toList.map λp=>(p.1,ρ p.2))).bind λrows=>
     if len=0 then some (.emp,h)
     else if ow then some (.own h.next 0 len,h.new (.arr zb.1 rows))else some (.A2 zb.1 rows,h)
   else none
 | .load t a=>(CU P t).bind λn=>(rd h (ρ a)).bind λcs=>(JH (Cg P t) n cs).map λv=>(v,h)
 | .store t a x=>(CU P t).bind λn=>if(ρ x).cells.length=n/\(ρ x).cells.all Cx=true then(wr h (ρ x).cells (ρ a)).map λh'=>(.sc undef,h')else none
 | .nilCheck x=>match ρ x with
  | .ptr id i f=>some (.ptr id i f,h)
  | .Ag cs=>some (.Ag cs,h)
  |_=>none
 | .binOp op t x y _=>(if kT P t=8 then Kf op (NU P t) (ρ x) (ρ y)else Ij op (kT P t) (Fc x||Fc y) (ρ x) (ρ y)).map λv=>(v,h)
 | .unOp op _ x=>(LY op (ρ x)).map λv=>(v,h)
 | .convert src dst x=>match ρ x with
  | .sc (.string s)=>
   if kT P dst=3 then(if kT P src=3 then some (.sc (.string s),h)else none)
   else if kT P src=3/\LZ P dst=true/\s.size<=140737488355328 then(if ow then some (.own h.next 0 s.data.toList.length,h.new (.arr 1 (EV s.data.toList)))else some (.A2 1 (EV s.data.toList),h))
   else none
  |y=>
   if kT P dst=3 then(if LZ P src=true/\De h 1 y=true then(Gg h y).bind λrows=>(Il rows).map λl=>(.sc (.string ⟨l.toArray⟩),h)else none)
   else(MT (JG P src) (JG P dst) y).map λv=>(v,h)
 | .makeInterface t x=>if kT P t=7\/kT P t=0 then none else match ρ x with| .sc v=>some (.sc (.iface t v),h)|_=>none
 | .makeMap _ none=>some (.mp h.next,h.new (.map []))
 | .slice t x lo hi none=>(ID ρ lo).bind λa=>(ID ρ hi).bind λb=>
   if kT P t=5 then(DZ P t).bind λzb=>(MW zb.1 (ρ x) h a b).map λv=>(v,h)
   else if kT P t=3 then(MX (ρ x) a b).map λv=>(v,h)else none
 | .slice t x none (some hi) (some mx) => (DZ P t).bind λ_ => if Jp ρ (some hi) = true /\ Jp ρ (some mx) = true /\ Kh (ρ x) = true then some (.emp, h)
   else(Gs (ρ hi)).bind λb=>(Gs (ρ mx)).bind λc=>(Oz b c (ρ x)).map λv=>(v,h)
 | .fieldAddr t x f=>(BV P t f).bind λo=>(MV o.1 o.2.1 (ρ x)).map λv=>(v,h)
 | .indexAddr t x i=>(Gs (ρ i)).bind λn=>
   if kT P t=5 then(DZ P t).bind λzb=>(Kg h zb.1 (ρ x) n).map λv=>(v,h)
   else(Ke P t).bind λna=>(MU na.1 na.2 (ρ x) n).map λv=>(v,h)
 | .index t x i=>(Gs (ρ i)).bind λn=>
   match ρ x with
   | .sc (.string s)=>if kT P t=3/\0<=n then(s[n.toNat]?).map λb=>(.sc (.int .u8 b.toNat),h)else none
   | .agg cs=>(NO P t).bind λna=>if 0<=n/\n<na.1 then(JH na.2.2 na.2.1 (cs.drop (n.toNat*na.2.1))).map λv=>(v,h)else none
   |_=>none
 | .lookup t x k ok=>(Jn P t).bind λm=>
   match ρ k,MY h (ρ x)with
   | .sc kv,some es=>if Fv m.1 kv=true then(Hf kv es).map λr=>(Jq ok m.2 r,h)else none
   |_,_=>none
 | .mapUpdate t x k v=>(Jn P t).bind λm=>
   match ρ k,ρ x with
   | .sc kv,.mp id=>match h.obj id with
    |some (.map es)=>if Fv m.1 kv=true then(IC kv (ρ v) es).map λes'=>(.sc undef,h.set id (.map es'))else none
    |_=>none
   |_,_=>none
 | .typeAssert x _ t true=>if kT P t=7\/kT P t=0 then none else match ρ x with
   | .sc (.iface u v)=>if u=t then some (.Am [.sc v,.sc (.bool true)],h)else(LV P t).map λz=>(.Am [Gf z,.sc (.bool false)],h)
   | .sc .nilIface=>(LV P t).map λz=>(.Am [Gf z,.sc (.bool false)],h)
   |_=>none
 | .extract x i=>match ρ x with| .Am vs=>(vs[i]?).map λv=>(v,h)|_=>none
 | .call {callee:= .builtin .len,args:=args,argTypes:=ts}=>match args.toList,ts.toList with
   |[x],[t]=>if GL (kT P t) (ρ x)=true then(GA h (ρ x)).map λ(n:Nat)=>(.sc (.int .i64 (n:Int)),h)else none
   |_,_=>none
 | .call {callee:= .builtin .append,args:=args,argTypes:=ts}=>match args.toList,ts.toList with
   |[x,y],[t,u]=>if t=u then(DZ P t).bind λzb=>La zb.1 zb.2 h (ρ x) (ρ y)else none
   |_,_=>none
 | .makeFunc (.func f) first caps=>some (.fn f (first.toList.map ρ) (caps.toList.map ρ),h)
 |_=>none
def callee(ρ:Operand->PV):Op->Option (FuncId × List PV)
 | .call {callee:= .value f,args:=args,.. }=>match ρ f with
  | .sc (.func (.func f) first captured)=>if first= #[]/\captured= #[]then some (f,args.toList.map ρ)else none
  | .fn f first caps=>some (f,first++(args.toList.map ρ++caps))
  |_=>none
 |_=>none
end Go.AM
namespace Go.AM
structure MZ where
 b:Option Nat
 o:Nat
 z:Nat
 sz:Nat
structure BK where
 bl:Nat->MZ
 X:Nat->Prop
instance:CoeFun BK (λ_=>Nat->MZ):=⟨BK.bl⟩
mutual
def AA(β:BK)(n:Nat)(F:Nat->Prop)(w:World):PV->Value->Prop
 | .sc v,x=>x=v
 | .ptr id i f,x=>id<n/\ ∃ b,(β id).b=some b/\x= .pointer (some ⟨b,(β id).o+i*(β id).z+f,none⟩)
 | .Ag cs,x=> ∃ b o,F b/\x= .pointer (some ⟨b,o,none⟩)/\Bm β n F w cs b o
 | .own id off len, x => id < n /\ ∃ a cap, x = .slice a len cap /\ len <= cap /\ cap <= maxLen /\
   (cap=0\/ ∃ b,(β id).b=some b/\a=some ⟨b,(β id).o+off*(β id).z,none⟩/\(β id).o+(off+cap)*(β id).z<=(β id).sz)
 | .A2 z rows, x => ∃ a cap, x = .slice a rows.length cap /\ rows.length <= cap /\ cap <= maxLen /\
   (rows=[]\/ ∃ b o,F b/\a=some ⟨b,o,none⟩/\BJ β n F w z rows b o)
 | .emp,x=> ∃ a,x= .slice a 0 0
 | .mp id,x=>id<n/\ ∃ b,(β id).b=some b/\x= .map (some b)
 | .agg cs,x=> ∃ xs:List Value,x= .agg xs.toArray/\(∀ v∈xs,v.oneCell'=true)/\AU β n F w cs xs
 | .Am vs,x=> ∃ xs:List Value,x= .tuple xs.toArray/\AU β n F w vs xs
 | .fn f first caps,x=> ∃ xs ys:List Value,x= .func (.func f) xs.toArray ys.toArray/\AU β n F w first xs/\AU β n F w caps ys
 | .ab k lo hi m r,x=> ∃ i:Int,lo<=i/\i<=hi/\i.tmod m=r/\x= .int k i
def Bm(β:BK)(n:Nat)(F:Nat->Prop)(w:World):List PV->Nat->Nat->Prop
 |[],_,_=>True
 |p::ps,b,o=>(∃ v,w.cell? ⟨b,o,none⟩=some v/\v.oneCell'=true/\AA β n F w p v)/\Bm β n F w ps b (o+1)
def BJ(β:BK)(n:Nat)(F:Nat->Prop)(w:World)(z:Nat):List (List PV)->Nat->Nat->Prop
 |[],_,_=>True
 |r::rs,b,o=>(r.length=z/\Bm β n F w r b o)/\BJ β n F w z rs b (o+z)
def AU(β:BK)(n:Nat)(F:Nat->Prop)(w:World):List PV->List Value->Prop
 |[],[]=>True
 |p::ps,v::vs=>AA β n F w p v/\AU β n F w ps vs
 |_,_=>False
end
def Fz(β:BK)(h:A1)(w:World)(b:Nat):Prop:=b<w.heap.size/\(∀ id,(h.obj id).isSome=true->(β id).b≠some b)/\¬ β.X b
def CP(β:BK)(n:Nat)(F:Nat->Prop)(w:World):List (Value × PV)->List MapEntry->Prop
 |[],[]=>True
 |(k,p)::es,e::fs=>(e.key=k/\AA β n F w p e.val)/\CP β n F w es fs
 |_,_=>False
def BM(β:BK)(n:Nat)(F:Nat->Prop)(w:World)(k:MZ):An->Prop
 | .arr z rows => k.z = z /\ ((k.b = none /\ rows = []) \/ ∃ b c e fr, k.b = some b /\ w.heap[b]? = some (.cells c e fr) /\ c.size = k.sz /\ k.o + rows.length * z <= k.sz /\
   (∀ i,i<c.size->¬ (fr.1<=i/\i<fr.2))/\BJ β n F w z rows b k.o)
 | .map es=> ∃ b fs clock,k.b=some b/\w.heap[b]? =some (.map fs clock)/\CP β n F w es fs.toList
 | .Ig g lo hi=>k.b=none/\F g/\ ∃ i:Int,lo<=i/\i<=hi/\w.cell? ⟨g,0,none⟩=some (.int .i64 i)
structure B3(β:BK)(h:A1)(w:World):Prop where
 lt: ∀ id,(h.obj id).isSome=true->id<h.next
 ok: ∀ id o,h.obj id=some o->BM β h.next (Fz β h w) w (β id) o
 inj: ∀ i j,(h.obj i).isSome=true->(h.obj j).isSome=true-> ∀ b,(β i).b=some b->(β j).b=some b->i=j
 xs: ∀ b,β.X b->b<w.heap.size
 nx: ∀ id,(h.obj id).isSome=true-> ∀ b,(β id).b=some b->¬ β.X b
structure BS(β:BK)(h:A1)(w:World)(β':BK)(h':A1)(w':World):Prop where
 os:w'.os=w.os
 tape:w'.tape=w.tape
 output:w'.output=w.output
 size:w.heap.size<=w'.heap.size
 next:h.next<=h'.next
 beta: ∀ id,id<h.next->β' id=β id
 X:β'.X=β.X
 xh: ∀ b,β.X b->b<w.heap.size->w'.heap[b]? =w.heap[b]?
 fz: ∀ b,Fz β h w b->Fz β' h' w' b/\w'.heap[b]? =w.heap[b]?
abbrev AT(β:BK)(h:A1)(w:World):PV->Value->Prop:=AA β h.next (Fz β h w) w
def Ad(P:Program)(f:FuncId):Bool:=match P.funcs[f]? with
 |some fn=>!(fn.name== "runtime.NumGoroutine")&&fn.body.isSome
 |none=>false
def Lb(P:Program)(f:FuncId)(vals:Array Value)(w:World)(Q:Ending->World->Prop):Prop:=
 (Ad P f=true/\Calls P f vals w Q)\/ ∃ v w',(callFunc f vals).run P w= .ok (.value v) w'/\Q (.returned v) w'
theorem Lb.mono{P:Program}{f:FuncId}{vals:Array Value}{w:World}{Q Q':Ending->World->Prop}(h:Lb P f vals w Q)(hk: ∀ e w',Q e w'->Q' e w'):Lb P f vals w Q':=
 h.imp (λ⟨a,b⟩=>⟨a,b.mono hk⟩) (λ⟨v,w',a,b⟩=>⟨v,w',a,hk _ _ b⟩)
def A6(P:Program)(f:FuncId)(args:List PV)(h:A1)(K:PV->A1->Prop):Prop:=
 ∀ (β:BK)(w:World)(vals:List Value),B3 β h w->AU β h.next (Fz β h w) w args vals->
  Lb P f vals.toArray w λe w'=> ∃ r h' β' v,e= .returned v/\K r h'/\B3 β' h' w'/\AT β' h' w' r v/\BS β h w β' h' w'
def CY(P:Program)(ow:Nat->Bool)(o:Oper)(K:AD->A1->Prop)(s:AD)(h:A1):Prop:=
 match callee (AB s) o.op with
 |some (f,args)=>A6 P f args h λr h'=>K (Ai s o.dst r) h'
 |none=>match AX P (o.dst.any ow) o.op (AB s) h with
  |some (r,h')=>K (Ai s o.dst r) h'
  |none=>False
def D3(ops:List Oper)(s:AD)(o:Oper):Option Bool:=
 match o.guard with
 |none=>some true
 |some (g,want)=>match(ops[g]?).bind (·.dst)with
  |none=>none
  |some t=>match s t with
   | .sc (.bool b)=>some (b==want)
   | .sc (.tuple _)=>some false
   |_=>none
def Ei(P:Program)(ow:Nat->Bool)(n:Nat)(ops:List Oper):List Oper->(AD->A1->Prop)->AD->A1->Prop
 |[],K,s,h=>K s h
 |o::rest,K,s,h=>(o.dst.all (λd=>decide (d<n))=true)/\match D3 ops s o with
  |none=>False
  |some b=>if b=true then CY P ow o (Ei P ow n ops rest K) s h else Ei P ow n ops rest K (Ai s o.dst (.sc undef)) h
def Ar(P:Program)(ow:Nat->Bool)(o:Oper)(ρ:Operand->PV)(h:A1)(v:PV)(h':A1):Prop:=
 match callee ρ o.op with
 |some (f,args)=>A6 P f args h λr h''=>r=v/\h''=h'
 |none=>AX P (o.dst.any ow) o.op ρ h=some (v,h')
def BL(ow:Nat->Bool)(wf:FuncId->Bool)(o:Oper):Bool:=
 match o.op with
 | .store _ _ _=>true
 | .mapUpdate _ _ _ _=>true
 | .alloc _=>true
 | .makeMap _ _=>true
 | .makeSlice _ _ _=>true
 | .box _ _=>o.dst.any ow
 | .convert _ _ _=>o.dst.any ow
 | .buildSlice _ _ _=>o.dst.any ow
 | .call {callee:= .builtin .append,.. }=>true
 | .call {callee:= .value (.func f),.. }=>wf f
 | .call {callee:= .value _,.. }=>true
 |_=>false
def pre(ops:List Oper)(i j:Nat):Bool:=((Region.before ops.toArray).getD j 0).testBit i
def EG(P:Program)(ow:Nat->Bool)(wf:FuncId->Bool)(n:Nat)(ops:List Oper):Nat->List Oper->List (Nat × (A1->Prop))->List (Nat × A1)->(AD->A1->Prop)->AD->A1->Prop
  |_,[],_,_,K,s,h=>K s h
  |k,o::rest,past,hist,K,s,h=>(o.dst.all (λd=>decide (d<n))=true)/\match D3 ops s o with
    |none=>False
    |some b=>if b=true then
        (if BL ow wf o = true then ∃ v h', Ar P ow o (AB s) h v h' /\ (∀ x ∈ past, pre ops x.1 k = true \/ x.2 h') /\ EG P ow wf n ops (k + 1) rest past ((k, h) :: hist) K (Ai s o.dst v) h'
         else ∃ v,Ar P ow o (AB s) h v h/\(∀ x∈hist,pre ops x.1 k=true\/Ar P ow o (AB s) x.2 v x.2)/\EG P ow wf n ops (k+1) rest ((k,λh'=>Ar P ow o (AB s) h' v h')::past) hist K (Ai s o.dst v) h)
      else EG P ow wf n ops (k+1) rest past hist K (Ai s o.dst (.sc undef)) h
def Er(ops:List Oper)(o:Oper):List Nat:=
 (o.op.operands.toList.filterMap λ| .tmp t=>some t|_=>none)++(match o.guard with|some (g,_)=>((ops[g]?).bind (·.dst)).toList|none=>[])++o.dst.toList
def Jr(ow:Nat->Bool)(wf:FuncId->Bool)(ops:List Oper):Bool:=
 ops.zipIdx.all λ(o,j)=>(o.after.toList.all λe=>!Region.binds .any e||decide (e.on<j))&&(match o.op with| .select _ _=>false|_=>true)&&
  ops.zipIdx.all λ(q,i)=>i==j||((match q.dst with|none=>true|some d=>!(Er ops o).contains d||pre ops i j||pre ops j i)&&(!(BL ow wf q&&BL ow wf o)||pre ops i j||pre ops j i))
def TU(P:Program)(ow:Nat->Bool)(wf:FuncId->Bool)(n:Nat)(ops:List Oper)(K:AD->A1->Prop)(s:AD)(h:A1):Prop:=
 Jr ow wf ops=true/\EG P ow wf n ops 0 ops [] [] K s h
def Js(o:Oper):Bool:=match o.op with
 | .alloc _=>true
 |_=>false
def Fw(ops:List Oper)(f:Nat):Bool:=match ops[f]? with
 |some o=>Js o
 |none=>false
def Im(P:Program)(ow:Nat->Bool)(id:Nat)(o:Oper)(ρ:Operand->PV)(h:A1)(v:PV)(h':A1):Prop:=
 match o.op with
 | .alloc t=> ∃ zs,DN P t=some zs/\0<zs.length/\v= .ptr id 0 0/\h'=h.set id (.arr zs.length [zs.map .sc])
 |_=>Ar P ow o ρ h v h'
def GB(P:Program)(ow:Nat->Bool)(wf:FuncId->Bool)(n:Nat)(ops:List Oper)(base:Nat):Nat->List Oper->List (Nat × (A1->Prop))->List (Nat × A1)->(AD->A1->Prop)->AD->A1->Prop
  |_,[],_,_,K,s,h=>K s h
  |k,o::rest,past,hist,K,s,h=>(o.dst.all (λd=>decide (d<n))=true)/\match D3 ops s o with
    |none=>False
    |some b=>if b=true then
        (if BL ow wf o = true then ∃ v h', Im P ow (base + k) o (AB s) h v h' /\ (∀ f, k < f -> Fw ops f = true -> h'.obj (base + f) = none) /\ (∀ x ∈ past, pre ops x.1 k = true \/ x.2 h') /\ GB P ow wf n ops base (k + 1) rest past ((k, h) :: hist) K (Ai s o.dst v) h'
         else ∃ v,Ar P ow o (AB s) h v h/\(∀ x∈hist,pre ops x.1 k=true\/Ar P ow o (AB s) x.2 v x.2)/\GB P ow wf n ops base (k+1) rest ((k,λh'=>Ar P ow o (AB s) h' v h')::past) hist K (Ai s o.dst v) h)
      else GB P ow wf n ops base (k+1) rest past hist K (Ai s o.dst (.sc undef)) h
def P0(ow:Nat->Bool)(wf:FuncId->Bool)(ops:List Oper):Bool:=
 ops.zipIdx.all λ(o,j)=>(o.after.toList.all λe=>!Region.binds .any e||decide (e.on<j))&&(match o.op with| .select _ _=>false|_=>true)&&
  ops.zipIdx.all λ(q,i)=>i==j||((match q.dst with|none=>true|some d=>!(Er ops o).contains d||pre ops i j||pre ops j i)&&(!(BL ow wf q&&BL ow wf o)||pre ops i j||pre ops j i||(decide (i<j)&&Js o)||(decide (j<i)&&Js q)))
def TV(P:Program)(ow:Nat->Bool)(wf:FuncId->Bool)(n:Nat)(ops:List Oper)(K:AD->A1->Prop)(s:AD)(h:A1):Prop:=
 P0 ow wf ops=true/\GB P ow wf n ops h.next 0 ops [] [] K s ⟨h.next+ops.length,h.obj⟩
def BE(H:A1)(l:List Nat):A1:=⟨H.next,λj=>if l.contains j=true then none else H.obj j⟩
def Cb(h' H:A1)(l:List Nat):A1:=⟨h'.next,λj=>if l.contains j=true/\(H.obj j).isSome=true then H.obj j else h'.obj j⟩
def Cc(ow:Nat->Bool)(o:Oper):Bool:=match o.op with
 | .alloc _=>true
 | .box _ _=>o.dst.any ow
 | .buildSlice _ _ _=>o.dst.any ow
 |_=>false
def Es(P:Program)(ow:Nat->Bool)(id:Nat)(o:Oper)(ρ:Operand->PV):Option (PV × An):=match AX P (o.dst.any ow) o.op ρ ⟨id,λ_=>none⟩with
 |some (v,h1)=>match h1.obj id with
  |some (.arr z rows)=>if rows.isEmpty=true then none else some (v,.arr z rows)
  |_=>none
 |none=>none
def Ct(lt:Nat->Option (Nat × An))(p:Nat->Bool)(H:A1):Nat->A1
 |0=>H
 |m+1=>match lt m with
  |some q=>if p m=true then(Ct lt p H m).set q.1 q.2 else Ct lt p H m
  |none=>Ct lt p H m
def kx(ow:Nat->Bool)(ops:List Oper)(lt:Nat->Option (Nat × An))(x:Nat):List Nat:=(List.range ops.length).filterMap λf=>if(!(x==f)&&!(pre ops f x)&&(!(pre ops x f)||(ops[f]?).any (Cc ow)))=true then(lt f).map (·.1)else none
def TW(ops:List Oper)(br:Nat->Bool)(x M:Nat):Prop:=M<=ops.length/\(∀ b,b<M->br b=true->pre ops x b=false)/\(∀ b,M<=b->br b=true->pre ops b x=false)/\(M=0\/br (M-1)=true)
def gx(ops:List Oper)(lt:Nat->Option (Nat × An))(hk:Nat->A1)(x M:Nat)(l:List Nat):A1:=BE (Ct lt (λf=>decide (M<=f)&&pre ops f x) (hk M) ops.length) l
structure DP(P:Program)(ow:Nat->Bool)(wf:FuncId->Bool)(n:Nat)(ops:List Oper)(base:Nat)(sk:Nat->AD)(hk:Nat->A1)(vk:Nat->PV)(lt:Nat->Option (Nat × An))(br:Nat->Bool):Prop where
 step: ∀ (j:Nat)(o:Oper),ops[j]? =some o->o.dst.all (λd=>decide (d<n))=true/\ ∃ b,D3 ops (sk j) o=some b/\
  (b=false->sk (j+1)=Ai (sk j) o.dst (.sc undef)/\hk (j+1)=hk j/\lt j=none/\br j=false)/\
  (b = true -> sk (j + 1) = Ai (sk j) o.dst (vk j) /\
   (BL ow wf o=false->hk (j+1)=hk j/\lt j=none/\br j=false/\ ∀ M,TW ops br j M-> ∃ l,(∀ id∈kx ow ops lt j,id∈l)/\Ar P ow o (AB (sk j)) (gx ops lt hk j M l) (vk j) (gx ops lt hk j M l))/\
   (BL ow wf o = true ->
    (br j=true/\lt j=none/\(∃ H',Ar P ow o (AB (sk j)) (BE (hk j) (kx ow ops lt j)) (vk j) H'/\(∀ id∈kx ow ops lt j,H'.obj id=none)/\hk (j+1)=Cb H' (hk j) (kx ow ops lt j))/\ ∀ f q,j<f->ops[f]? =some q->Cc ow q=true->(hk (j+1)).obj (base+f)=none)\/
    (br j=false/\Cc ow o=true/\ ∃ ob,lt j=some (base+j,ob)/\Es P ow (base+j) o (AB (sk j))=some (vk j,ob)/\hk (j+1)=(hk j).set (base+j) ob)\/
    (br j=false/\ ∃ t x y id r f ob,o.op= .store t x y/\AB (sk j) x= .ptr id r f/\lt j=some (id,ob)/\hk (j+1)=(hk j).set id ob/\(∀ f q,j<f->ops[f]? =some q->Cc ow q=true->base+f≠id)/\AX P (o.dst.any ow) o.op (AB (sk j)) (hk j)=some (vk j,hk (j+1)))))
 ww: ∀ i j,i<j->j<ops.length->(br i=true\/(lt i).isSome=true)->(br j=true\/(lt j).isSome=true)->
  pre ops i j=true\/(∃ p q,lt i=some p/\lt j=some q/\p.1≠q.1)\/(br i=true/\(lt j).isSome=true/\ ∃ o,ops[j]? =some o/\Cc ow o=true)\/((lt i).isSome=true/\br j=true/\ ∃ o,ops[i]? =some o/\Cc ow o=true)
def Ma(ops:List Oper):Bool:=
 ops.zipIdx.all λ(o,j)=>(o.after.toList.all λe=>!Region.binds .any e||decide (e.on<j))&&(match o.op with| .select _ _=>false|_=>true)&&
  ops.zipIdx.all λ(q,i)=>i==j||(match q.dst with|none=>true|some d=>!(Er ops o).contains d||pre ops i j||pre ops j i)
def P4(P:Program)(ow:Nat->Bool)(wf:FuncId->Bool)(n:Nat)(ops:List Oper)(K:AD->A1->Prop)(s:AD)(h:A1):Prop:=
 Ma ops=true/\ ∃ sk hk vk lt br,sk 0=s/\hk 0=⟨h.next+ops.length,h.obj⟩/\K (sk ops.length) (hk ops.length)/\DP P ow wf n ops h.next sk hk vk lt br
abbrev BW:=Exit->AD->A1->Prop
def BW.seq(next:AD->A1->Prop)(Q:BW):BW
 | .normal,s,h=>next s h
 |e,s,h=>Q e s h
def BW.block(id:Nat)(Q:BW):BW
 | .exit id',s,h=>if id'=id then Q .normal s h else Q (.exit id') s h
 |e,s,h=>Q e s h
def Jt(c:BW->AD->A1->Prop)(Q:BW):Nat->AD->A1->Prop
 |0,_,_=>False
 |k+1,s,h=>c (BW.seq (Jt c Q k) Q) s h
def Wk(s:AD)(h:A1)(s':AD)(h':A1):Prop:= ∀ (β:BK)(w:World),B3 β h w->B3 β h' w/\BS β h w β h' w/\ ∀ t x,AT β h w (s t) x->AT β h' w (s' t) x
def Aq(P:Program)(ow:Nat->Bool)(wf:FuncId->Bool)(n:Nat):Code->BW->AD->A1->Prop
 | .skip,Q,s,h=>Q .normal s h
 | .region _ ops draw,Q,s,h=> ∃ s' h',Wk s h s' h'/\(λs h=>if draw=true then(TU P ow wf n ops.toList (Q .normal) s h\/TV P ow wf n ops.toList (Q .normal) s h\/P4 P ow wf n ops.toList (Q .normal) s h)else Ei P ow n ops.toList ops.toList (Q .normal) s h) s' h'
 | .seq a b,Q,s,h=>Aq P ow wf n a (BW.seq (Aq P ow wf n b Q) Q) s h
 | .cond c x y,Q,s,h=>match AB s c with
  | .sc (.bool b)=>if b=true then Aq P ow wf n x Q s h else Aq P ow wf n y Q s h
  |_=>False
 | .block id c,Q,s,h=>Aq P ow wf n c (BW.block id Q) s h
 | .loop c,Q,s,h=> ∃ k,Jt (Aq P ow wf n c) Q k s h
 | .exit id,Q,s,h=>Q (.exit id) s h
 | .ret,Q,s,h=>Q .ret s h
 |_,_,_,_=>False
def Mb(args:List PV):AD:=λt=>args.getD t (.sc undef)
def Lc(P:Program)(s:AD)(h:A1):ResultVar->Option PV
 | .tmp t=>some (s t)
 | .cell a t=>(CU P t).bind λn=>(rd h (s a)).bind λcs=>JH (Cg P t) n cs
def HE(P:Program)(s:AD)(h:A1):List ResultVar->Option (List PV)
 |[]=>some []
 |r::rs=>(Lc P s h r).bind λv=>(HE P s h rs).map λvs=>v::vs
def Gt:List PV->PV
 |[v]=>v
 |vs=> .Am vs
def Io(P:Program)(rs:List ResultVar)(K:PV->A1->Prop):BW
 | .normal,s,h=>match HE P s h rs with|some vs=>K (Gt vs) h|none=>False
 | .ret,s,h=>match HE P s h rs with|some vs=>K (Gt vs) h|none=>False
 |_,_,_=>False
end Go.AM
namespace Go.AM
section
variable {β β':BK}{n n':Nat}{F F':Nat->Prop}{w w':World}
theorem Qs{w w':World}{b:Nat}(h:w'.heap[b]? =w.heap[b]?)(o:Nat):w'.cell? ⟨b,o,none⟩=w.cell? ⟨b,o,none⟩:=by
 simp only[World.cell?,h]
structure Mv(β:BK)(n:Nat)(F:Nat->Prop)(w:World)(β':BK)(n':Nat)(F':Nat->Prop)(w':World):Prop where
 le:n<=n'
 beta: ∀ id,id<n->(β id).b≠none->β' id=β id
 fz: ∀ b,F b->F' b/\w'.heap[b]? =w.heap[b]?
mutual
theorem AA.mv(m:Mv β n F w β' n' F' w'):(p:PV)->(x:Value)->AA β n F w p x->AA β' n' F' w' p x
 | .sc v,x,h=>by simpa only[AA]using h
 | .ptr id i f,x,h=>by
  simp only[AA]at h⊢;obtain⟨h1,b,h2,h3⟩:=h;rw[m.beta id h1 (by rw[h2];simp)];exact⟨I4 h1 m.le,b,h2,h3⟩
 | .Ag cs,x,h=>by
  simp only[AA]at h⊢;obtain⟨b,o,h1,h2,h3⟩:=h;exact⟨b,o,(m.fz b h1).1,h2,Bm.mv m cs b o h1 h3⟩
 | .own id off len,x,h=>by
  simp only[AA]at h⊢;obtain⟨h1,a,cap,h2,h3,h3',h4⟩:=h;refine⟨I4 h1 m.le,a,cap,h2,h3,h3',h4.imp (λx=>x) ?_⟩;rintro⟨b,h5,h6⟩;rw[m.beta id h1 (by rw[h5];simp)];exact⟨b,h5,h6⟩
 | .A2 z rows,x,h=>by
  simp only[AA]at h⊢;obtain⟨a,cap,h1,h2,h2',h3⟩:=h;refine⟨a,cap,h1,h2,h2',h3.imp id ?_⟩;rintro⟨b,o,h4,h5,h6⟩;exact⟨b,o,(m.fz b h4).1,h5,BJ.mv m z rows b o h4 h6⟩
 | .emp,x,h=>by simpa only[AA]using h
 | .mp id,x,h=>by
  simp only[AA]at h⊢;obtain⟨h1,b,h2,h3⟩:=h;rw[m.beta id h1 (by rw[h2];simp)];exact⟨I4 h1 m.le,b,h2,h3⟩
 | .agg cs,x,h=>by
  simp only[AA]at h⊢;obtain⟨xs,h1,h1',h2⟩:=h;exact⟨xs,h1,h1',AU.mv m cs xs h2⟩
 | .Am cs,x,h=>by
  simp only[AA]at h⊢;obtain⟨xs,h1,h2⟩:=h;exact⟨xs,h1,AU.mv m cs xs h2⟩
 | .fn f first caps,x,h=>by
  simp only[AA]at h⊢;obtain⟨xs,ys,h1,h2,h3⟩:=h;exact⟨xs,ys,h1,AU.mv m first xs h2,AU.mv m caps ys h3⟩
 | .ab k lo hi mm r,x,h=>by simpa only[AA]using h
theorem Bm.mv(m:Mv β n F w β' n' F' w'):(l:List PV)->(b o:Nat)->F b->Bm β n F w l b o->Bm β' n' F' w' l b o
 |[],_,_,_,_=>by simp only[Bm]
 |p::ps,b,o,hF,h=>by
  simp only[Bm]at h⊢;obtain⟨⟨v,h1,h1',h2⟩,h3⟩:=h;refine⟨⟨v,?_,h1',AA.mv m p v h2⟩,Bm.mv m ps b (o+1) hF h3⟩;rw[Qs (m.fz b hF).2];exact h1
theorem BJ.mv(m:Mv β n F w β' n' F' w')(z:Nat):(l:List (List PV))->(b o:Nat)->F b->BJ β n F w z l b o->BJ β' n' F' w' z l b o
 |[],_,_,_,_=>by simp only[BJ]
 |r::rs,b,o,hF,h=>by
  simp only[BJ]at h⊢;obtain⟨⟨h1,h2⟩,h3⟩:=h;exact⟨⟨h1,Bm.mv m r b o hF h2⟩,BJ.mv m z rs b (o+z) hF h3⟩
theorem AU.mv(m:Mv β n F w β' n' F' w'):(l:List PV)->(xs:List Value)->AU β n F w l xs->AU β' n' F' w' l xs
 |[],[],_=>by simp only[AU]
 |[],_::_,h=>by simp only[AU]at h
 |_::_,[],h=>by simp only[AU]at h
 |p::ps,v::vs,h=>by
  simp only[AU]at h⊢;exact⟨AA.mv m p v h.1,AU.mv m ps vs h.2⟩
end
theorem Bm.KW{b:Nat}(m:Mv β n F w β' n' F' w')(hb:w'.heap[b]? =w.heap[b]?):(l:List PV)->(o:Nat)->Bm β n F w l b o->Bm β' n' F' w' l b o
 |[],_,_=>by simp only[Bm]
 |p::ps,o,h=>by
  simp only[Bm]at h⊢;obtain⟨⟨v,h1,h1',h2⟩,h3⟩:=h;refine⟨⟨v,?_,h1',AA.mv m p v h2⟩,Bm.KW m hb ps (o+1) h3⟩;rw[Qs hb];exact h1
theorem BJ.KW{b:Nat}(m:Mv β n F w β' n' F' w')(hb:w'.heap[b]? =w.heap[b]?)(z:Nat):(l:List (List PV))->(o:Nat)->BJ β n F w z l b o->BJ β' n' F' w' z l b o
 |[],_,_=>by simp only[BJ]
 |r::rs,o,h=>by
  simp only[BJ]at h⊢;obtain⟨⟨h1,h2⟩,h3⟩:=h;exact⟨⟨h1,Bm.KW m hb r o h2⟩,BJ.KW m hb z rs (o+z) h3⟩
theorem CP.mv(m:Mv β n F w β' n' F' w'):(l:List (Value × PV))->(xs:List MapEntry)->CP β n F w l xs->CP β' n' F' w' l xs
 |[],[],_=>by simp only[CP]
 |[],_::_,h=>by simp only[CP]at h
 |_::_,[],h=>by simp only[CP]at h
 |(k,p)::ps,v::vs,h=>by
  simp only[CP]at h⊢;exact⟨⟨h.1.1,AA.mv m p _ h.1.2⟩,CP.mv m ps vs h.2⟩
end
section
variable {β β' β'':BK}{h h' h'':A1}{w w' w'':World}
theorem BS.refl:BS β h w β h w:=⟨rfl,rfl,rfl,AG _,AG _,λ_ _=>rfl,rfl,λ_ _ _=>rfl,λ_ hb=>⟨hb,rfl⟩⟩
theorem BS.trans(e:BS β h w β' h' w')(f:BS β' h' w' β'' h'' w''):BS β h w β'' h'' w'':=
 ⟨f.os.trans e.os,f.tape.trans e.tape,f.output.trans e.output,ES e.size f.size,ES e.next f.next,
  λid hi=>(f.beta id (I4 hi e.next)).trans (e.beta id hi),f.X.trans e.X,λb hb hl=>(f.xh b (by rw[e.X];exact hb) (I4 hl e.size)).trans (e.xh b hb hl),λb hb=>⟨(f.fz b (e.fz b hb).1).1,(f.fz b (e.fz b hb).1).2.trans (e.fz b hb).2⟩⟩
theorem BS.mv(e:BS β h w β' h' w'):Mv β h.next (Fz β h w) w β' h'.next (Fz β' h' w') w':=⟨e.next,λid hid _=>e.beta id hid,e.fz⟩
theorem BS.rep(e:BS β h w β' h' w'){p:PV}{x:Value}(r:AT β h w p x):AT β' h' w' p x:=AA.mv e.mv p x r
theorem B3.drew(s:B3 β h w):B3 β h w.drew/\BS β h w β h w.drew:=by
 have e:BS β h w β h w.drew:=⟨rfl,rfl,rfl,AG _,AG _,λ_ _=>rfl,rfl,λ_ _ _=>rfl,λ_ hb=>⟨hb,rfl⟩⟩;refine⟨⟨s.lt,λid o ho=>?_,s.inj,s.xs,s.nx⟩,e⟩;have hk:=s.ok id o ho;cases o with
 |arr z rows=>
  simp only[BM]at hk⊢;refine⟨hk.1,hk.2.imp (λx=>x) ?_⟩;rintro⟨b,c,t,fr,h1,h2,h3,h4,h5,h6⟩;exact⟨b,c,t,fr,h1,h2,h3,h4,h5,BJ.KW e.mv rfl z rows _ h6⟩
 |map es=>
  simp only[BM]at hk⊢;obtain⟨b,fs,cl,h1,h2,h3⟩:=hk;exact⟨b,fs,cl,h1,h2,CP.mv e.mv _ _ h3⟩
 |Ig g lo hi=>exact hk
theorem BM.mv{n n':Nat}{F F':Nat->Prop}(m:Mv β n F w β' n' F' w'){k:MZ}{o:An}(hb: ∀ b,k.b=some b->w'.heap[b]? =w.heap[b]?)(hk:BM β n F w k o):BM β' n' F' w' k o:=by
 cases o with
 |arr z rows=>
  simp only[BM]at hk⊢;refine⟨hk.1,hk.2.imp (λx=>x) ?_⟩;rintro⟨b,c,t,fr,h1,h2,h3,h4,h5,h6⟩;exact⟨b,c,t,fr,h1,by rw[hb b h1];exact h2,h3,h4,h5,BJ.KW m (hb b h1) z rows _ h6⟩
 |map es=>
  simp only[BM]at hk⊢;obtain⟨b,fs,cl,h1,h2,h3⟩:=hk;exact⟨b,fs,cl,h1,by rw[hb b h1];exact h2,CP.mv m _ _ h3⟩
 |Ig g lo hi=>
  simp only[BM]at hk⊢;obtain⟨h1,h2,h3⟩:=hk;exact⟨h1,(m.fz g h2).1,by rw[Qs (m.fz g h2).2];exact h3⟩
end
theorem Wk.refl{s:AD}{h:A1}:Wk s h s h:=λ_ _ sm=>⟨sm,BS.refl,λ_ _ hr=>hr⟩
theorem Wk.trans{s s' s'':AD}{h h' h'':A1}(a:Wk s h s' h')(b:Wk s' h' s'' h''):Wk s h s'' h'':=λβ w sm=>
 have⟨a1,a2,a3⟩:=a β w sm;have⟨b1,b2,b3⟩:=b β w a1
 ⟨b1,a2.trans b2,λt x hr=>b3 t x (a3 t x hr)⟩
end Go.AM
namespace Go.AM
section
variable {β:BK}{n:Nat}{F:Nat->Prop}{w:World}
theorem HF:{l:List PV}->{b o:Nat}->(Bm β n F w l b o↔ ∀ j p,l[j]? =some p-> ∃ v,w.cell? ⟨b,o+j,none⟩=some v/\v.oneCell'=true/\AA β n F w p v)
 |[],b,o=>by simp[Bm]
 |p::ps,b,o=>by
  simp only[Bm,HF (l:=ps)];constructor
  ·rintro ⟨h0,h1⟩ j q hq;cases j with
   |zero=>simp at hq;subst hq;simpa using h0
   |succ j=>
    have:=h1 j q (by simpa using hq)
    rwa [show o+1+j=o+(j+1) by omega]at this
  ·intro h;refine⟨by simpa using h 0 p rfl,λj q hq=>?_⟩;have:=h (j+1) q (by simpa using hq)
   rwa [show o+(j+1)=o+1+j by omega]at this
theorem HG{z:Nat}:{l:List (List PV)}->{b o:Nat}->(BJ β n F w z l b o↔ ∀ i r,l[i]? =some r->r.length=z/\Bm β n F w r b (o+i*z))
 |[],b,o=>by simp[BJ]
 |r::rs,b,o=>by
  simp only[BJ,HG (l:=rs)];constructor
  ·rintro ⟨h0,h1⟩ j q hq;cases j with
   |zero=>simp at hq;subst hq;simpa using h0
   |succ j=>
    have:=h1 j q (by simpa using hq)
    rwa [show o+z+j*z=o+(j+1)*z by rw[Jk];omega]at this
  ·intro h;refine⟨by simpa using h 0 r rfl,λj q hq=>?_⟩;have:=h (j+1) q (by simpa using hq)
   rwa [show o+(j+1)*z=o+z+j*z by rw[Jk];omega]at this
theorem IE:{l:List PV}->{xs:List Value}->(AU β n F w l xs↔l.length=xs.length/\ ∀ (j:Nat)(p:PV)(v:Value),l[j]? =some p->xs[j]? =some v->AA β n F w p v)
 |[],[]=>by simp[AU]
 |[],_::_=>by simp[AU]
 |_::_,[]=>by simp[AU]
 |p::ps,v::vs=>by
  simp only[AU,IE (l:=ps) (xs:=vs),List.length_cons];constructor
  ·rintro ⟨h0,h1,h2⟩;refine⟨by omega,λj q u hq hu=>?_⟩;cases j with
   |zero=>simp at hq hu;subst hq;subst hu;exact h0
   |succ j=>exact h2 j q u (by simpa using hq) (by simpa using hu)
  ·rintro ⟨h1,h2⟩;exact⟨h2 0 p v rfl rfl,by omega,λj q u hq hu=>h2 (j+1) q u (by simpa using hq) (by simpa using hu)⟩
theorem Bm.drop{l:List PV}{b o:Nat}(h:Bm β n F w l b o)(f:Nat):Bm β n F w (l.drop f) b (o+f):=by
 rw[HF]at h⊢;intro j p hp;rw[List.getElem?_drop]at hp;have:=h (f+j) p hp
 rwa [show o+(f+j)=o+f+j by omega]at this
theorem Bm.take{l:List PV}{b o:Nat}(h:Bm β n F w l b o)(f:Nat):Bm β n F w (l.take f) b o:=by
 rw[HF]at h⊢;intro j p hp;rw[List.getElem?_take]at hp;split at hp
 ·exact h j p hp
 ·simp at hp
theorem BJ.drop{z:Nat}{l:List (List PV)}{b o:Nat}(h:BJ β n F w z l b o)(f:Nat):BJ β n F w z (l.drop f) b (o+f*z):=by
 rw[HG]at h⊢;intro j p hp;rw[List.getElem?_drop]at hp;have:=h (f+j) p hp
 rwa [show o+(f+j)*z=o+f*z+j*z by rw[KP];omega]at this
theorem BJ.take{z:Nat}{l:List (List PV)}{b o:Nat}(h:BJ β n F w z l b o)(f:Nat):BJ β n F w z (l.take f) b o:=by
 rw[HG]at h⊢;intro j p hp;rw[List.getElem?_take]at hp;split at hp
 ·exact h j p hp
 ·simp at hp
theorem Bm.vals{l:List PV}{b o:Nat}(h:Bm β n F w l b o): ∃ xs:List Value,xs.length=l.length/\AU β n F w l xs/\(∀ v∈xs,v.oneCell'=true)/\ ∀ j v,xs[j]? =some v->w.cell? ⟨b,o+j,none⟩=some v:=by
 induction l generalizing o with
 |nil=>exact⟨[],rfl,by simp[AU],by simp,by simp⟩
 |cons p ps ih=>
  simp only[Bm]at h;obtain⟨⟨v,h1,h2,h3⟩,h4⟩:=h;obtain⟨xs,e1,e2,e3,e4⟩:=ih h4;refine⟨v::xs,by simp[e1],by simp only[AU];exact⟨h3,e2⟩,by simpa using ⟨h2,e3⟩,λj u hu=>?_⟩;cases j with
  |zero=>simp at hu;subst hu;simpa using h1
  |succ j=>have:=e4 j u (by simpa using hu);rwa [show o+1+j=o+(j+1) by omega]at this
theorem BJ.vals{z:Nat}{l:List (List PV)}{b o:Nat}(h:BJ β n F w z l b o): ∃ xs:List Value,xs.length=l.length*z/\AU β n F w l.flatten xs/\(∀ v∈xs,v.oneCell'=true)/\ ∀ j v,xs[j]? =some v->w.cell? ⟨b,o+j,none⟩=some v:=by
 induction l generalizing o with
 |nil=>exact⟨[],by simp,by simp[AU],by simp,by simp⟩
 |cons r rs ih=>
  simp only[BJ]at h;obtain⟨⟨hl,h1⟩,h2⟩:=h;obtain⟨ys,a1,a2,a3,a4⟩:=h1.vals;obtain⟨xs,e1,e2,e3,e4⟩:=ih h2;refine⟨ys++xs,by simp[e1,a1,hl,Jk];omega,?_,λv hv=>(List.mem_append.1 hv).elim (a3 v) (e3 v),λj u hu=>?_⟩
  ·rw [IE]at a2 e2⊢;simp only[List.flatten_cons];refine⟨by simp only[List.length_append];omega,λj p v hp hv=>?_⟩;rw[List.getElem?_append]at hp hv;rw[a2.1]at hp;split at hp
   ·rename_i hj;rw[AK hj]at hv;exact a2.2 j p v hp hv
   ·rename_i hj;rw[A8 hj]at hv;exact e2.2 _ p v hp hv
  ·rw [List.getElem?_append]at hu;split at hu
   ·exact a4 j u hu
   ·rename_i hj;have:=e4 _ u hu
    rwa [show o+z+(j-ys.length)=o+j by omega]at this
theorem BJ.Yn{z:Nat}{b:Nat}:{l:List (List PV)}->{o:Nat}->{xs:List Value}->(∀ r∈l,r.length=z)->AU β n F w l.flatten xs->(∀ v∈xs,v.oneCell'=true)->(∀ j v,xs[j]? =some v->w.cell? ⟨b,o+j,none⟩=some v)->BJ β n F w z l b o
 |[],_,_,_,_,_,_=>by simp[BJ]
 |r::rs,o,xs,hz,h,h1,hc=>by
  have hr:=hz r (by simp);simp only[List.flatten_cons]at h;rw[IE]at h;simp only[List.length_append]at h;simp only[BJ];refine⟨⟨hr,?_⟩,BJ.Yn (xs:=xs.drop z) (λq hq=>hz q (by simp[hq])) ?_ (λv hv=>h1 v (List.mem_of_mem_drop hv)) ?_⟩
  ·rw [HF];intro j p hp;have hj:j<r.length:=(List.getElem?_eq_some_iff.1 hp).1;have hx:xs[j]? =some xs[j]:=List.getElem?_eq_getElem (by omega);exact⟨xs[j],hc j _ hx,h1 _ (List.getElem_mem _),h.2 j p _ (by rw[List.getElem?_append_left hj];exact hp) hx⟩
  ·rw [IE];refine⟨by simp only[List.length_drop];omega,λj p v hp hv=>?_⟩;rw[List.getElem?_drop]at hv;exact h.2 (z+j) p v (by rw[List.getElem?_append_right (by omega)];rw[show z+j-r.length=j by omega];exact hp) hv
  ·intro j v hv;rw[List.getElem?_drop]at hv;have:=hc (z+j) v hv
   rwa [show o+(z+j)=o+z+j by omega]at this
theorem AA.one{p:PV}{x:Value}(hp:Cx p=true)(h:AA β n F w p x):x.oneCell'=true:=by
 cases p<;>simp only[AA]at h<;>simp[Cx]at hp
 ·subst h;exact hp
 ·obtain ⟨_,b,_,rfl⟩:=h;rfl
 ·obtain ⟨b,o,_,rfl,_⟩:=h;rfl
 ·obtain ⟨_,a,cap,rfl,_⟩:=h;rfl
 ·obtain ⟨a,cap,rfl,_⟩:=h;rfl
 ·obtain ⟨a,rfl⟩:=h;rfl
 ·obtain ⟨_,b,_,rfl⟩:=h;rfl
 ·obtain ⟨_,_,rfl,_⟩:=h;rfl
 ·obtain ⟨_,_,_,_,rfl⟩:=h;rfl
theorem AA.cells{p:PV}{x:Value}(hp:p.cells.all Cx=true)(h:AA β n F w p x):AU β n F w p.cells x.cells.toList/\ ∀ v∈x.cells.toList,v.oneCell'=true:=by
 by_cases ha: ∃ cs,p= .agg cs
 ·obtain ⟨cs,rfl⟩:=ha;simp only[AA]at h;obtain⟨xs,rfl,h1,h2⟩:=h;exact⟨h2,h1⟩
 ·have hc:p.cells=[p]:=by cases p<;>first|rfl|exact absurd ⟨_,rfl⟩ ha
  rw[hc]at hp⊢;simp at hp;have h1:=AA.one hp h;have hx:x.cells= #[x]:=by cases x<;>first|rfl|simp[Value.oneCell']at h1
  rw[hx];exact⟨by simp only[AU];exact⟨h,trivial⟩,by simpa using h1⟩
theorem AU.sc:(l:List Value)->AU β n F w (l.map .sc) l
 |[]=>by simp[AU]
 |v::vs=>by simp only[List.map_cons,AU,AA];exact⟨trivial,AU.sc vs⟩
theorem AU.append{l m:List PV}{xs ys:List Value}(h:AU β n F w l xs)(k:AU β n F w m ys):AU β n F w (l++m) (xs++ys):=by
 rw[IE]at h k⊢;refine⟨by simp[h.1,k.1],λj p v hp hv=>?_⟩;rw[List.getElem?_append]at hp hv;rw[h.1]at hp;split at hp
 ·rename_i hj;rw[AK hj]at hv;exact h.2 j p v hp hv
 ·rename_i hj;rw[A8 hj]at hv;exact k.2 _ p v hp hv
theorem AU.take{l:List PV}{xs:List Value}(h:AU β n F w l xs)(f:Nat):AU β n F w (l.take f) (xs.take f):=by
 rw[IE]at h⊢;refine⟨by simp[h.1],λj p v hp hv=>?_⟩;rw[List.getElem?_take]at hp hv;split at hp
 ·rename_i hj;rw[AK hj]at hv;exact h.2 j p v hp hv
 ·simp at hp
theorem AU.drop{l:List PV}{xs:List Value}(h:AU β n F w l xs)(f:Nat):AU β n F w (l.drop f) (xs.drop f):=by
 rw[IE]at h⊢;refine⟨by simp[h.1],λj p v hp hv=>?_⟩;rw[List.getElem?_drop]at hp hv;exact h.2 _ p v hp hv
theorem AU.len{l:List PV}{xs:List Value}(h:AU β n F w l xs):l.length=xs.length:=(IE.1 h).1
theorem AU.get{l:List PV}{xs:List Value}(h:AU β n F w l xs){j:Nat}{p:PV}(hp:l[j]? =some p): ∃ v,xs[j]? =some v/\AA β n F w p v:=by
 have hj:j<l.length:=(List.getElem?_eq_some_iff.1 hp).1;have hx:xs[j]? =some (xs[j]'(by rw[← h.len];exact hj)):=List.getElem?_eq_getElem _;exact⟨_,hx,(IE.1 h).2 j p _ hp hx⟩
end
section
variable {β β':BK}{h h':A1}{w w':World}
theorem B3.step(s:B3 β h w)(id0:Nat)(o0:An)
  (hos:w'.os=w.os)(htape:w'.tape=w.tape)(hout:w'.output=w.output)(hsize:w.heap.size<=w'.heap.size)
  (hnext:h.next<=h'.next)(hbeta: ∀ id,id<h.next->β' id=β id)
  (h0:h'.obj id0=some o0)(hlt0:id0<h'.next)
  (hold: ∀ id,id≠id0->h'.obj id=none\/h'.obj id=h.obj id)
  (hblk: ∀ b,(β' id0).b=some b->w.heap.size<=b\/ ∃ j,(h.obj j).isSome=true/\(β j).b=some b/\(j=id0\/h'.obj j=none))
  (hmem: ∀ b,b<w.heap.size->(β' id0).b≠some b->w'.heap[b]? =w.heap[b]?)
  (hok:Mv β h.next (Fz β h w) w β' h'.next (Fz β' h' w') w'->BM β' h'.next (Fz β' h' w') w' (β' id0) o0)(hX:β'.X=β.X:=by rfl):
  B3 β' h' w'/\BS β h w β' h' w':=by
 have hlive: ∀ id,id≠id0->(h'.obj id).isSome=true->h'.obj id=h.obj id/\(h.obj id).isSome=true/\id<h.next/\β' id=β id:=by
  intro id hne hs;rcases hold id hne with h1|h1
  ·rw [h1]at hs;simp at hs
  ·rw [h1]at hs;have:=s.lt id hs;exact⟨h1,hs,this,hbeta id this⟩
 have hxb: ∀ b,(β' id0).b=some b->¬ β.X b:=by
  intro b e hx;rcases hblk b e with h1|⟨j,hj,hjb,_⟩
  ·have:=s.xs b hx;omega
  ·exact s.nx j hj b hjb hx
 have hfz: ∀ b,Fz β h w b->Fz β' h' w' b/\w'.heap[b]? =w.heap[b]?:=by
  intro b hb;have DD:(β' id0).b≠some b:=by
   intro e;rcases hblk b e with h1|⟨j,hj,hjb,_⟩
   ·exact absurd hb.1 (by omega)
   ·exact hb.2.1 j hj hjb
  refine⟨⟨I4 hb.1 hsize,λid hs=>?_,by rw[hX];exact hb.2.2⟩,hmem b hb.1 DD⟩;by_cases e:id=id0
  ·subst e;exact DD
  ·obtain ⟨_,h2,_,h4⟩:=hlive id e hs;rw[h4];exact hb.2.1 id h2
 have m:Mv β h.next (Fz β h w) w β' h'.next (Fz β' h' w') w':=⟨hnext,λid hid _=>hbeta id hid,hfz⟩
 have hblkne: ∀ id,id≠id0->(h'.obj id).isSome=true-> ∀ b,(β id).b=some b->(β' id0).b≠some b:=by
  intro id hne hs b hb e;obtain⟨h1,h2,h3,h4⟩:=hlive id hne hs;have hin:=s.ok id _ (Ya h2);have hlt:b<w.heap.size:=by
   cases hob:(h.obj id).get h2 with
   |arr z rows=>
    rw[hob]at hin;simp only[BM]at hin;rcases hin.2 with⟨h5,_⟩|⟨b',c,t,fr,h5,h6,_⟩
    ·rw [h5]at hb;simp at hb
    ·rw [h5]at hb;simp at hb;subst hb;exact(I5.1 h6).1
   |map es=>
    rw[hob]at hin;simp only[BM]at hin;obtain⟨b',fs,cl,h5,h6,_⟩:=hin;rw[h5]at hb;simp at hb;subst hb;exact(I5.1 h6).1
   |Ig g lo hi=>
    rw[hob]at hin;simp only[BM]at hin;rw[hin.1]at hb;simp at hb
  rcases hblk b e with h5|⟨j,hj,hjb,h5⟩
  ·omega
  ·have:=s.inj j id hj h2 b hjb hb;subst this;rcases h5 with h5|h5
   ·exact hne h5
   ·rw [h5]at hs;simp at hs
 refine⟨⟨λid hs=>?_,λid o ho=>?_,λi j hi hj b hbi hbj=>?_,λb hb=>?_,λid hs b hb=>?_⟩,⟨hos,htape,hout,hsize,hnext,hbeta,hX,λb hb hl=>hmem b hl (λe=>hxb b e hb),hfz⟩⟩
 ·by_cases e:id=id0
  ·subst e;exact hlt0
  ·exact I4 (hlive id e hs).2.2.1 hnext
 ·by_cases e:id=id0
  ·subst e;rw[h0]at ho;simp at ho;subst ho;exact hok m
  ·have hs:(h'.obj id).isSome=true:=(by rw[ho];try rfl);obtain⟨h1,h2,h3,h4⟩:=hlive id e hs;rw[h4];refine BM.mv m (λb hb=>?_) (s.ok id o (by rw[← h1];exact ho));have hne:=hblkne id e hs b hb;have hin:=s.ok id o (by rw[← h1];exact ho);have hlt:b<w.heap.size:=by
    cases o with
    |arr z rows=>
     simp only[BM]at hin;rcases hin.2 with⟨h5,_⟩|⟨b',c,t,fr,h5,h6,_⟩
     ·rw [h5]at hb;simp at hb
     ·rw [h5]at hb;simp at hb;subst hb;exact(I5.1 h6).1
    |map es=>
     simp only[BM]at hin;obtain⟨b',fs,cl,h5,h6,_⟩:=hin;rw[h5]at hb;simp at hb;subst hb;exact(I5.1 h6).1
    |Ig g lo hi=>
     simp only[BM]at hin;rw[hin.1]at hb;simp at hb
   exact hmem b hlt hne
 ·by_cases ei:i=id0
  ·by_cases ej:j=id0
   ·rw [ei,ej]
   ·subst ei;have:=(hlive j ej hj).2.2.2;rw[this]at hbj;exact absurd hbi (hblkne j ej hj b hbj)
  ·have h4:=(hlive i ei hi).2.2.2;rw[h4]at hbi;by_cases ej:j=id0
   ·subst ej;exact absurd hbj (hblkne i ei hi b hbi)
   ·have h5:=(hlive j ej hj).2.2.2;rw[h5]at hbj;exact s.inj i j (hlive i ei hi).2.1 (hlive j ej hj).2.1 b hbi hbj
 ·rw [hX]at hb;exact I4 (s.xs b hb) hsize
 ·rw [hX];by_cases e:id=id0
  ·subst e;exact hxb b hb
  ·obtain ⟨_,h2,_,h4⟩:=hlive id e hs;rw[h4]at hb;exact s.nx id h2 b hb
theorem B3.kill(s:B3 β h w)(id0:Nat):B3 β (h.kill id0) w/\BS β h w β (h.kill id0) w:=by
 have hl: ∀ id,((h.kill id0).obj id).isSome=true->(h.obj id).isSome=true/\(h.kill id0).obj id=h.obj id:=by
  intro id hs;simp only[A1.kill]at hs⊢;split at hs
  ·simp at hs
  ·rename_i hne;exact⟨hs,by simp[hne]⟩
 have e:BS β h w β (h.kill id0) w:=⟨rfl,rfl,rfl,AG _,AG _,λ_ _=>rfl,rfl,λ_ _ _=>rfl,λb hb=>⟨⟨hb.1,λid hs=>hb.2.1 id (hl id hs).1,hb.2.2⟩,rfl⟩⟩;refine⟨⟨λid hs=>s.lt id (hl id hs).1,λid o ho=>?_,λi j hi hj=>s.inj i j (hl i hi).1 (hl j hj).1,s.xs,λid hs=>s.nx id (hl id hs).1⟩,e⟩;have:=hl id (by rw[ho];try rfl);exact BM.mv e.mv (λ_ _=>rfl) (s.ok id o (by rw[← this.2];exact ho))
end
end Go.AM
namespace Go.AM
section
variable {P:Program}{β β':BK}{h h':A1}{w w':World}{s:AD}{a:Act}
theorem Ki(hs: ∀ t,AT β h w (s t) (a.tmps.getD t undef))(x:Operand):AT β h w (AB s x) (a.eval x):=by
 cases x with
 |tmp t=>exact hs t
 |const v=>
  simp only[AB,Act.eval];cases v<;>simp only[Gf]<;>try simp only[AA]
  split
  ·rename_i cs hc;simp only[AA];exact⟨cs.toList,by simp,List.all_eq_true.1 hc,AU.sc _⟩
  ·simp only[AA]
 |global g=>simp only[AB,Act.eval,AA]
 |func f=>simp only[AB,Act.eval,AA]
theorem Qt{t n:Nat}(hz:CU P t=some n): ∃ d i,P.underlying t=some d/\P.info? t=some i/\i.size=n:=by
 unfold CU at hz;split at hz
 ·rename_i d hd;cases hi:P.info? t with
  |none=>simp[hi]at hz
  |some i=>simp[hi]at hz;exact⟨d,i,hd,rfl,hz⟩
 ·simp at hz
theorem NV{t n:Nat}(hz:CU P t=some n)(w:World):(sizeOf t).run P w= .ok n w:=by
 obtain⟨d,i,hd,hi,rfl⟩:=Qt hz;simp[sizeOf,typeInfo,hi]
theorem NW{t:Nat}{d:TypeDesc}(hd:P.underlying t=some d)(w:World):(isAgg t).run P w= .ok (Cg P t) w:=by
 simp only[isAgg,Sem.run_bind,run_underlying hd,Result.andThen_ok,Cg,kT,hd];cases d<;>simp
theorem TX{t:Nat}(hk:kT P t≠0): ∃ d,P.underlying t=some d:=by
 cases hd:P.underlying t with
 |none=>simp[kT,hd]at hk
 |some d=>exact⟨d,rfl⟩
theorem Mc{t:Nat}{zb:Nat × Nat}(hz:DZ P t=some zb): ∃ e i zv,P.underlying t=some (.slice e)/\P.info? e=some i/\i.size=zb.1/\i.bytes=zb.2/\i.zero=some zv/\zv.cells.size=zb.1:=by
 unfold DZ at hz;split at hz
 ·rename_i e hd;cases hi:P.info? e with
  |none=>simp[hi]at hz
  |some i=>
   cases hv:i.zero with
   |none=>simp[hi,hv]at hz
   |some zv=>
    simp only[hi,hv,DI]at hz;split at hz
    ·rename_i hsz;simp at hz;subst hz;exact⟨e,i,zv,hd,hi,rfl,rfl,hv,hsz⟩
    ·simp at hz
 ·simp at hz
theorem TY{t:Nat}{na:Nat × Nat}(hz:Ke P t=some na): ∃ e i,P.underlying t=some (.array na.1 e)/\P.info? e=some i/\i.size=na.2:=by
 unfold Ke at hz;split at hz
 ·rename_i n e hd;cases hi:P.info? e with
  |none=>simp[hi]at hz
  |some i=>simp[hi]at hz;exact⟨e,i,by rw[hd, ← hz],hi,by rw[← hz]⟩
 ·simp at hz
theorem P5{t:Nat}{z:List Value}(hz:DN P t=some z): ∃ i v,P.info? t=some i/\i.zero=some v/\v.cells.toList=z/\ ∀ x∈z,x.oneCell'=true:=by
 unfold DN at hz;cases hi:P.info? t with
 |none=>simp[hi]at hz
 |some i=>
  cases hv:i.zero with
  |none=>simp[hi,hv]at hz
  |some v=>
   simp only[hi,hv,DI]at hz;split at hz
   ·rename_i ha;simp at hz;subst hz;exact⟨i,v,rfl,hv,rfl,List.all_eq_true.1 ha⟩
   ·simp at hz
theorem Z7{t:Nat}{z:List Value}(hz:GK P t=some z): ∃ e i v,P.underlying t=some (.slice e)/\P.info? e=some i/\i.zero=some v/\v.cells.toList=z/\ ∀ x∈z,x.oneCell'=true:=by
 unfold GK at hz;split at hz
 ·rename_i e hd;obtain⟨i,v,h1,h2,h3,h4⟩:=P5 hz;exact⟨e,i,v,hd,h1,h2,h3,h4⟩
 ·simp at hz
theorem Z8{t f:Nat}{o:Nat × Nat × Bool}(ho:BV P t f=some o): ∃ fs fd,P.underlying t=some (.struct fs)/\fs[f]? =some fd/\CU P fd.type=some o.2.1/\fd.offset=o.1/\Cg P fd.type=o.2.2:=by
 unfold BV at ho;split at ho
 ·rename_i fs hd;cases hf:fs[f]? with
  |none=>simp[hf]at ho
  |some fd=>
   cases hz:CU P fd.type with
   |none=>simp[hf,hz]at ho
   |some n=>simp[hf,hz]at ho;subst ho;exact⟨fs,fd,hd,hf,hz,rfl,rfl⟩
 ·simp at ho
theorem TZ(sm:B3 β h w){p:PV}{x:Value}{cs:List PV}(hr:rd h p=some cs)(hx:AT β h w p x):
  ∃ b o,x= .pointer (some ⟨b,o,none⟩)/\Bm β h.next (Fz β h w) w cs b o:=by
 cases p with
 |ptr id i f=>
  simp only[rd]at hr;split at hr
  ·rename_i z rows hob;cases hri:rows[i]? with
   |none=>simp[hri]at hr
   |some r=>
    simp[hri]at hr;subst hr;have hok:=sm.ok id _ hob;simp only[BM]at hok;simp only[AT,AA]at hx;obtain⟨_,b,hb,rfl⟩:=hx;rcases hok.2 with⟨_,h2⟩|⟨b',c,t,fr,h5,h6,h7,h8,h9,h10⟩
    ·subst h2;simp at hri
    ·rw [hb]at h5;simp at h5;subst h5;refine⟨b,_,rfl,?_⟩;rw[hok.1];exact((HG.1 h10) i r hri).2.drop f
  ·simp at hr
 |Ag l=>
  simp only[rd,BD]at hr;subst hr;simp only[AT,AA]at hx;obtain⟨b,o,_,rfl,h3⟩:=hx;exact⟨b,o,rfl,h3⟩
 |sc v=>
  unfold rd at hr;split at hr<;>(try(rename_i hv;cases hv))<;>(try(simp at hr;done));rename_i g;split at hr
  ·rename_i g' lo hi hob;split at hr
   ·rename_i hg;subst hg;simp at hr;subst hr;simp only[AT,AA]at hx;subst hx;have hok:=sm.ok _ _ hob;simp only[BM]at hok;obtain⟨_,_,i,h1,h2,h3⟩:=hok;exact⟨g',0,rfl,by simp only[Bm];exact⟨⟨_,h3,rfl,by simp only[AA];exact⟨i,h1,h2,by simp,rfl⟩⟩,trivial⟩⟩
   ·simp at hr
  ·simp at hr
 |_=>simp[rd]at hr
theorem ZA{cs:List PV}{b o:Nat}{n:Nat}{F:Nat->Prop}(hc:Bm β n F w cs b o):
  ∃ xs:List Value,(loadCells ⟨b,o,none⟩ cs.length).run P w= .ok xs.toArray w/\AU β n F w cs xs/\ ∀ v∈xs,v.oneCell'=true:=by
 obtain⟨xs,h1,h2,h3,h4⟩:=hc.vals;refine⟨xs,?_,h2,h3⟩;rw[← h1];exact run_loadCells_list w ⟨b,o,none⟩ xs (λj v hv=>by rw[Addr.add_lit];exact h4 j v hv)
theorem Ta{t n:Nat}{cs:List PV}{v:PV}{b o m:Nat}{F:Nat->Prop}(hz:CU P t=some n)(hv:JH (Cg P t) n cs=some v)(hc:Bm β m F w cs b o):
  ∃ xv,(loadVar t ⟨b,o,none⟩).run P w= .ok xv w/\AA β m F w v xv:=by
 obtain⟨d,i,hd,hi,hn⟩:=Qt hz;unfold JH at hv;by_cases ha:Cg P t=true
 ·rw [ha]at hv;simp only[AO]at hv;split at hv
  ·rename_i hle;simp only[BD]at hv;subst hv;obtain⟨xs,h1,h2,h3⟩:=ZA (P:=P) (hc.take n);have hl:(cs.take n).length=n:=(by simp;omega);rw[hl]at h1;refine⟨.agg xs.toArray,?_,?_⟩
   ·simp [loadVar,NW hd,ha,NV hz,h1]
   ·simp only[AA];exact⟨xs,rfl,h3,h2⟩
  ·simp at hv
 ·simp only[ha]at hv;simp only[BR,AQ]at hv;cases cs with
  |nil=>simp at hv
  |cons c cs=>
   simp at hv;subst hv;simp only[Bm]at hc;obtain⟨⟨xv,h1,h2,h3⟩,_⟩:=hc;refine⟨xv,?_,h3⟩;have ha':Cg P t=false:=(by simpa using ha);simp[loadVar,NW hd,ha',h1]
theorem B3.Jm(sm:B3 β h w){id b:Nat}{o:An}(ho:h.obj id=some o)(hb:(β id).b=some b):b<w.heap.size:=by
 have hin:=sm.ok id o ho;cases o with
 |arr z rows=>
  simp only[BM]at hin;rcases hin.2 with⟨h5,_⟩|⟨b',c,t,fr,h5,h6,_⟩
  ·rw [h5]at hb;simp at hb
  ·rw [h5]at hb;simp at hb;subst hb;exact(I5.1 h6).1
 |map es=>
  simp only[BM]at hin;obtain⟨b',fs,cl,h5,h6,_⟩:=hin;rw[h5]at hb;simp at hb;subst hb;exact(I5.1 h6).1
 |Ig g lo hi=>
  simp only[BM]at hin;rw[hin.1]at hb;simp at hb
theorem B3.Qi(sm:B3 β h w)(o:Obj):B3 β h (w.alloc o)/\BS β h w β h (w.alloc o)/\Fz β h (w.alloc o) w.heap.size:=by
 have e:BS β h w β h (w.alloc o):=⟨rfl,rfl,rfl,by simp,AG _,λ_ _=>rfl,rfl,λb _ hl=>heap_alloc_old w _ hl,λb hb=>⟨⟨by have:=hb.1;simp;omega,hb.2⟩,heap_alloc_old w _ hb.1⟩⟩;refine⟨⟨sm.lt,λid o' ho=>BM.mv e.mv (λb hbb=>heap_alloc_old w _ (sm.Jm ho hbb)) (sm.ok id o' ho),sm.inj,λb hb=>by have:=sm.xs b hb;simp;omega,sm.nx⟩,e,⟨by simp,λid hid hbb=>?_,λhx=>by have:=sm.xs _ hx;omega⟩⟩;have:=sm.Jm (Ya hid) hbb;omega
def HH(β:BK)(n:Nat)(F:Nat->Prop)(w:World)(z:Nat)(rows:List (List PV))(c:Array Value):Prop:=
 ∀ (i:Nat)(r:List PV),rows[i]? =some r->r.length=z/\ ∀ (j:Nat)(p:PV),r[j]? =some p-> ∃ v,c[i*z+j]? =some v/\v.oneCell'=true/\AA β n F w p v
theorem HH.rep{n n':Nat}{F F':Nat->Prop}{z b:Nat}{rows:List (List PV)}{c:Array Value}{e:TypeId}{fr:Nat × Nat}(hr:HH β n F w z rows c)(m:Mv β n F w β' n' F' w')(hb:w'.heap[b]? =some (.cells c e fr)):BJ β' n' F' w' z rows b 0:=by
 rw[HG];intro i r hi;obtain⟨h1,h2⟩:=hr i r hi;refine⟨h1,?_⟩;rw[HF];intro j p hp;obtain⟨v,h3,h4,h5⟩:=h2 j p hp;exact⟨v,by rw[cell_of_row _ _ _ c e fr hb,Bf];exact h3,h4,AA.mv m p v h5⟩
theorem B3.Yo(sm:B3 β h w)(z:Nat)(rows:List (List PV))(c:Array Value)(e:TypeId)(hr:HH β h.next (Fz β h w) w z rows c)(hlen:rows.length*z<=c.size):
  B3 ⟨λid=>if id=h.next then⟨some w.heap.size,0,z,c.size⟩else β id,β.X⟩ (h.new (.arr z rows)) (w.alloc (.cells c e))/\
  BS β h w ⟨λid=>if id=h.next then⟨some w.heap.size,0,z,c.size⟩else β id,β.X⟩ (h.new (.arr z rows)) (w.alloc (.cells c e)):=by
 refine B3.step sm h.next (.arr z rows) rfl rfl rfl (by simp) (by simp[A1.new]) (λid hid=>by simp;intro e;omega) (by simp[A1.new]) (by simp[A1.new]) (λid hne=> .inr (by simp[A1.new,hne])) (λb hb=> .inl (by simp at hb;omega)) (λb hb _=>heap_alloc_old w _ hb) (λm=>?_)
 simp only[BM,AO];exact⟨trivial,.inr ⟨w.heap.size,c,e,(0,0),rfl,heap_alloc_new w _,rfl,by omega,λi _=>by simp,hr.rep m (heap_alloc_new w _)⟩⟩
theorem HH.of_flat{n:Nat}{F:Nat->Prop}{z:Nat}{c:Array Value}:{rows:List (List PV)}->{xs:List Value}->(∀ r∈rows,r.length=z)->AU β n F w rows.flatten xs->(∀ v∈xs,v.oneCell'=true)->(∀ (j:Nat)(v:Value),xs[j]? =some v->c[j]? =some v)->HH β n F w z rows c:=by
 intro rows xs hz hrep h1 hc i r hi;have hil:i<rows.length:=(List.getElem?_eq_some_iff.1 hi).1;refine⟨hz r (List.mem_of_getElem? hi),λj p hp=>?_⟩;have hjl:j<r.length:=(List.getElem?_eq_some_iff.1 hp).1;have hflat:rows.flatten[i*z+j]? =some p:=by
  clear hrep h1 hc
  induction rows generalizing i with
  |nil=>simp at hil
  |cons r0 rs ih=>
   have hr0:=hz r0 (by simp);simp only[List.flatten_cons];cases i with
   |zero=>
    simp at hi;subst hi;rw[Yb,Bf,List.getElem?_append_left hjl];exact hp
   |succ i=>
    rw[List.getElem?_append_right (by rw[Jk];omega)];rw[show(i+1)*z+j-r0.length=i*z+j by rw[Jk];omega];exact ih (λq hq=>hz q (by simp[hq])) i (by simpa using hi) (by simpa using hil)
 obtain⟨v,hv,hr⟩:=hrep.get hflat;exact⟨v,hc _ v hv,h1 v (List.mem_of_getElem? hv),hr⟩
theorem B3.Yp(sm:B3 β h w)(z:Nat)(rows:List (List PV))(c:Array Value)(e:TypeId)(xs:List Value)(hz: ∀ r∈rows,r.length=z)
  (hrep:AU β h.next (Fz β h w) w rows.flatten xs)(h1: ∀ v∈xs,v.oneCell'=true)(hc: ∀ (j:Nat)(v:Value),xs[j]? =some v->c[j]? =some v)(hlen:rows.length*z<=c.size):
  B3 ⟨λid=>if id=h.next then⟨some w.heap.size,0,z,c.size⟩else β id,β.X⟩ (h.new (.arr z rows)) (w.alloc (.cells c e))/\
  BS β h w ⟨λid=>if id=h.next then⟨some w.heap.size,0,z,c.size⟩else β id,β.X⟩ (h.new (.arr z rows)) (w.alloc (.cells c e)):=
 B3.Yo sm z rows c e (HH.of_flat hz hrep h1 hc) hlen
theorem B3.oW(sm:B3 β h w)(z:Nat):
  B3 ⟨λid=>if id=h.next then⟨none,0,z,0⟩else β id,β.X⟩ (h.new (.arr z [])) w/\
  BS β h w ⟨λid=>if id=h.next then⟨none,0,z,0⟩else β id,β.X⟩ (h.new (.arr z [])) w:=by
 refine B3.step sm h.next (.arr z []) rfl rfl rfl (AG _) (by simp[A1.new]) (λid hid=>by simp;intro e;omega) (by simp[A1.new]) (by simp[A1.new]) (λid hne=> .inr (by simp[A1.new,hne])) (λb hb=>by simp at hb) (λb _ _=>rfl) (λm=>?_)
 simp[BM]
theorem P6(t:TypeId)(x:Value)(w:World):(newVar t x).run P w= .ok ⟨w.heap.size,0,none⟩ (w.alloc (.cells x.cells t)):=by
 simp[newVar,newRow]
theorem Tb(sm:B3 β h w)(t:TypeId)(x:Value)(cs:List PV)(hx:AU β h.next (Fz β h w) w cs x.cells.toList)(h1: ∀ v∈x.cells.toList,v.oneCell'=true):
  ∃ β',B3 β' (h.new (.arr cs.length [cs])) (w.alloc (.cells x.cells t))/\BS β h w β' (h.new (.arr cs.length [cs])) (w.alloc (.cells x.cells t))/\
   AT β' (h.new (.arr cs.length [cs])) (w.alloc (.cells x.cells t)) (.ptr h.next 0 0) (.pointer (some ⟨w.heap.size,0,none⟩)):=by
 have hl:=hx.len;obtain⟨a1,a2⟩:=B3.Yp sm cs.length [cs] x.cells t x.cells.toList (by simp) (by simpa using hx) h1 (λj v hv=>by simpa using hv) (by simp at hl⊢;omega);refine⟨_,a1,a2,?_⟩;simp[AT,AA,A1.new]
theorem ZB(sm:B3 β h w)(t:TypeId)(x:Value)(cs:List PV)(hx:AU β h.next (Fz β h w) w cs x.cells.toList)(h1: ∀ v∈x.cells.toList,v.oneCell'=true):
  B3 β h (w.alloc (.cells x.cells t))/\BS β h w β h (w.alloc (.cells x.cells t))/\
   AT β h (w.alloc (.cells x.cells t)) (.Ag cs) (.pointer (some ⟨w.heap.size,0,none⟩)):=by
 obtain⟨s1,e,hF⟩:=sm.Qi (.cells x.cells t);refine⟨s1,e,?_⟩;simp only[AT,AA];refine⟨w.heap.size,0,hF,rfl,?_⟩
 ·rw [HF];intro j p hp;obtain⟨v,hv,hr⟩:=hx.get hp;refine⟨v,?_,h1 v (List.mem_of_getElem? hv),AA.mv e.mv p v hr⟩;rw[cell_of_row _ _ _ _ _ (0,0) (heap_alloc_new w _),Bf];simpa using hv
end
end Go.AM
namespace Go.AM
section
variable {P:Program}{β β':BK}{h h':A1}{w w':World}{s:AD}{a:Act}
theorem ZC(w:World)(g o:Nat)(cur:Array Value)(t:TypeId)(fr:Nat × Nat)(v:Value)(hg:w.heap[g]? =some (.cells cur t fr)):
  w.setCell ⟨g,o,none⟩ v=w.setRow g (cur.setIfInBounds o v):=by
 have hlt:g<w.heap.size:=(I5.1 hg).1;have hv:w.heap[g]= .cells cur t fr:=(I5.1 hg).2;unfold World.setCell World.setRow;congr 1;apply Array.ext
 ·simp
 ·intro i h1 h2;simp only[Array.getElem_modify];split
  ·rename_i hgi;subst hgi;simp[hv]
  ·rfl
theorem Qu(g o:Nat)(t:TypeId)(fr:Nat × Nat): ∀ (vs:List Value)(i:Nat)(cur:Array Value)(w:World),w.heap[g]? =some (.cells cur t fr)->o+i+vs.length<=cur.size->
  (∀ j,j<cur.size->¬ (fr.1<=j/\j<fr.2))->(∀ v∈vs,v.oneCell'=true)->
  (storeCells ⟨g,o,none⟩ vs i).run P w= .ok () (w.setRow g (cur.toList.take (o+i)++vs++cur.toList.drop (o+i+vs.length)).toArray)
 |[],i,cur,w,hg,_,_,_=>by
  simp only[storeCells,List.append_nil,List.length_nil,G8,List.take_append_drop,Array.toArray_toList];rw[setRow_self w g cur t fr hg];try rfl
 |v::rest,i,cur,w,hg,hl,hf,h1=>by
  have hi:o+i<cur.size:=by simp at hl;omega
  have hcell:w.cell? ⟨g,o+i,none⟩=some cur[o+i]:=by simp[World.cell?,hg,hi]
  have hfro:w.frozen? ⟨g,o+i,none⟩=false:=by
   have:=hf (o+i) hi;cases hd:w.frozen? ⟨g,o+i,none⟩with
   |false=>rfl
   |true=>simp[World.frozen?,hg]at hd;exact absurd hd this
  have hst:(store ((⟨g,o,none⟩:Addr).add i) v).run P w= .ok () (w.setRow g (cur.setIfInBounds (o+i) v)):=by
   rw[Addr.add_lit,run_store P w _ v _ (h1 v (by simp)),hcell];simp[hfro,ZC w g (o+i) cur t fr v hg]
  have ih:=Qu g o t fr rest (i+1) (cur.setIfInBounds (o+i) v) (w.setRow g (cur.setIfInBounds (o+i) v)) (setRow_heap w g cur _ t _ hg) (by simp at hl⊢;omega) (by simpa using hf) (λx hx=>h1 x (by simp[hx]));simp only[storeCells,Sem.run_bind,hst,Result.andThen_ok,ih,setRow_setRow];congr 3;have e:=list_seg_step cur.toList (o+i) v rest (by simp at hl⊢;omega);simpa[Array.toList_setIfInBounds,Qc]using e
theorem Qv{α:Type}(l m:List α)(o j:Nat)(ho:o+m.length<=l.length):(l.take o++m++l.drop (o+m.length))[j]? =if o<=j/\j<o+m.length then m[j-o]? else l[j]?:=by
 rw[List.append_assoc,List.getElem?_append,List.length_take,Nat.min_eq_left (by omega)];by_cases h1:j<o
 ·rw [AK h1,A8 (by omega),List.getElem?_take,AK h1]
 ·rw [A8 h1,List.getElem?_append];by_cases h2:j<o+m.length
  ·rw [AK (by omega),AK (by omega)]
  ·rw [A8 (by omega),A8 (by omega),List.getElem?_drop];congr 1;omega
theorem NX{α:Type}(l m:List α)(o:Nat)(ho:o+m.length<=l.length):(l.take o++m++l.drop (o+m.length)).length=l.length:=by
 simp only[List.length_append,List.length_take,List.length_drop];omega
theorem Tc(r vc:List PV)(f j:Nat)(hf:f+vc.length<=r.length):(Jo r f vc)[j]? =if f<=j/\j<f+vc.length then vc[j-f]? else r[j]?:=Qv r vc f j hf
theorem Td(r vc:List PV)(f:Nat)(hf:f+vc.length<=r.length):(Jo r f vc).length=r.length:=NX r vc f hf
theorem Te{z i i' f j n:Nat}(hne:i≠i')(hf:f+n<=z)(hj:j<z):¬ (i*z+f<=i'*z+j/\i'*z+j<i*z+f+n):=by
 intro⟨h1,h2⟩;rcases Nat.lt_or_gt_of_ne hne with h3|h3
 ·have:(i+1)*z<=i'*z:=LO _ h3;rw[Jk]at this;omega
 ·have:(i'+1)*z<=i*z:=LO _ h3;rw[Jk]at this;omega
theorem ZD(sm:B3 β h w){t n:Nat}{p q:PV}{x y:Value}(hz:CU P t=some n)(hn:q.cells.length=n)(hone:q.cells.all Cx=true)
  (hw:wr h q.cells p=some h')(hx:AT β h w p x)(hy:AT β h w q y):
  ∃ w',(Instr.storeAt t x y).run P w= .ok () w'/\B3 β h' w'/\BS β h w β h' w':=by
 cases p with
 |ptr id i f=>
  simp only[wr]at hw;split at hw
  ·rename_i z rows hob;split at hw
   ·rename_i r hri;split at hw
    ·rename_i hfit;simp only[BD]at hw;subst hw;obtain⟨hyl,hy1⟩:=AA.cells hone hy;have hok:=sm.ok id _ hob;simp only[BM]at hok;simp only[AT,AA]at hx;obtain⟨hid,b,hb,rfl⟩:=hx;rcases hok.2 with⟨_,h2⟩|⟨b',c,e,fr,h5,h6,h7,h8,h9,h10⟩
     ·subst h2;simp at hri
     ·rw [hb]at h5;simp at h5;subst h5;rw[hok.1];have hri':=(HG.1 h10) i r hri;have hilt:i<rows.length:=(List.getElem?_eq_some_iff.1 hri).1;have hle:(i+1)*z<=rows.length*z:=LO _ hilt;rw[Jk]at hle;have hvl:=hyl.len;have hst:=Qu (P:=P) b ((β id).o+i*z+f) e fr y.cells.toList 0 c w h6 (by rw[h7, ← hvl];omega) h9 hy1;simp only[G8]at hst;refine⟨w.setRow b (c.toList.take ((β id).o+i*z+f)++y.cells.toList++c.toList.drop ((β id).o+i*z+f+y.cells.toList.length)).toArray,?_,?_⟩
      ·have hsz:y.cells.size=n:=(by rw[← hn,hvl,F7]);simp only[Instr.storeAt,Instr.sureAddr,Sem.run_bind,Sem.run_pure,Result.andThen_ok,storeVar,NV hz,hsz,ne_eq,EC,AQ];exact hst
      ·have hfit2:(β id).o+i*z+f+y.cells.toList.length<=c.toList.length:=(by have e1:c.toList.length=c.size:=F7;omega);refine B3.step sm id (.arr z (rows.set i (Jo r f q.cells))) rfl rfl rfl (by simp) (by simp[A1.set]) (λ_ _=>rfl) (by simp[A1.set]) (sm.lt id (by rw[hob];try rfl)) (λid' hne=> .inr (by simp[A1.set,hne])) (λb' hb'=> .inr ⟨id,by rw[hob];try rfl,hb',.inl rfl⟩) (λb' _ hb'=>setRow_other _ _ _ _ (λhbe=>hb' (by rw[hbe];exact hb))) (λm=>?_);simp only[BM];refine⟨hok.1,.inr ⟨b,_,e,fr,hb,setRow_heap w b c _ e fr h6,?_,by simpa using h8,?_,?_⟩⟩
       ·rw [← h7];simp only[List.size_toArray];rw[NX _ _ _ hfit2,F7]
       ·intro j hj;apply h9;simp only[List.size_toArray]at hj;rw[NX _ _ _ hfit2,F7]at hj;exact hj
       ·rw [HG];intro i' r' hr';rw[List.getElem?_set]at hr';have hcell: ∀ j,((w.setRow b (c.toList.take ((β id).o+i*z+f)++y.cells.toList++c.toList.drop ((β id).o+i*z+f+y.cells.toList.length)).toArray).cell? ⟨b,j,none⟩)=if(β id).o+i*z+f<=j/\j<(β id).o+i*z+f+y.cells.toList.length then y.cells.toList[j-((β id).o+i*z+f)]? else w.cell? ⟨b,j,none⟩:=by
         intro j;rw[cell_setRow_same w b j c _ e fr h6,cell_of_row w b j c e fr h6];rw[List.getElem?_toArray,Qv _ _ _ _ hfit2];simp
        split at hr'
        ·rename_i hie;subst hie;simp at hr';subst hr';refine⟨by rw[Td _ _ _ hfit];exact hri'.1,?_⟩;rw[HF];intro j p' hp';rw[Tc _ _ _ _ hfit]at hp';rw[hcell];split at hp'
         ·rename_i hj;rw[AK (by rw[← hvl];omega)];obtain⟨v,hv,hr⟩:=hyl.get hp';refine⟨v,?_,hy1 v (List.mem_of_getElem? hv),AA.mv m p' v hr⟩;rw[show(β id).o+i*z+j-((β id).o+i*z+f)=j-f by omega];exact hv
         ·rename_i hj;rw[A8 (by rw[← hvl];omega)];obtain⟨v,hv,hv1,hr⟩:=(HF.1 hri'.2) j p' hp';exact⟨v,hv,hv1,AA.mv m p' v hr⟩
        ·rename_i hie;have hri2:=(HG.1 h10) i' r' hr';refine⟨hri2.1,?_⟩;rw[HF];intro j p' hp';have hjz:j<z:=(by rw[← hri2.1];exact(List.getElem?_eq_some_iff.1 hp').1);have htr:=Te (z:=z) (f:=f) (j:=j) (n:=q.cells.length) hie (by rw[← hri'.1];exact hfit) hjz;rw[hcell,A8 (by rw[← hvl];omega)];obtain⟨v,hv,hv1,hr⟩:=(HF.1 hri2.2) j p' hp';exact⟨v,hv,hv1,AA.mv m p' v hr⟩
    ·simp at hw
   ·simp at hw
  ·simp at hw
 |_=>simp[wr]at hw
theorem Qw(sm:B3 β h w){z:Nat}{p:PV}{x:Value}{rows:List (List PV)}(hv:Gg h p=some rows)(hzk:De h z p=true)(hx:AT β h w p x):
  ∃ aa cap,x= .slice aa rows.length cap/\rows.length<=cap/\(rows=[]\/ ∃ b o,aa=some ⟨b,o,none⟩/\BJ β h.next (Fz β h w) w z rows b o):=by
 unfold Gg at hv;split at hv
 ·rename_i z' rows';simp at hv;subst hv;simp[De]at hzk;subst hzk;simp only[AT,AA]at hx;obtain⟨aa,cap,rfl,h2,_,h3⟩:=hx;exact⟨aa,cap,rfl,h2,h3.imp id (λ⟨b,o,_,h5,h6⟩=>⟨b,o,h5,h6⟩)⟩
 ·simp at hv;subst hv;simp only[AT,AA]at hx;obtain⟨aa,rfl⟩:=hx;exact⟨aa,0,rfl,AG _,.inl rfl⟩
 ·simp at hv;subst hv;simp only[AT,AA]at hx;exact⟨none,0,hx,AG _,.inl rfl⟩
 ·simp at hv;subst hv;simp only[AT,AA]at hx;exact⟨_,_,hx,BY _,.inl rfl⟩
 ·rename_i id off len;split at hv
  ·rename_i z' rows' hob;split at hv
   ·rename_i hle;simp at hv;subst hv;simp[De,hob]at hzk;subst hzk;have hl:((rows'.drop off).take len).length=len:=(by simp;omega);simp only[AT,AA]at hx;obtain⟨hid,aa,cap,rfl,h2,h2',h3⟩:=hx;refine⟨aa,cap,by rw[hl],by rw[hl];exact h2,?_⟩;rcases h3 with h3|⟨b,h4,h5,h6⟩
    ·left;apply List.eq_nil_of_length_eq_zero;rw[hl];omega
    ·have hok:=sm.ok id _ hob;simp only[BM]at hok;rcases hok.2 with⟨h7,h8⟩|⟨b',c,e,fr,g5,g6,g7,g8,g9,g10⟩
     ·rw [h7]at h4;simp at h4
     ·rw [h4]at g5;simp at g5;subst g5;right;refine⟨b,_,h5,?_⟩;rw[hok.1];exact(g10.drop off).take len
   ·simp at hv
  ·simp at hv
 ·simp at hv
theorem P7{z:Nat}{rows:List (List PV)}{aa:Option Addr}{cap n:Nat}{F:Nat->Prop}(hz: ∀ r∈rows,r.length=z)
  (hx:rows=[]\/ ∃ b o,aa=some ⟨b,o,none⟩/\BJ β n F w z rows b o):
  ∃ xs:List Value,(Builtin.firstCells z rows.length (.slice aa rows.length cap)).run P w= .ok xs.toArray w/\AU β n F w rows.flatten xs/\(∀ v∈xs,v.oneCell'=true)/\xs.length=rows.length*z:=by
 rcases hx with rfl|⟨b,o,rfl,h2⟩
 ·refine ⟨[],?_,by simp[AU],by simp,by simp⟩;cases aa with
  |none=>simp[Builtin.firstCells]
  |some aa=>simp[Builtin.firstCells,loadCells,loadCellsFrom]
 ·obtain ⟨xs,h3,h4,h5,h6⟩:=h2.vals;refine⟨xs,?_,h4,h5,h3⟩;exact run_firstCells_some w z rows.length ⟨b,o,none⟩ rows.length cap xs h3 (λj v hv=>by rw[Addr.add_lit];exact h6 j v hv)
theorem BJ.lens{z b o n:Nat}{F:Nat->Prop}{rows:List (List PV)}(h:BJ β n F w z rows b o): ∀ r∈rows,r.length=z:=by
 intro r hr;obtain⟨i,hi⟩:=List.getElem?_of_mem hr;exact((HG.1 h) i r hi).1
theorem ZE(sm:B3 β h w){z id off len:Nat}{rows new:List (List PV)}{c:Array Value}{e:TypeId}{fr:Nat × Nat}{b cap:Nat}{ys:List Value}
  (hob:h.obj id=some (.arr z rows))(hle:off+len<=rows.length)(hb:(β id).b=some b)(h6:w.heap[b]? =some (.cells c e fr))(h7:c.size=(β id).sz)
  (h9: ∀ i,i<c.size->¬ (fr.1<=i/\i<fr.2))(h10:BJ β h.next (Fz β h w) w z rows b (β id).o)(hcap:(β id).o+(off+cap)*z<=(β id).sz)(hroom:len+new.length<=cap)(hcm:cap<=maxLen)
  (hnz: ∀ r∈new,r.length=z)(hyl:AU β h.next (Fz β h w) w new.flatten ys)(hy1: ∀ v∈ys,v.oneCell'=true)(hyn:ys.length=new.length*z):
  ∃ w' β',(storeCells ⟨b,(β id).o+off*z+len*z,none⟩ ys).run P w= .ok () w'/\B3 β' ((h.kill id).new (.arr z ((rows.drop off).take len++new))) w'/\
   BS β h w β' ((h.kill id).new (.arr z ((rows.drop off).take len++new))) w'/\
   AT β' ((h.kill id).new (.arr z ((rows.drop off).take len++new))) w' (.own h.next 0 (len+new.length)) (.slice (some ⟨b,(β id).o+off*z,none⟩) (len+new.length) cap):=by
 have hlen:((rows.drop off).take len).length=len:=by simp;omega
 have hm1:(off+cap)*z=off*z+cap*z:=KP _ _ _;have hm2:(len+new.length)*z<=cap*z:=LO _ hroom;rw[KP]at hm2;have hfit:(β id).o+off*z+len*z+ys.length<=c.toList.length:=by have e1:c.toList.length=c.size:=F7;omega
 have hst:=Qu (P:=P) b ((β id).o+off*z+len*z) e fr ys 0 c w h6 (by simpa using hfit) h9 hy1;simp only[G8]at hst;have hid:id<h.next:=sm.lt id (by rw[hob];try rfl)
 refine⟨_,⟨λi=>if i=h.next then⟨some b,(β id).o+off*z,z,(β id).sz⟩else β i,β.X⟩,hst,?_⟩;rw[← KQ];refine⟨?_,?_⟩
 ·refine B3.step sm h.next (.arr z ((rows.drop off).take len++new)) rfl rfl rfl (by simp) (by simp[A1.new,A1.kill]) (λi hi=>by simp;intro e;omega) (by simp[A1.new,A1.kill]) (by simp[A1.new,A1.kill]) (λi hne=>?_) (λb' hb'=> .inr ⟨id,by rw[hob];try rfl,?_,.inr ?_⟩) (λb' _ hb'=>setRow_other _ _ _ _ (λhbe=>hb' (by simp[hbe]))) (λm=>?_)
  ·simp only[A1.new,A1.kill,hne,AQ];by_cases hi:i=id
   ·simp [hi]
   ·simp [hi]
  ·simp at hb';subst hb';exact hb
  ·simp only[A1.new,A1.kill];rw[A8 (by omega)];simp
  ·simp only[BM,AO];refine⟨trivial,.inr ⟨b,_,e,fr,rfl,setRow_heap w b c _ e fr h6,?_,?_,?_,?_⟩⟩
   ·simp only[List.size_toArray];rw[NX _ _ _ hfit,F7,h7]
   ·simp only[List.length_append,hlen];rw[KP];omega
   ·intro j hj;apply h9;simp only[List.size_toArray]at hj;rw[NX _ _ _ hfit,F7]at hj;exact hj
   ·have hcell: ∀ j,((w.setRow b (c.toList.take ((β id).o+off*z+len*z)++ys++c.toList.drop ((β id).o+off*z+len*z+ys.length)).toArray).cell? ⟨b,j,none⟩)=if(β id).o+off*z+len*z<=j/\j<(β id).o+off*z+len*z+ys.length then ys[j-((β id).o+off*z+len*z)]? else w.cell? ⟨b,j,none⟩:=by
     intro j;rw[cell_setRow_same w b j c _ e fr h6,cell_of_row w b j c e fr h6];rw[List.getElem?_toArray,Qv _ _ _ _ hfit];simp
    have hold:=(h10.drop off).take len;have hnew:BJ ⟨λi=>if i=h.next then⟨some b,(β id).o+off*z,z,(β id).sz⟩else β i,β.X⟩ ((h.kill id).new (.arr z ((rows.drop off).take len++new))).next
      (Fz ⟨λi=>if i=h.next then⟨some b,(β id).o+off*z,z,(β id).sz⟩else β i,β.X⟩ ((h.kill id).new (.arr z ((rows.drop off).take len++new))) (w.setRow b (c.toList.take ((β id).o+off*z+len*z)++ys++c.toList.drop ((β id).o+off*z+len*z+ys.length)).toArray))
      (w.setRow b (c.toList.take ((β id).o+off*z+len*z)++ys++c.toList.drop ((β id).o+off*z+len*z+ys.length)).toArray) z new b ((β id).o+off*z+len*z):=by
     refine BJ.Yn hnz (AU.mv m _ _ hyl) hy1 (λj v hv=>?_);have hj:j<ys.length:=(List.getElem?_eq_some_iff.1 hv).1;rw[hcell,AK (by omega)];rw[show(β id).o+off*z+len*z+j-((β id).o+off*z+len*z)=j by omega];exact hv
    rw[HG]at hold hnew⊢;intro i r hr;rw[List.getElem?_append,hlen]at hr;split at hr
    ·rename_i hi;have h1:=hold i r hr;refine⟨h1.1,?_⟩;rw[HF];intro j p hp;have hjz:j<z:=(by rw[← h1.1];exact(List.getElem?_eq_some_iff.1 hp).1);have hi2:(i+1)*z<=len*z:=LO _ hi;rw[Jk]at hi2;rw[hcell,A8 (by omega)];obtain⟨v,hv,hv1,hr'⟩:=(HF.1 h1.2) j p hp;exact⟨v,hv,hv1,AA.mv m p v hr'⟩
    ·rename_i hi;have h1:=hnew (i-len) r hr;have he:(β id).o+off*z+len*z+(i-len)*z=(β id).o+off*z+i*z:=by
      have:len*z+(i-len)*z=i*z:=(by rw[← KP];congr 1;omega);omega
     rw[he]at h1;exact h1
 ·simp only[AT,AA];refine⟨by simp[A1.new,A1.kill],_,cap,rfl,hroom,hcm,.inr ⟨b,by simp,by simp,?_⟩⟩;simp only[AO,Bf];omega
theorem ZF(w:World)(t ty e:TypeId)(i:TypeInfo)(z:Value)(ht:P.underlying t=some (.slice e))(hi:P.info? e=some i)(hz:i.zero=some z)
  (ax ay:Option Addr)(sLen sCap n c:Nat)(olds news:List Value)
  (ho:(Builtin.firstCells i.size sLen (.slice ax sLen sCap)).run P w.drew= .ok olds.toArray w.drew)
  (hn:(Builtin.firstCells i.size n (.slice ay n c)).run P w.drew= .ok news.toArray w.drew)
  (hg:sCap<sLen+n)(h63:((sLen+n:Nat):Int)<=9223372036854775807)(hfit:Builtin.nextslicecap (sLen+n) sCap*i.bytes<=281474976710656):
  (Builtin.append_ #[t,t] ty #[.slice ax sLen sCap,.slice ay n c]).run P w=
   .ok (.slice (some ⟨w.heap.size,0,none⟩) (sLen+n) (grownCap w (sLen+n) sCap e))
    (w.drew.alloc (.cells (olds++news++(Builtin.zeroCells z.cells (grownCap w (sLen+n) sCap e-(sLen+n))).toList).toArray e)):=by
 have hn':¬ (sLen+n<=sCap):=by omega
 have h63':¬ (9223372036854775807<((sLen:Int)+(n:Int))):=by omega
 have h48':¬ (281474976710656<Builtin.nextslicecap (sLen+n) sCap*i.bytes):=by omega
 simp[Builtin.append_,run_underlying ht,sizeOf,typeInfo,zeroValue,hi,hz,Builtin.lenOf,hn',h63',h48',Question.forced,hn,ho,newRow,grownCap];congr 2;apply Array.ext';simp
theorem ZG(sm:B3 β h w){t:Nat}{zb:Nat × Nat}{p q r:PV}{x y:Value}(ty:TypeId)(hz:DZ P t=some zb)
  (ha:La zb.1 zb.2 h p q=some (r,h'))(hx:AT β h w p x)(hy:AT β h w q y):
  ∃ v w' β',(Builtin.append_ #[t,t] ty #[x,y]).run P w= .ok v w'/\B3 β' h' w'/\BS β h w β' h' w'/\AT β' h' w' r v:=by
 obtain⟨z,bytes⟩:=zb;obtain⟨e,i,zv,hu,hi,hsz,hby,hiz,hzl⟩:=Mc hz;simp only at hsz hby hzl;unfold La at ha;simp only at ha;split at ha
 case isFalse=>simp at ha
 rename_i hcond;simp only[AV,Bg]at hcond;obtain⟨⟨⟨hzp,hzq⟩,hzpos⟩,hbpos⟩:=hcond;split at ha
 case h_2=>simp at ha
 rename_i new h1 B6 hvq hit;split at ha
 case isFalse=>simp at ha
 rename_i hbytes;simp only[BD,C4]at ha;obtain⟨rfl,rfl⟩:=ha;obtain⟨aq,capq,rfl,hcapq,hq⟩:=Qw sm hvq hzq hy;have hvp:Gg h p=some B6/\(h1=h\/ ∃ id,h1=h.kill id):=by
  unfold EW at hit;split at hit
  ·simp at hit;obtain⟨rfl,rfl⟩:=hit;exact⟨rfl,.inl rfl⟩
  ·simp at hit;obtain⟨rfl,rfl⟩:=hit;exact⟨rfl,.inl rfl⟩
  ·rename_i id off len;split at hit
   ·rename_i z' rows hob;simp at hit;obtain⟨hle,rfl,rfl⟩:=hit;exact⟨by simp[Gg,hob,hle],.inr ⟨id,rfl⟩⟩
   ·simp at hit
  ·simp at hit
 obtain⟨ap,capp,hxe,hcapp,hp⟩:=Qw sm hvp.1 hzp hx;have hnext:h1.next=h.next:=by rcases hvp.2 with rfl|⟨id,rfl⟩<;>rfl
 have hmax:B6.length+new.length<=140737488355328:=ES (oL _ hbpos) hbytes;have hnz: ∀ r∈new,r.length=z:=by
  rcases hq with rfl|⟨b,o,_,h3⟩
  ·simp
  ·exact h3.lens
 have hoz: ∀ r∈B6,r.length=z:=by
  rcases hp with rfl|⟨b,o,_,h3⟩
  ·simp
  ·exact h3.lens
 have hkill:B3 β h1 w/\BS β h w β h1 w:=by
  rcases hvp.2 with rfl|⟨id,rfl⟩
  ·exact ⟨sm,BS.refl⟩
  ·exact sm.kill id
 obtain⟨ys,hyr,hyl,hy1,hyn⟩:=P7 (P:=P) (w:=w) (cap:=capq) hnz hq;by_cases hg:B6.length+new.length<=capp
 ·by_cases hc0:capp=0
  ·-- nothing is there and nothing comes
   have ho:B6=[]:=List.eq_nil_of_length_eq_zero (by omega);have hn:new=[]:=List.eq_nil_of_length_eq_zero (by omega);subst ho;subst hn;subst hc0;obtain⟨a1,a2⟩:=B3.oW hkill.1 z;have hys:ys=[]:=List.eq_nil_of_length_eq_zero (by simpa using hyn);subst hys;refine⟨.slice ap 0 0,w,_,?_,by simpa using a1,by simpa using hkill.2.trans a2,?_⟩
   ·subst hxe;simp only[List.length_nil]at hyr;have hyr':(Builtin.firstCells i.size 0 (.slice aq 0 capq)).run P w= .ok #[] w:=(by rw[hsz];exact hyr);cases ap<;>simp[Builtin.append_,run_underlying hu,sizeOf,typeInfo,hi,Builtin.lenOf,hyr',storeCells]
   ·simp only[AT,AA,List.length_nil,G8,List.append_nil];refine⟨by simp[A1.new,hnext],ap,0,rfl,AG _,BY _,.inl rfl⟩
  ·-- there is room
   unfold EW at hit;split at hit
   ·simp only[AT,AA]at hx;obtain⟨a0,rfl⟩:=hx;simp at hxe;omega
   ·simp only[AT,AA]at hx;rw[hx]at hxe;simp at hxe;omega
   ·rename_i id off len;split at hit
    ·rename_i z' rows hob;split at hit
     ·rename_i hle;simp at hit;obtain⟨rfl,rfl⟩:=hit;have hz':z'=z:=(by simpa[De,hob]using hzp);subst hz';have hlen:((rows.drop off).take len).length=len:=(by simp;omega);simp only[AT,AA]at hx;obtain⟨hid,a1,cap1,rfl,h2,h2',h3⟩:=hx;simp only[Value.slice.injEq]at hxe;obtain⟨rfl,_,rfl⟩:=hxe;rcases h3 with h3|⟨b,h4,h5,h6⟩
      ·exact absurd h3 hc0
      ·subst h5;have hok:=sm.ok id _ hob;simp only[BM]at hok;rcases hok.2 with⟨h7,h8⟩|⟨b',c,e',fr,g5,g6,g7,g8,g9,g10⟩
       ·rw [h7]at h4;simp at h4
       ·rw [h4]at g5;simp at g5;subst g5;rw[hok.1]at h6⊢;rw[hlen]at hg hmax⊢;obtain⟨w',β',q1,q2,q3,q4⟩:=ZE (P:=P) sm hob hle h4 g6 g7 g9 g10 h6 hg h2' hnz hyl hy1 hyn;refine⟨_,w',β',?_,q2,q3,q4⟩;have hyr':(Builtin.firstCells i.size new.length (.slice aq new.length capq)).run P w= .ok ys.toArray w:=(by rw[hsz];exact hyr);simp[Builtin.append_,run_underlying hu,sizeOf,typeInfo,hi,Builtin.lenOf,hyr',hg,Addr.add_lit];rw[hsz,q1];try rfl
     ·simp at hit
    ·simp at hit
   ·simp at hit
 ·-- it grows
  obtain⟨d1,d2⟩:=hkill.1.drew;have hq':new=[]\/ ∃ b o,aq=some ⟨b,o,none⟩/\BJ β h.next (Fz β h w) w.drew z new b o:=by
   refine hq.imp id (λ⟨b,o,q1,q2⟩=>⟨b,o,q1,?_⟩);exact BJ.KW (sm.drew.2.mv) rfl z new o q2
  have hp':B6=[]\/ ∃ b o,ap=some ⟨b,o,none⟩/\BJ β h.next (Fz β h w) w.drew z B6 b o:=by
   refine hp.imp id (λ⟨b,o,q1,q2⟩=>⟨b,o,q1,?_⟩);exact BJ.KW (sm.drew.2.mv) rfl z B6 o q2
  obtain⟨ys',hyr',hyl',hy1',hyn'⟩:=P7 (P:=P) (w:=w.drew) (cap:=capq) hnz hq';obtain⟨os,hor,hol,ho1,hon⟩:=P7 (P:=P) (w:=w.drew) (cap:=capp) hoz hp';have hrun:=ZF (P:=P) w t ty e i zv hu hi hiz ap aq B6.length capp new.length capq os ys' (by rw[hsz];exact hor) (by rw[hsz];exact hyr') (by omega) (by omega) (growslice_fits (by omega) (by rw[hby];exact hbytes));have hge:=grownCap_ge w (B6.length+new.length) capp e;have hgm:grownCap w (B6.length+new.length) capp e<=maxLen:=grownCap_le_maxLen w _ _ e (by simp only[maxLen];omega);have hcs:(os++ys'++(Builtin.zeroCells zv.cells (grownCap w (B6.length+new.length) capp e-(B6.length+new.length))).toList).toArray.size=grownCap w (B6.length+new.length) capp e*z:=by
   simp only[List.size_toArray,List.length_append,hon,hyn',F7,size_zeroCells,hzl, ← KP];congr 1;omega
  have hflat:AU β h1.next (Fz β h1 w.drew) w.drew (B6++new).flatten (os++ys'):=by
   rw[List.flatten_append];exact AU.mv ⟨by omega,λ_ _ _=>rfl,λb hb=>⟨(hkill.2.fz b hb).1,rfl⟩⟩ _ _ (AU.append hol hyl')
  have hmm:=LO z hge;obtain⟨a1,a2⟩:=B3.Yp d1 z (B6++new) (os++ys'++(Builtin.zeroCells zv.cells (grownCap w (B6.length+new.length) capp e-(B6.length+new.length))).toList).toArray e (os++ys')
   (λr hr=>(List.mem_append.1 hr).elim (hoz r) (hnz r)) hflat (λv hv=>(List.mem_append.1 hv).elim (ho1 v) (hy1' v))
   (λj v hv => by
    rw[List.getElem?_toArray,List.getElem?_append_left (List.getElem?_eq_some_iff.1 hv).1];exact hv)
   (by rw[hcs,List.length_append];exact hmm)
  subst hxe;refine⟨_,_,_,hrun,a1,(hkill.2.trans d2).trans a2,?_⟩;simp only[AT,AA];refine⟨by simp[A1.new,hnext],_,_,rfl,hge,hgm,.inr ⟨w.heap.size,by simp[hnext],by simp[hnext],?_⟩⟩;simp only[hnext,AO,Bf];rw[hcs];exact AG _
end
end Go.AM
namespace Go.AM
section
variable {P:Program}{β β':BK}{h h':A1}{w w':World}{s:AD}{a:Act}
theorem NY{n:Nat}{F:Nat->Prop}{p:PV}{k:Int}{x:Value}(hp:Gs p=some k)(hx:AA β n F w p x): ∃ kk,x= .int kk k:=by
 cases p with
 |sc v=>cases v<;>simp[Gs]at hp;subst hp;simp only[AA]at hx;exact⟨_,hx⟩
 |_=>simp[Gs]at hp
theorem ZH(sm:B3 β h w){t:Nat}{zb:Nat × Nat}{p q:PV}{x:Value}{k:IntKind}{n:Int}(hz:DZ P t=some zb)(hi:Kg h zb.1 p n=some q)(hx:AT β h w p x):
  ∃ v,(Instr.indexAt t x (.int k n)).run P w= .ok v w/\AT β h w q v:=by
 obtain⟨e,i,zv,hu,hin,hsz,hby,hiz,hzl⟩:=Mc hz;unfold Kg at hi;split at hi
 case isFalse=>simp at hi
 rename_i h0;have hrun: ∀ (aa:Addr)(len cap:Nat),n.toNat<len->(Instr.indexAt t (.slice (some aa) len cap) (.int k n)).run P w= .ok (.pointer (some (aa.add (n.toNat*zb.1)))) w:=by
  intro aa len cap hlt;have h1:n<(len:Int):=by omega
  simp[Instr.indexAt,asIntOf,run_underlying hu,h0,h1,sizeOf,typeInfo,hin,hsz]
 split at hi
 ·rename_i z' rows;split at hi
  case isFalse=>simp at hi
  rename_i hzz;subst hzz;cases hr:rows[n.toNat]? with
  |none=>simp[hr]at hi
  |some r=>
   simp[hr]at hi;subst hi;have hlt:n.toNat<rows.length:=(List.getElem?_eq_some_iff.1 hr).1;simp only[AT,AA]at hx;obtain⟨aa,cap,rfl,_,_,h3⟩:=hx;rcases h3 with rfl|⟨b,o,h4,rfl,h5⟩
   ·simp at hlt
   ·refine ⟨_,hrun _ _ _ hlt,?_⟩;rw[Addr.add_lit];simp only[AT,AA];exact⟨b,_,h4,rfl,((HG.1 h5) _ r hr).2⟩
 ·rename_i id off len;split at hi
  case h_2=>simp at hi
  rename_i z' rows hob;split at hi
  case isFalse=>simp at hi
  rename_i hc;simp at hi;subst hi;simp only[AT,AA]at hx;obtain⟨hid,aa,cap,rfl,h2,_,h3⟩:=hx;rcases h3 with h3|⟨b,h4,rfl,h6⟩
  ·omega
  ·refine ⟨_,hrun _ _ _ hc.2,?_⟩;rw[Addr.add_lit];have hok:=sm.ok id _ hob;simp only[BM]at hok;simp only[AT,AA];refine⟨hid,b,h4,?_⟩;have hzb:(β id).z=zb.1:=(by rw[hok.1];exact hc.1);rw[hzb,KP,G8,Qc]
 ·simp at hi
theorem ZI{t:Nat}{na:Nat × Nat}{p q:PV}{x:Value}{k:IntKind}{n:Int}(hz:Ke P t=some na)(hi:MU na.1 na.2 p n=some q)(hx:AT β h w p x):
  ∃ v,(Instr.indexAt t x (.int k n)).run P w= .ok v w/\AT β h w q v:=by
 obtain⟨e,i,hu,hin,hsz⟩:=TY hz;unfold MU at hi;split at hi
 case isFalse=>simp at hi
 rename_i h0;have hrun: ∀ (aa:Addr),(Instr.indexAt t (.pointer (some aa)) (.int k n)).run P w= .ok (.pointer (some (aa.add (n.toNat*na.2)))) w:=by
  intro aa;simp[Instr.indexAt,asIntOf,run_underlying hu,h0.1,h0.2,sizeOf,typeInfo,hin,hsz,Instr.sureAddr]
 split at hi
 ·rename_i id r f;simp at hi;subst hi;simp only[AT,AA]at hx;obtain⟨hid,b,hb,rfl⟩:=hx;refine⟨_,hrun _,?_⟩;rw[Addr.add_lit];simp only[AT,AA];exact⟨hid,b,hb,by simp[Qc]⟩
 ·rename_i cs;split at hi
  case isFalse=>simp at hi
  simp at hi;subst hi;simp only[AT,AA]at hx;obtain⟨b,o,h1,rfl,h3⟩:=hx;refine⟨_,hrun _,?_⟩;rw[Addr.add_lit];simp only[AT,AA];exact⟨b,_,h1,rfl,(h3.drop _).take _⟩
 ·simp at hi
theorem ZJ{t f:Nat}{o:Nat × Nat × Bool}{p q:PV}{x:Value}(ho:BV P t f=some o)(hf:MV o.1 o.2.1 p=some q)(hx:AT β h w p x):
  ∃ v,(Instr.fieldAt t x f).run P w= .ok v w/\AT β h w q v:=by
 obtain⟨fs,fd,hu,hfd,hsz,hof,hag⟩:=Z8 ho;have hrun: ∀ aa:Addr,0<o.2.1->(Instr.fieldAt t (.pointer (some aa)) f).run P w= .ok (.pointer (some (aa.add o.1))) w:=by
  intro aa hpos;simp[Instr.fieldAt,run_underlying hu,hfd,Instr.sureAddr,fieldPlace,NV hsz,hof];intro h0;omega
 unfold MV at hf;split at hf
 ·rename_i id i c;split at hf
  case isFalse=>simp at hf
  rename_i hpos;simp at hf;subst hf;simp only[AT,AA]at hx;obtain⟨hid,b,hb,rfl⟩:=hx;refine⟨_,hrun _ hpos,?_⟩;rw[Addr.add_lit];simp only[AT,AA];exact⟨hid,b,hb,by simp[Qc]⟩
 ·rename_i cs;split at hf
  case isFalse=>simp at hf
  rename_i hc;simp at hf;subst hf;simp only[AT,AA]at hx;obtain⟨b,oo,h1,rfl,h3⟩:=hx;refine⟨_,hrun _ hc.1,?_⟩;rw[Addr.add_lit];simp only[AT,AA];exact⟨b,_,h1,rfl,(h3.drop _).take _⟩
 ·simp at hf
theorem ZK{t:Nat}{na:Nat × Nat × Bool}(h:NO P t=some na): ∃ e,P.underlying t=some (.array na.1 e)/\CU P e=some na.2.1/\Cg P e=na.2.2:=by
 unfold NO at h;split at h
 ·rename_i n e hu;simp only[KR]at h;obtain⟨z,hz,rfl⟩:=h;exact⟨e,hu,hz,rfl⟩
 ·simp at h
theorem ZL{t:Nat}{na:Nat × Nat × Bool}{cs:List PV}{v:PV}{x:Value}{k:IntKind}{n:Int}(ho:NO P t=some na)(h0:0<=n/\n<na.1)(hv:JH na.2.2 na.2.1 (cs.drop (n.toNat*na.2.1))=some v)(hx:AT β h w (.agg cs) x):
  ∃ u,(Instr.index t x (.int k n)).run P w= .ok u w/\AT β h w v u:=by
 obtain⟨e,hu,hsz,hag⟩:=ZK ho;obtain⟨d,i,hd,hi,hn⟩:=Qt hsz;simp only[AT,AA]at hx;obtain⟨xs,rfl,h1,h2⟩:=hx;have hlen:=h2.len;unfold JH at hv;rw[← hag]at hv;by_cases ha:Cg P e=true
 ·rw [AK ha]at hv;split at hv
  case isFalse=>simp at hv
  simp at hv;subst hv;refine⟨.agg ((xs.drop (n.toNat*na.2.1)).take na.2.1).toArray,?_,?_⟩
  ·simp [Instr.index,asIntOf,run_underlying hu,h0.1,h0.2,part,NW hd,ha,NV hsz,asAgg,List.extract_eq_take_drop]
  ·simp only[AT,AA];exact⟨_,rfl,λu hu=>h1 u (List.mem_of_mem_drop (List.mem_of_mem_take hu)),(h2.drop _).take _⟩
 ·have ha':Cg P e=false:=by simpa using ha
  rw[ha']at hv;simp only[BR,AQ]at hv;rw[List.head?_eq_getElem?,List.getElem?_drop]at hv;obtain⟨u,hu',hr⟩:=h2.get hv;refine⟨u,?_,hr⟩;simp at hu';simp[Instr.index,asIntOf,run_underlying hu,h0.1,h0.2,part,NW hd,ha',NV hsz,asAgg,hu']
theorem Tf(hs: ∀ t,AT β h w (s t) (a.tmps.getD t undef)){x:Option Operand}{r:Option Int}(hx:ID (AB s) x=some r):
  (x=none/\r=none)\/ ∃ y k kk,x=some y/\r=some k/\a.eval y= .int kk k:=by
 cases x with
 |none=>simp[ID]at hx;exact .inl ⟨rfl,hx.symm⟩
 |some y=>
  simp only[ID]at hx;cases hk:Gs (AB s y)with
  |none=>simp[hk]at hx
  |some k=>
   simp[hk]at hx;obtain⟨kk,he⟩:=NY hk (Ki hs y);exact .inr ⟨y,k,kk,rfl,hx.symm,he⟩
theorem Tg(w:World)(isS:Bool)(len cap:Nat)(lo hi:Option Operand)(al bl:Option Int)(hlo:(lo=none/\al=none)\/ ∃ y k kk,lo=some y/\al=some k/\a.eval y= .int kk k)
  (hhi:(hi=none/\bl=none)\/ ∃ y k kk,hi=some y/\bl=some k/\a.eval y= .int kk k)(hlc:len<=cap)(h0:0<=al.getD 0)(h1:al.getD 0<=bl.getD (len:Int))(h2:bl.getD (len:Int)<=(len:Int)):
  (Instr.sliceBounds isS len cap (lo.map a.eval) (hi.map a.eval) none).run P w= .ok ((al.getD 0).toNat,(bl.getD (len:Int)).toNat,cap) w:=by
 rcases hlo with⟨rfl,rfl⟩|⟨y,k,kk,rfl,rfl,hy⟩<;>rcases hhi with⟨rfl,rfl⟩|⟨y',k',kk',rfl,rfl,hy'⟩
 ·simp [Instr.sliceBounds]
 ·simp at h0 h1 h2;have e1:(k':Int)<=(cap:Int):=by omega
  simp[Instr.sliceBounds,hy',Instr.sliceBound,asIntOf,h1,e1]
 ·simp at h0 h1 h2;simp[Instr.sliceBounds,hy,Instr.sliceBound,asIntOf,h0,h1]
 ·simp at h0 h1 h2;have e1:(k':Int)<=(cap:Int):=by omega
  have e2:(0:Int)<=k':=by omega
  have e3:k<=max k' 0:=by omega
  simp[Instr.sliceBounds,hy,hy',Instr.sliceBound,asIntOf,h0,e1,e2,e3]
theorem ZM(sm:B3 β h w){t:Nat}{zb:Nat × Nat}{p q:PV}{x:Value}{lo hi:Option Operand}{al bl:Option Int}(hz:DZ P t=some zb)
  (hlo:(lo=none/\al=none)\/ ∃ y k kk,lo=some y/\al=some k/\a.eval y= .int kk k)(hhi:(hi=none/\bl=none)\/ ∃ y k kk,hi=some y/\bl=some k/\a.eval y= .int kk k)
  (hq:MW zb.1 p h al bl=some q)(hx:AT β h w p x):
  ∃ v,(Instr.sliceAt t x (lo.map a.eval) (hi.map a.eval) none).run P w= .ok v w/\AT β h w q v:=by
 obtain⟨e,i,zv,hu,hin,hsz,hby,hiz,hzl⟩:=Mc hz;unfold MW at hq;split at hq
 case h_1=>simp at hq
 rename_i n hn;dsimp only at hq;split at hq
 case isFalse=>simp at hq
 rename_i hc;obtain⟨c0,c1,c2,hzk⟩:=hc;have hrun: ∀ (aa:Option Addr)(cap:Nat),n<=cap->(Instr.sliceAt t (.slice aa n cap) (lo.map a.eval) (hi.map a.eval) none).run P w=
   .ok (.slice (if cap=(al.getD 0).toNat then aa else aa.map (·.add ((al.getD 0).toNat*zb.1))) ((bl.getD (n:Int)).toNat-(al.getD 0).toNat) (cap-(al.getD 0).toNat)) w:=by
  intro aa cap hcap;have hb:=Tg (P:=P) (a:=a) w true n cap lo hi al bl hlo hhi hcap c0 c1 c2;simp[Instr.sliceAt,Instr.slice,run_underlying hu,hb,sizeOf,typeInfo,hin,hsz]
 split at hq
 ·rename_i z' rows;simp[GA]at hn;simp[De]at hzk;simp at hq;subst hq;subst hzk;subst hn;simp only[AT,AA]at hx;obtain⟨aa,cap,rfl,h2,h2',h3⟩:=hx;refine⟨_,hrun aa cap h2,?_⟩;have hl:((rows.drop (al.getD 0).toNat).take (bl.getD (rows.length:Int)-al.getD 0).toNat).length=(bl.getD (rows.length:Int)).toNat-(al.getD 0).toNat:=by
   simp only[List.length_take,List.length_drop];omega
  simp only[AT,AA];rw[hl];refine⟨_,_,rfl,by omega,by omega,?_⟩;rcases h3 with rfl|⟨b,o,h4,rfl,h5⟩
  ·left;simp
  ·by_cases hem:(bl.getD (rows.length:Int)).toNat-(al.getD 0).toNat=0
   ·left;exact List.eq_nil_of_length_eq_zero (by rw[hl];exact hem)
   ·right;refine⟨b,o+(al.getD 0).toNat*zb.1,h4,?_,(h5.drop _).take _⟩;rw[A8 (by omega)];simp[Addr.add_lit]
 ·rename_i id off len;split at hq
  case h_2=>simp at hq
  rename_i z' rows hob;simp[GA]at hn;simp[De,hob]at hzk;simp at hq;subst hq;subst hzk;subst hn;have hok:=sm.ok id _ hob;simp only[BM]at hok;simp only[AT,AA]at hx;obtain⟨hid,aa,cap,rfl,h2,h2',h3⟩:=hx;refine⟨_,hrun aa cap h2,?_⟩;simp only[AT,AA];have hl:(bl.getD (len:Int)-al.getD 0).toNat=(bl.getD (len:Int)).toNat-(al.getD 0).toNat:=by omega
  rw[hl];refine⟨hid,_,_,rfl,by omega,by omega,?_⟩;rcases h3 with h3|⟨b,h4,rfl,h6⟩
  ·left;omega
  ·by_cases hem:cap-(al.getD 0).toNat=0
   ·exact .inl hem
   ·right;refine⟨b,h4,?_,?_⟩
    ·rw [A8 (by omega)];simp[Addr.add_lit,hok.1,KP,Qc]
    ·rw [show off+(al.getD 0).toNat+(cap-(al.getD 0).toNat)=off+cap by omega];exact h6
 ·simp [GA]at hn;subst hn;simp at hq;subst hq;simp only[AT,AA]at hx;obtain⟨aa,rfl⟩:=hx;refine⟨_,hrun aa 0 (AG _),?_⟩;simp only[AT,AA];have e1:(al.getD 0).toNat=0:=by omega
  have e2:(bl.getD ((0:Nat):Int)).toNat=0:=by omega
  rw[e1,e2];exact⟨_,rfl⟩
 ·simp [GA]at hn;subst hn;simp at hq;subst hq;simp only[AT,AA]at hx;subst hx;refine⟨_,hrun none 0 (AG _),?_⟩;simp only[AT,AA];have e1:(al.getD 0).toNat=0:=by omega
  have e2:(bl.getD ((0:Nat):Int)).toNat=0:=by omega
  rw[e1,e2];try rfl
 ·simp at hq
theorem ZN{t:Nat}{p q:PV}{x:Value}{lo hi:Option Operand}{al bl:Option Int}(hk:kT P t=3)
  (hlo:(lo=none/\al=none)\/ ∃ y k kk,lo=some y/\al=some k/\a.eval y= .int kk k)(hhi:(hi=none/\bl=none)\/ ∃ y k kk,hi=some y/\bl=some k/\a.eval y= .int kk k)
  (hq:MX p al bl=some q)(hx:AT β h w p x):
  ∃ v,(Instr.sliceAt t x (lo.map a.eval) (hi.map a.eval) none).run P w= .ok v w/\AT β h w q v:=by
 unfold MX at hq;split at hq
 case h_2=>simp at hq
 rename_i st;split at hq
 case isFalse=>simp at hq
 rename_i hc;simp at hq;subst hq;simp only[AT,AA]at hx;subst hx;have hu:P.underlying t=some .string:=by
  unfold kT at hk;split at hk<;>first|assumption|(simp at hk)
 have hb:=Tg (P:=P) (a:=a) w false st.size st.size lo hi al bl hlo hhi (AG _) hc.1 hc.2.1 hc.2.2;refine⟨_,?_,by simp only[AT,AA];rfl⟩;simp[Instr.sliceAt,Instr.slice,run_underlying hu,hb]
theorem ZO{t:Nat}{zb:Nat × Nat}{p:PV}{x:Value}{hi mx:Value}{k1 k2:IntKind}(hz:DZ P t=some zb)(h1:hi= .int k1 0)(h2:mx= .int k2 0)(hp:Kh p=true)(hx:AT β h w p x):
  ∃ v,(Instr.sliceAt t x none (some hi) (some mx)).run P w= .ok v w/\AT β h w .emp v:=by
 obtain⟨e,i,zv,hu,hin,hsz,hby,hiz,hzl⟩:=Mc hz;subst h1;subst h2;have hx': ∃ aa len cap,x= .slice aa len cap:=by
  unfold Kh at hp;split at hp<;>simp only[AT,AA]at hx
  ·obtain ⟨aa,cap,rfl,_⟩:=hx;exact⟨_,_,_,rfl⟩
  ·obtain ⟨_,aa,cap,rfl,_⟩:=hx;exact⟨_,_,_,rfl⟩
  ·obtain ⟨aa,rfl⟩:=hx;exact⟨_,_,_,rfl⟩
  ·exact ⟨_,_,_,hx⟩
  ·simp at hp
 obtain⟨aa,len,cap,rfl⟩:=hx';refine⟨.slice aa 0 0,?_,by simp only[AT,AA];exact⟨_,rfl⟩⟩;simp[Instr.sliceAt,Instr.slice,run_underlying hu,Instr.sliceBounds,Instr.sliceBound,asIntOf,sizeOf,typeInfo,hin]
theorem ZP{t:Nat}{zb:Nat × Nat}{p q:PV}{x:Value}{hi mx:Value}{k1 k2:IntKind}{b c:Int}(hz:DZ P t=some zb)(h1:hi= .int k1 b)(h2:mx= .int k2 c)(hq:Oz b c p=some q)(hx:AT β h w p x):
  ∃ v,(Instr.sliceAt t x none (some hi) (some mx)).run P w= .ok v w/\AT β h w q v:=by
 obtain⟨e,i,zv,hu,hin,hsz,hby,hiz,hzl⟩:=Mc hz;subst h1;subst h2;unfold Oz at hq;split at hq
 case h_2=>simp at hq
 rename_i id off len;split at hq
 case isFalse=>simp at hq
 rename_i hc;obtain⟨c1,rfl,c3⟩:=hc;simp only[BD]at hq;subst hq;simp only[AT,AA]at hx;obtain⟨hid,aa,cap,rfl,hlc,hcm,hb⟩:=hx;obtain⟨m,rfl⟩: ∃ m:Nat,b=m:=⟨b.toNat,by omega⟩;have g1:m<=len:=by omega
 refine⟨.slice (if m=0 then aa else aa.map (·.add (0*i.size))) m m,?_,?_⟩
 ·have g2:m<=cap:=by omega
  have g3:(m:Int)<=cap:=by omega
  simp[Instr.sliceAt,Instr.slice,run_underlying hu,Instr.sliceBounds,Instr.sliceBound,asIntOf,sizeOf,typeInfo,hin,g2,g3]
 ·simp only[AT,AA];refine⟨hid,(if m=0 then aa else aa.map (·.add (0*i.size))),m,by simp,AG _,by omega,?_⟩;rcases hb with hb|⟨bb,e1,e2,e3⟩
  ·exact .inl (by omega)
  ·by_cases h0:m=0
   ·exact .inl h0
   ·refine .inr ⟨bb,e1,?_,ES ?_ e3⟩
    ·rw [A8 h0,e2];simp[Addr.add_lit]
    ·have:(off+m)*(β id).z<=(off+cap)*(β id).z:=LO _ (by omega);omega
end
end Go.AM
namespace Go.AM
section
variable {P:Program}{β β':BK}{h h':A1}{w w':World}{s:AD}{a:Act}
theorem Th(off:Nat): ∀ (l:List Value)(k:Nat)(cells:Array Value),off+k+l.length<=cells.size-> ∀ j,
  ((l.zipIdx k).foldl (λcs x=>cs.setIfInBounds (off+x.2) x.1) cells)[j]? =if off+k<=j/\j<off+k+l.length then l[j-(off+k)]? else cells[j]?
 |[],k,cells,_,j=>by simp;intro h1 h2;omega
 |v::vs,k,cells,hl,j=>by
  simp only[List.length_cons]at hl;rw[List.zipIdx_cons,List.foldl_cons,Th off vs (k+1) _ (by simp;omega)];by_cases h1:off+(k+1)<=j/\j<off+(k+1)+vs.length
  ·rw [AK h1,AK (by simp only[List.length_cons];omega)];rw[show j-(off+k)=(j-(off+(k+1)))+1 by omega,List.getElem?_cons_succ]
  ·rw [A8 h1];by_cases h2:j=off+k
   ·subst h2;rw[AK (by simp only[List.length_cons];omega)];have:off+k<cells.size:=(by omega);simp[this]
   ·rw [A8 (by simp only[List.length_cons];omega)];simp[MN (Ne.symm h2)]
theorem Ti(off:Nat): ∀ (l:List Value)(k:Nat)(cells:Array Value),((l.zipIdx k).foldl (λcs x=>cs.setIfInBounds (off+x.2) x.1) cells).size=cells.size
 |[],_,_=>rfl
 |v::vs,k,cells=>by rw[List.zipIdx_cons,List.foldl_cons,Ti off vs];simp
theorem Qx(off:Nat)(v:Value)(cells:Array Value)(hl:off+v.cells.size<=cells.size)(j:Nat):
  (v.cells.zipIdx.foldl (λcs x=>cs.setIfInBounds (off+x.2) x.1) cells)[j]? =if off<=j/\j<off+v.cells.size then v.cells[j-off]? else cells[j]?:=by
 have h1:=Th off v.cells.toList 0 cells (by simpa using hl) j;rw[← Ok,oO];simpa using h1
theorem Tj(off:Nat)(v:Value)(cells:Array Value):(v.cells.zipIdx.foldl (λcs x=>cs.setIfInBounds (off+x.2) x.1) cells).size=cells.size:=by
 have h1:=Ti off v.cells.toList 0 cells;rw[← Ok,oO];exact h1
def Ju(β:BK)(n:Nat)(F:Nat->Prop)(w:World)(l:List PV)(c:Array Value):Prop:=
 l.length=c.size/\ ∀ (j:Nat)(p:PV),l[j]? =some p-> ∃ v,c[j]? =some v/\v.oneCell'=true/\AA β n F w p v
theorem Ju.of{n:Nat}{F:Nat->Prop}{l:List PV}{xs:List Value}(hr:AU β n F w l xs)(h1: ∀ v∈xs,v.oneCell'=true):Ju β n F w l xs.toArray:=by
 refine⟨by simp[hr.len],λj p hp=>?_⟩;obtain⟨v,hv,hvr⟩:=hr.get hp;exact⟨v,by simpa using hv,h1 v (List.mem_of_getElem? hv),hvr⟩
theorem Ju.agg{n:Nat}{F:Nat->Prop}{l:List PV}{c:Array Value}(hc:Ju β n F w l c):AA β n F w (.agg l) (.agg c):=by
 simp only[AA];refine⟨c.toList,by simp,?_,?_⟩
 ·intro v hv;obtain⟨j,hj⟩:=List.getElem?_of_mem hv;have hjl:j<l.length:=by rw[hc.1];simpa using (List.getElem?_eq_some_iff.1 hj).1
  obtain⟨u,hu,h1,_⟩:=hc.2 j _ (List.getElem?_eq_getElem hjl);rw[MO]at hj;rw[hj]at hu;simp at hu;subst hu;exact h1
 ·rw [IE];refine⟨by simp[hc.1],λj p v hp hv=>?_⟩;obtain⟨u,hu,_,hr⟩:=hc.2 j p hp;rw[MO]at hv;rw[hv]at hu;simp at hu;subst hu;exact hr
theorem Qy(hs: ∀ t,AT β h w (s t) (a.tmps.getD t undef))(place place':Nat->Option (Nat × Nat))(hpl: ∀ i x,place i=some x->place' i=some x):
  ∀ (parts:List (Nat × Operand))(cells out:List PV)(c:Array Value),Ju β h.next (Fz β h w) w cells c->IA place cells (parts.map λp=>(p.1,AB s p.2))=some out->
  ∃ c',Instr.fill place' c (parts.map λp=>(p.1,a.eval p.2))=some c'/\Ju β h.next (Fz β h w) w out c'
 |[],cells,out,c,hc,hl=>by simp[IA]at hl;subst hl;exact⟨c,by simp[Instr.fill],hc⟩
 |(i,x)::rest,cells,out,c,hc,hl=>by
  simp only[List.map_cons,IA]at hl;split at hl
  case h_1=>simp at hl
  rename_i off n hp;split at hl
  case isFalse=>simp at hl
  rename_i hcond;obtain⟨c1,c2,c3⟩:=hcond;obtain⟨hr,h1⟩:=AA.cells c3 (Ki hs x);have hlen:=hr.len;have hlen2:(a.eval x).cells.toList.length=(a.eval x).cells.size:=F7;have hcsz:=hc.1;have hnew:Ju β h.next (Fz β h w) w (Jo cells off (AB s x).cells) ((a.eval x).cells.zipIdx.foldl (λcs y=>cs.setIfInBounds (off+y.2) y.1) c):=by
   refine⟨by rw[Td _ _ _ (by omega),Tj];exact hcsz,λj p hp=>?_⟩;rw[Tc _ _ _ _ (by omega)]at hp;rw[Qx off _ c (by omega)];split at hp
   ·rename_i hj;rw[AK (by omega)];obtain⟨v,hv,hvr⟩:=hr.get hp;rw[MO]at hv;exact⟨v,hv,h1 v (by rw[I6];exact oP hv),hvr⟩
   ·rename_i hj;rw[A8 (by omega)];exact hc.2 j p hp
  obtain⟨c',e1,e2⟩:=Qy hs place place' hpl rest _ out _ hnew hl;refine⟨c',?_,e2⟩;simp only[List.map_cons,Instr.fill,hpl i _ hp];rw[A8 (by simp;omega)];exact e1
theorem Tm{n:Nat}{F:Nat->Prop}{t:Nat}{z:List Value}(hz:DN P t=some z): ∃ i v,P.info? t=some i/\i.zero=some v/\v.cells.toList=z/\(∀ x∈z,x.oneCell'=true)/\Ju β n F w (z.map .sc) v.cells:=by
 obtain⟨i,v,h1,h2,h3,h4⟩:=P5 hz;refine⟨i,v,h1,h2,h3,h4,?_⟩;have:=Ju.of (β:=β) (n:=n) (F:=F) (w:=w) (AU.sc z) h4;rw[← h3]at this⊢;simpa using this
theorem ZQ(hs: ∀ t,AT β h w (s t) (a.tmps.getD t undef)){t:Nat}{z:List Value}{places:List (Nat × Nat)}{parts:Array (Nat × Operand)}{cs:List PV}(hz:DN P t=some z)(hf:Ft P t=some places)
  (hl:IA (λi=>places[i]?) (z.map .sc) (parts.toList.map λp=>(p.1,AB s p.2))=some cs):
  ∃ v,(Instr.build t (parts.map λp=>(p.1,a.eval p.2))).run P w= .ok v w/\AT β h w (.agg cs) v:=by
 obtain⟨i,v,h1,h2,h3,h4,h5⟩:=Tm (β:=β) (n:=h.next) (F:=Fz β h w) (w:=w) hz;unfold Ft at hf;split at hf
 case h_2=>simp at hf
 rename_i fs hu;obtain⟨c',e1,e2⟩:=Qy hs (λi=>places[i]?) (λi=>places.toArray[i]?) (λi x hx=>by simpa using hx) parts.toList _ cs v.cells h5 hl;refine⟨_,run_build w t _ c' ?_,e2.agg⟩;simp only[Program.built,h1,hu,h2,hf];simpa using e1
theorem ZS(hs: ∀ t,AT β h w (s t) (a.tmps.getD t undef)){t:Nat}{z:List Value}{na:Nat × Nat}{parts:Array (Nat × Operand)}{cs:List PV}(hz:DN P t=some z)(hf:Ke P t=some na)
  (hl:IA (λi=>some (i*na.2,na.2)) (z.map .sc) (parts.toList.map λp=>(p.1,AB s p.2))=some cs):
  ∃ v,(Instr.build t (parts.map λp=>(p.1,a.eval p.2))).run P w= .ok v w/\AT β h w (.agg cs) v:=by
 obtain⟨i,v,h1,h2,h3,h4,h5⟩:=Tm (β:=β) (n:=h.next) (F:=Fz β h w) (w:=w) hz;obtain⟨e,ie,hu,hie,hsz⟩:=TY hf;obtain⟨c',e1,e2⟩:=Qy hs (λi=>some (i*na.2,na.2)) (λi=>some (i*ie.size,ie.size)) (λi x hx=>by rw[hsz];exact hx) parts.toList _ cs v.cells h5 hl;refine⟨_,run_build w t _ c' ?_,e2.agg⟩;simp only[Program.built,h1,hu,h2,hie];simpa using e1
theorem ZT{n m z:Nat}{F:Nat->Prop}{zs:Array Value}(hz:zs.size=z)(h1: ∀ x∈zs.toList,x.oneCell'=true):
  HH β m F w z (List.replicate n (zs.toList.map .sc)) ((Array.range (n*z)).map λk=>zs[k % zs.size]!):=by
 intro i r hr;rw[List.getElem?_replicate]at hr;split at hr
 case isFalse=>simp at hr
 rename_i hi;simp at hr;subst hr;refine⟨by simp[hz],λj p hp=>?_⟩;rw[List.getElem?_map]at hp;cases hj:zs.toList[j]? with
 |none=>simp[hj]at hp
 |some v=>
  simp[hj]at hp;subst hp;have hjl:j<z:=by rw[← hz];simpa using (List.getElem?_eq_some_iff.1 hj).1
  have hlt:i*z+j<n*z:=by
   have:(i+1)*z<=n*z:=LO _ hi;rw[Jk]at this;omega
  refine⟨v,?_,h1 v (List.mem_of_getElem? hj),by simp only[AA]⟩;have hmod:(i*z+j) % zs.size=j:=by
   rw[hz,Nat.mul_comm,Nat.mul_add_mod,Nat.mod_eq_of_lt hjl]
  rw[MO]at hj;simp[hlt,hmod,getElem!_def,hj]
theorem Tn(hs: ∀ t,AT β h w (s t) (a.tmps.getD t undef))(z:Nat): ∀ (parts:List (Nat × Operand))(rows out:List (List PV))(c:Array Value),
  c.size=rows.length*z->HH β h.next (Fz β h w) w z rows c->
  He z rows (parts.map λp=>(p.1,AB s p.2))=some out->
  ∃ c',Instr.fill (λi=>some (i*z,z)) c (parts.map λp=>(p.1,a.eval p.2))=some c'/\c'.size=out.length*z/\HH β h.next (Fz β h w) w z out c'/\out.length=rows.length
 |[],rows,out,c,hsz,hc,hl=>by simp[He]at hl;subst hl;exact⟨c,by simp[Instr.fill],hsz,hc,rfl⟩
 |(i,x)::rest,rows,out,c,hsz,hc,hl=>by
  simp only[List.map_cons,He]at hl;split at hl
  case isFalse=>simp at hl
  rename_i hcond;obtain⟨c1,c2,c3⟩:=hcond;obtain⟨hr,h1⟩:=AA.cells c3 (Ki hs x);have hlen:=hr.len;have hlen2:(a.eval x).cells.toList.length=(a.eval x).cells.size:=F7;have hle:(i+1)*z<=rows.length*z:=LO _ c2;rw[Jk]at hle;have hnew:HH β h.next (Fz β h w) w z (rows.set i (AB s x).cells) ((a.eval x).cells.zipIdx.foldl (λcs y=>cs.setIfInBounds (i*z+y.2) y.1) c):=by
   intro i' r' hr';rw[List.getElem?_set]at hr';split at hr'
   ·rename_i hie;subst hie;simp at hr';obtain⟨_,rfl⟩:=hr';refine⟨c1,λj p hp=>?_⟩;have hj:j<(AB s x).cells.length:=(List.getElem?_eq_some_iff.1 hp).1;rw[Qx _ _ c (by omega),AK (by omega)];obtain⟨v,hv,hvr⟩:=hr.get hp;rw[MO]at hv;refine⟨v,by rw[show i*z+j-i*z=j by omega];exact hv,h1 v (by rw[I6];exact oP hv),hvr⟩
   ·rename_i hie;obtain⟨h2,h3⟩:=hc i' r' hr';refine⟨h2,λj p hp=>?_⟩;have hj:j<z:=(by rw[← h2];exact(List.getElem?_eq_some_iff.1 hp).1);have htr:=Te (z:=z) (f:=0) (j:=j) (n:=z) hie (by omega) hj;rw[Qx _ _ c (by omega),A8 (by omega)];exact h3 j p hp
  obtain⟨c',e1,e2,e3,e4⟩:=Tn hs z rest _ out _ (by rw[Tj,List.length_set];exact hsz) hnew hl;refine⟨c',?_,e2,e3,by rw[e4,List.length_set]⟩;simp only[List.map_cons,Instr.fill];rw[A8 (by simp;omega)];exact e1
theorem Tp(f:Nat->Value):(Array.range 0).map f= #[]:=Array.eq_empty_of_size_eq_zero (by simp)
theorem ZU(sm:B3 β h w)(hs: ∀ t,AT β h w (s t) (a.tmps.getD t undef)){t len:Nat}{zb:Nat × Nat}{z:List Value}{parts:Array (Nat × Operand)}{rows:List (List PV)}{ow:Bool}{r:PV}
  (hz:DZ P t=some zb)(hzz:GK P t=some z)(hc:z.length=zb.1/\0<zb.1/\len*zb.1<=16777216)
  (hl:He zb.1 (List.replicate len (z.map .sc)) (parts.toList.map λp=>(p.1,AB s p.2))=some rows)
  (hr:(if len=0 then some (PV.emp,h)else if ow then some (.own h.next 0 len,h.new (.arr zb.1 rows))else some (.A2 zb.1 rows,h))=some (r,h')):
  ∃ v w' β',(Instr.buildSlice t len (parts.map λp=>(p.1,a.eval p.2))).run P w= .ok v w'/\B3 β' h' w'/\BS β h w β' h' w'/\AT β' h' w' r v:=by
 obtain⟨e,i,zv,hu,hin,hsz,hby,hiz,hzl⟩:=Mc hz;obtain⟨e',i',zv',hu',hin',hiz',hzl',hz1⟩:=Z7 hzz;rw[hu]at hu';simp at hu';subst hu';rw[hin]at hin';simp at hin';subst hin';rw[hiz]at hiz';simp at hiz';subst hiz';obtain⟨c1,c2,c3⟩:=hc;have hzz2:zv.cells.size≠0:=by omega
 have hzero:=ZT (β:=β) (m:=h.next) (w:=w) (n:=len) (F:=Fz β h w) (zs:=zv.cells) hzl (by rw[hzl'];exact hz1);rw[hzl']at hzero;obtain⟨c',e1,e2,e3,e4⟩:=Tn hs zb.1 parts.toList (List.replicate len (z.map .sc)) rows _ (by simp) hzero hl;rw[List.length_replicate]at e4;have hrun:(Instr.buildSlice t len (parts.map λp=>(p.1,a.eval p.2))).run P w= .ok (.slice (some ⟨w.heap.size,0,none⟩) len len) (w.alloc (.cells c' e)):=by
  have h24:¬ (16777216<len*zb.1):=by omega
  by_cases h0:len*zb.1=0
  ·rw [h0,Tp]at e1;simp[Instr.buildSlice,run_underlying hu,sizeOf,typeInfo,hin,hsz,h0,Tp,e1,newRow]
  ·simp [Instr.buildSlice,run_underlying hu,sizeOf,typeInfo,hin,hsz,h24,h0,zeroValue,hiz,e1,newRow]
 refine⟨.slice (some ⟨w.heap.size,0,none⟩) len len,w.alloc (.cells c' e),?_⟩;by_cases hlen:len=0
 ·rw [AK hlen]at hr;simp at hr;obtain⟨rfl,rfl⟩:=hr;subst hlen;obtain⟨a1,a2,_⟩:=sm.Qi (.cells c' e);exact⟨β,hrun,a1,a2,by simp only[AT,AA];exact⟨_,rfl⟩⟩
 ·rw [A8 hlen]at hr;cases ow with
  |true=>
   simp at hr;obtain⟨rfl,rfl⟩:=hr;obtain⟨a1,a2⟩:=B3.Yo sm zb.1 rows c' e e3 (by omega);refine⟨_,hrun,a1,a2,?_⟩;simp only[AT,AA];have hpos:0<zb.1:=c2;have hm:len<=maxLen:=by
    have:len*1<=len*zb.1:=oQ _ hpos;simp only[maxLen];omega
   refine⟨by simp[A1.new],_,len,rfl,AG _,hm,.inr ⟨w.heap.size,by simp,by simp,?_⟩⟩;simp only[AO,Bf];rw[e2,e4];exact AG _
  |false=>
   simp at hr;obtain⟨rfl,rfl⟩:=hr;obtain⟨a1,a2,a3⟩:=sm.Qi (.cells c' e);refine⟨β,hrun,a1,a2,?_⟩;simp only[AT,AA];have hm:len<=maxLen:=by
    have:len*1<=len*zb.1:=oQ _ c2;simp only[maxLen];omega
   refine⟨_,len,by rw[e4],by omega,hm,.inr ⟨w.heap.size,0,a3,rfl,?_⟩⟩;exact e3.rep a2.mv (heap_alloc_new w _)
end
end Go.AM
