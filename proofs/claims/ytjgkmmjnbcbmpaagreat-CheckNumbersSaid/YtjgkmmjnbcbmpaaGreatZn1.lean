/- What the claim rests on, part 1: the abstract machine, contracts of the functions, plain data. -/
import Derived.WalkKit
import Derived.Laws.StructEq
import Derived.Laws.IdiomStrings
import Derived.Laws.BytesString
set_option linter.unusedVariables false
set_option linter.unusedSimpArgs false
set_option linter.unusedSectionVars false
namespace Go.AM
inductive PV where
 |sc(v:Value)
 |ptr(id i f:Nat)
 |cptr(cells:List PV)
 |own(id off len:Nat)
 |imm(z:Nat)(rows:List (List PV))
 |emp
 |mp(id:Nat)
 |agg(cells:List PV)
 |tup(vs:List PV)
 |fn(f:FuncId)(first caps:List PV)
 |ab(k:IntKind)(lo hi m r:Int)
 |lin(a b lo hi:Int)
inductive AObj where
 |arr(z:Nat)(rows:List (List PV))
 |map(es:List (Value × PV))
 |glb(g:Nat)(lo hi:Int)
structure Heap where
 next:Nat
 obj:Nat→Option AObj
def Heap.new(h:Heap)(o:AObj):Heap:=⟨h.next+1,fun i=>if i=h.next then some o else h.obj i⟩
def Heap.set(h:Heap)(id:Nat)(o:AObj):Heap:=⟨h.next,fun i=>if i=id then some o else h.obj i⟩
def Heap.kill(h:Heap)(id:Nat):Heap:=⟨h.next,fun i=>if i=id then none else h.obj i⟩
def PV.cells:PV→List PV
 | .agg l=>l
 |p=>[p]
def oneC:PV→Bool
 | .sc v=>v.oneCell'
 | .agg _=>false
 | .tup _=>false
 |_=>true
abbrev Slots:=Nat→PV
def upd(s:Slots)(d:Nat)(v:PV):Slots:=fun t=>if t=d then v else s t
def updO(s:Slots)(d:Option Nat)(v:PV):Slots:=match d with|some d=>upd s d v|none=>s
def constPV:Value→PV
 | .agg cs=>if cs.toList.all Value.oneCell'=true then .agg (cs.toList.map .sc)else .sc (.agg cs)
 |v=> .sc v
def pev(s:Slots):Operand→PV
 | .tmp t=>s t
 | .const v=>constPV v
 | .global g=> .sc (.pointer (some ⟨g,0,none⟩))
 | .func f=> .sc (.func (.func f) #[] #[])
def kT(P:Program)(t:TypeId):Nat:=
 match P.underlying t with
 |some .bool=>1|some (.int _)=>2|some .string=>3|some (.pointer _)=>4|some (.slice _)=>5|some (.map _ _)=>6
 |some (.interface _)=>7|some (.struct _)=>8|some (.array _ _)=>9|some (.func _ _ _)=>10|some _=>11|none=>0
def intT(P:Program)(t:TypeId):Option IntKind:=match P.underlying t with|some (.int k)=>some k|_=>none
def szT(P:Program)(t:TypeId):Option Nat:=match P.underlying t with|some _=>(P.info? t).map (·.size)|none=>none
def elT(P:Program)(t:TypeId):Option (Nat × Nat):=match P.underlying t with|some (.slice e)=>(P.info? e).bind fun i=>i.zero.bind fun zv=>if zv.cells.size=i.size then some (i.size,i.bytes)else none|_=>none
def arT(P:Program)(t:TypeId):Option (Nat × Nat):=match P.underlying t with|some (.array n e)=>(P.info? e).map fun i=>(n,i.size)|_=>none
def arE(P:Program)(t:TypeId):Option (Nat × Nat × Bool):=match P.underlying t with|some (.array n e)=>(szT P e).map fun z=>(n,z,kT P e==8||kT P e==9)|_=>none
def zeroT(P:Program)(t:TypeId):Option (List Value):=(P.info? t).bind fun i=>i.zero.bind fun z=>if z.cells.toList.all Value.oneCell'=true then some z.cells.toList else none
def elZ(P:Program)(t:TypeId):Option (List Value):=match P.underlying t with|some (.slice e)=>zeroT P e|_=>none
def fldT(P:Program)(t:TypeId)(f:Nat):Option (Nat × Nat × Bool):=
 match P.underlying t with
 |some (.struct fs)=>(fs[f]?).bind fun f=>(szT P f.type).map fun n=>(f.offset,n,kT P f.type==8||kT P f.type==9)
 |_=>none
def fieldsT(P:Program)(t:TypeId):Option (List (Nat × Nat)):=
 match P.underlying t with
 |some (.struct fs)=>fs.toList.mapM fun f=>(P.info? f.type).map fun i=>(f.offset,i.size)
 |_=>none
def zvT(P:Program)(t:TypeId):Option Value:=(P.info? t).bind (·.zero)
def mapT(P:Program)(t:TypeId):Option (Nat × Value):=
 match P.underlying t with
 |some (.map k e)=>(zvT P e).map fun z=>(kT P k,z)
 |_=>none
def aggB(P:Program)(t:TypeId):Bool:=kT P t==8||kT P t==9
def mkV(ag:Bool)(n:Nat)(cs:List PV):Option PV:=
 if ag then(if n≤cs.length then some (.agg (cs.take n))else none)else cs.head?
def andK(k:IntKind)(a b:Int):Int:=k.wrap (BitVec.ofInt k.bits a&&&BitVec.ofInt k.bits b).toNat
def orK(k:IntKind)(a b:Int):Int:=k.wrap (BitVec.ofInt k.bits a|||BitVec.ofInt k.bits b).toNat
def xorK(k:IntKind)(a b:Int):Int:=k.wrap (BitVec.ofInt k.bits a ^^^ BitVec.ofInt k.bits b).toNat
def andnK(k:IntKind)(a b:Int):Int:=k.wrap (BitVec.ofInt k.bits a&&& ~~~ BitVec.ofInt k.bits b).toNat
def pint(op:BinOp)(k:IntKind)(a b:Int):Option Value:=
 match op with
 | .add=>some (.int k (k.wrap (a+b)))
 | .sub=>some (.int k (k.wrap (a-b)))
 | .mul=>some (.int k (k.wrap (a*b)))
 | .quo=>if b=0 then none else some (.int k (k.wrap (a.tdiv b)))
 | .rem=>if b=0 then none else some (.int k (a.tmod b))
 | .and=>some (.int k (andK k a b))
 | .or=>some (.int k (orK k a b))
 | .xor=>some (.int k (xorK k a b))
 | .andNot=>some (.int k (andnK k a b))
 | .eql=>some (.bool (a==b))
 | .neq=>some (.bool (a !=b))
 | .lss=>some (.bool (a<b))
 | .leq=>some (.bool (a≤b))
 | .gtr=>some (.bool (a>b))
 | .geq=>some (.bool (a≥b))
 |_=>none
def pshift(op:BinOp)(k:IntKind)(a b:Int):Option Value:=
 if b<0 then none else match op with
 | .shl=>some (.int k (k.wrap (a*2 ^ (min b.toNat k.bits))))
 | .shr=>some (.int k (a.fdiv (2 ^ (min b.toNat k.bits))))
 |_=>none
def pstr(op:BinOp)(a b:ByteArray):Option Value:=
 match op with
 | .add=>if((a.size+b.size:Nat):Int)>IntKind.i64.max then none else some (.string (a++b))
 | .eql=>some (.bool (a.data.toList==b.data.toList))
 | .neq=>some (.bool !(a.data.toList==b.data.toList))
 | .lss=>some (.bool (Op.bytesLess a.data.toList b.data.toList))
 | .leq=>some (.bool (Op.bytesLess a.data.toList b.data.toList||a.data.toList==b.data.toList))
 | .gtr=>some (.bool !(Op.bytesLess a.data.toList b.data.toList||a.data.toList==b.data.toList))
 | .geq=>some (.bool !(Op.bytesLess a.data.toList b.data.toList))
 |_=>none
def isShift:BinOp→Bool
 | .shl| .shr=>true
 |_=>false
def isConstB:Operand→Bool
 | .const _=>true
 |_=>false
def peq(kt:Nat)(c:Bool)(x y:PV):Option Bool:=
 match x,y with
 | .sc (.bool a),.sc (.bool b)=>if kt=1 then some (a==b)else none
 | .sc .nilIface,.sc .nilIface=>if kt=7∧c=true then some true else none
 | .sc .nilIface,.sc (.iface _ _)=>if kt=7 then some false else none
 | .sc (.iface _ _),.sc .nilIface=>if kt=7 then some false else none
 | .sc (.pointer none),.sc (.pointer none)=>if kt=4 then some true else none
 | .ptr _ _ _,.sc (.pointer none)=>if kt=4 then some false else none
 | .sc (.pointer none),.ptr _ _ _=>if kt=4 then some false else none
 | .cptr _,.sc (.pointer none)=>if kt=4 then some false else none
 | .sc (.pointer none),.cptr _=>if kt=4 then some false else none
 | .mp _,.sc (.map none)=>if kt=6 then some false else none
 | .sc (.map none),.sc (.map none)=>if kt=6 then some true else none
 | .sc (.slice none 0 _),.sc (.slice none 0 0)=>if kt=5 then some true else none
 | .sc (.slice (some _) 0 _),.sc (.slice none 0 0)=>if kt=5 then some false else none
 | .imm _ rows,.sc (.slice none 0 0)=>if kt=5∧0<rows.length then some false else none
 | .own _ _ len,.sc (.slice none 0 0)=>if kt=5∧0<len then some false else none
 |_,_=>none
def cmpL(op:BinOp)(lo hi c:Int):Option Bool:=
 match op with
 | .lss=>if hi<c then some true else if c≤lo then some false else none
 | .leq=>if hi≤c then some true else if c<lo then some false else none
 | .gtr=>if c<lo then some true else if hi≤c then some false else none
 | .geq=>if c≤lo then some true else if hi<c then some false else none
 | .eql=>if hi<c∨c<lo then some false else none
 | .neq=>if hi<c∨c<lo then some true else none
 |_=>none
def flipO:BinOp→BinOp
 | .lss=> .gtr
 | .leq=> .geq
 | .gtr=> .lss
 | .geq=> .leq
 |op=>op
def pabL(op:BinOp)(k:IntKind)(lo hi m r:Int)(k':IntKind)(c:Int):Option PV:=
 if k=k' then(match op with
  | .rem=>if c=m∧0<m then some (.sc (.int k r))else none
  | .sub=>if k= .i64∧ -9223372036854775808≤lo-c∧hi-c≤9223372036854775807 then some (.ab .i64 (lo-c) (hi-c) 1 0)else none
  |op=>(cmpL op lo hi c).map fun b=> .sc (.bool b))else none
def pabR(op:BinOp)(k:IntKind)(lo hi:Int)(k':IntKind)(c:Int):Option PV:=
 if k=k' then(match op with
  | .sub=>if k= .i64∧ -9223372036854775808≤c-hi∧c-lo≤9223372036854775807 then some (.ab .i64 (c-hi) (c-lo) 1 0)else none
  |op=>(cmpL (flipO op) lo hi c).map fun b=> .sc (.bool b))else none
def pmin:PV→PV→Option PV
 | .sc (.int k a),.sc (.int k' b)=>if k=k' then some (.sc (.int k (if b<a then b else a)))else none
 | .ab k lo hi m r,.sc (.int k' c)=>if k=k' then(if hi≤c then some (.ab k lo hi m r)else if c≤lo then some (.sc (.int k c))else none)else none
 | .lin a b lo hi,.sc (.int k' c)=>if IntKind.i64=k' then(if hi≤c then some (.lin a b lo hi)else if c≤lo then some (.sc (.int .i64 c))else none)else none
 |_,_=>none
def pmax:PV→PV→Option PV
 | .sc (.int k a),.sc (.int k' b)=>if k=k' then some (.sc (.int k (if b>a then b else a)))else none
 | .sc (.int k' c),.ab k lo hi m r=>if k=k' then(if c≤lo then some (.ab k lo hi m r)else if hi≤c then some (.sc (.int k c))else none)else none
 | .sc (.int k' c),.lin a b lo hi=>if IntKind.i64=k' then(if c≤lo then some (.lin a b lo hi)else if hi≤c then some (.sc (.int .i64 c))else none)else none
 |_,_=>none
def plin(op:BinOp)(a b c d:Int):Option PV:=
 match op with
 | .gtr=>if d<a then some (.sc (.bool true))else if b≤c then some (.sc (.bool false))else none
 | .sub=>if-9223372036854775808≤a-d∧b-c≤9223372036854775807 then some (.ab .i64 (a-d) (b-c) 1 0)else none
 |_=>none
def pbin(op:BinOp)(kt:Nat)(c:Bool)(x y:PV):Option PV:=
 match x,y with
 | .sc (.int k a),.sc (.int k' b)=>(if isShift op then pshift op k a b else if k=k' then pint op k a b else none).map .sc
 | .sc (.string a),.sc (.string b)=>(pstr op a b).map .sc
 | .ab k lo hi m r,.sc (.int k' b)=>pabL op k lo hi m r k' b
 | .sc (.int k' b),.ab k lo hi _ _=>pabR op k lo hi k' b
 | .lin _ _ lo hi,.sc (.int k' b)=>pabL op .i64 lo hi 1 0 k' b
 | .sc (.int k' b),.lin _ _ lo hi=>pabR op .i64 lo hi k' b
 | .lin a b _ _,.lin c d _ _=>plin op a b c d
 |x,y=>
  match op with
  | .eql=>(peq kt c x y).map fun b=> .sc (.bool b)
  | .neq=>(peq kt c x y).map fun b=> .sc (.bool !b)
  |_=>none
def sfOk(P:Program):Nat→List Field→Bool
 |_,[]=>true
 |i,f::fs=>decide (f.name≠ "_")&&f.offset==i&&kT P f.type==3&&sfOk P (i+1) fs
def strsT(P:Program)(t:TypeId):Option Nat:=match P.underlying t with
 |some (.struct fs)=>if P.stoodInHeld t=false∧P.eqGuardType P.depth t=false∧sfOk P 0 fs.toList=true then some fs.size else none
 |_=>none
def strsEq:List PV→List PV→Option Bool
 |[],[]=>some true
 | .sc (.string a)::l,.sc (.string b)::m=>(strsEq l m).map fun r=>(a.data.toList==b.data.toList)&&r
 |_,_=>none
def sbin(op:BinOp)(n:Option Nat)(x y:PV):Option PV:=
 match x,y with
 | .agg a,.agg b=>if n=some a.length then(match op with
  | .eql=>(strsEq a b).map fun r=> .sc (.bool r)
  | .neq=>(strsEq a b).map fun r=> .sc (.bool !r)
  |_=>none)else none
 |_,_=>none
def pun(op:UnOp)(x:PV):Option PV:=
 match op,x with
 | .not,.sc (.bool b)=>some (.sc (.bool !b))
 | .neg,.sc (.int k n)=>some (.sc (.int k (k.wrap (0-n))))
 | .xor,.sc (.int k n)=>some (.sc (.int k (k.wrap (BitVec.ofInt k.bits (if k.signed then-1 else k.max) ^^^ BitVec.ofInt k.bits n).toNat)))
 |_,_=>none
def pconv(ks kd:Option IntKind)(x:PV):Option PV:=
 match ks,kd,x with
 |some _,some k,.sc (.int _ n)=>some (.sc (.int k (k.wrap n)))
 |some _,some k,.ab _ lo hi m r=>if k= .i64∧ -9223372036854775808≤lo∧hi≤9223372036854775807 then some (.ab .i64 lo hi m r)else none
 |_,_,_=>none
def u8T(P:Program)(t:TypeId):Bool:=match P.underlying t with
 |some (.slice e)=>(match P.underlying e with|some (.int .u8)=>true|_=>false)
 |_=>false
def bytesR(l:List UInt8):List (List PV):=l.map fun b=>[.sc (.int .u8 b.toNat)]
def byteRow:List (List PV)→Option (List UInt8)
 |[]=>some []
 |[.sc (.int .u8 n)]::rest=>(byteRow rest).map (UInt8.ofNat n.toNat::·)
 |_=>none
theorem byteRow_bytesR(l:List UInt8):byteRow (bytesR l)=some l:=by
 induction l with
 |nil=>rfl
 |cons b l ih=>simp only[bytesR,List.map_cons,byteRow]at ih⊢;rw[ih];simp
def view(h:Heap):PV→Option (List (List PV))
 | .imm _ rows=>some rows
 | .emp=>some []
 | .sc (.slice none 0 0)=>some []
 | .sc (.slice _ 0 _)=>some []
 | .own id off len=>match h.obj id with
  |some (.arr _ rows)=>if off+len≤rows.length then some ((rows.drop off).take len)else none
  |_=>none
 |_=>none
def lenP(h:Heap):PV→Option Nat
 | .imm _ rows=>some rows.length
 | .emp=>some 0
 | .sc (.slice none 0 0)=>some 0
 | .own _ _ len=>some len
 | .sc (.string s)=>some s.size
 | .sc (.map none)=>some 0
 | .mp id=>match h.obj id with|some (.map es)=>some es.length|_=>none
 |_=>none
def lenK(k:Nat):PV→Bool
 | .imm _ _=>k==5
 | .emp=>k==5
 | .own _ _ _=>k==5
 | .sc (.slice none 0 0)=>k==5
 | .sc (.string _)=>k==3
 | .sc (.map none)=>k==6
 | .mp _=>k==6
 |_=>false
def intP:PV→Option Int
 | .sc (.int _ n)=>some n
 |_=>none
def idx(h:Heap)(z:Nat)(x:PV)(i:Int):Option PV:=
 if 0≤i then
  match x with
  | .imm z' rows=>if z'=z then(rows[i.toNat]?).map .cptr else none
  | .own id off len=>match h.obj id with
   |some (.arr z' _)=>if z'=z∧i.toNat<len then some (.ptr id (off+i.toNat) 0)else none
   |_=>none
  |_=>none
 else none
def idxA(n z:Nat)(x:PV)(i:Int):Option PV:=
 if 0≤i∧i<n then
  match x with
  | .ptr id r f=>some (.ptr id r (f+i.toNat*z))
  | .cptr cs=>if i.toNat*z+z≤cs.length then some (.cptr ((cs.drop (i.toNat*z)).take z))else none
  |_=>none
 else none
def fldP(off n:Nat):PV→Option PV
 | .ptr id i f=>if 0<n then some (.ptr id i (f+off))else none
 | .cptr cs=>if 0<n∧off+n≤cs.length then some (.cptr ((cs.drop off).take n))else none
 |_=>none
def rd(h:Heap):PV→Option (List PV)
 | .ptr id i f=>match h.obj id with
  |some (.arr _ rows)=>(rows[i]?).map (·.drop f)
  |_=>none
 | .cptr cs=>some cs
 | .sc (.pointer (some ⟨g,0,none⟩))=>match h.obj g with
  |some (.glb g' lo hi)=>if g'=g then some [.ab .i64 lo hi 1 0]else none
  |_=>none
 |_=>none
def putC(r:List PV)(f:Nat)(vc:List PV):List PV:=r.take f++vc++r.drop (f+vc.length)
def wr(h:Heap)(vc:List PV):PV→Option Heap
 | .ptr id i f=>match h.obj id with
  |some (.arr z rows)=>match rows[i]? with
   |some r=>if f+vc.length≤r.length then some (h.set id (.arr z (rows.set i (putC r f vc))))else none
   |none=>none
  |_=>none
 |_=>none
def isTail(h:Heap):PV→Option (Heap × List (List PV))
 | .emp=>some (h,[])
 | .sc (.slice none 0 0)=>some (h,[])
 | .own id 0 len=>match h.obj id with
  |some (.arr _ rows)=>if 0+len≤rows.length then some (h.kill id,(rows.drop 0).take len)else none
  |_=>none
 |_=>none
def zOk(h:Heap)(z:Nat):PV→Bool
 | .imm z' _=>z'==z
 | .own id _ _=>match h.obj id with|some (.arr z' _)=>z'==z|_=>false
 | .emp=>true
 | .sc (.slice none 0 0)=>true
 | .sc (.slice _ 0 _)=>true
 |_=>false
def app(z bytes:Nat)(h:Heap)(x y:PV):Option (PV × Heap):=
 if zOk h z x&&zOk h z y&&decide (0<z)&&decide (0<bytes)then
  match view h y,isTail h x with
  |some new,some (h',old)=>if(old.length+new.length)*bytes≤140737488355328 then some (.own h.next 0 (old.length+new.length),h'.new (.arr z (old++new)))else none
  |_,_=>none
 else none
def subL(z:Nat)(x:PV)(h:Heap)(lo hi:Option Int):Option PV:=
 match lenP h x with
 |none=>none
 |some n=>
  let a:=lo.getD 0;let b:=hi.getD n
  if 0≤a∧a≤b∧b≤n∧zOk h z x=true then
   match x with
   | .imm z rows=>some (.imm z ((rows.drop a.toNat).take (b-a).toNat))
   | .own id off _=>match h.obj id with
    |some (.arr _ _)=>some (.own id (off+a.toNat) (b-a).toNat)
    |_=>none
   | .emp=>some .emp
   | .sc (.slice none 0 0)=>some (.sc (.slice none 0 0))
   |_=>none
  else none
def subS(x:PV)(lo hi:Option Int):Option PV:=
 match x with
 | .sc (.string s)=>if 0≤lo.getD 0∧lo.getD 0≤hi.getD s.size∧hi.getD s.size≤s.size then some (.sc (.string (s.extract (lo.getD 0).toNat (hi.getD s.size).toNat)))else none
 |_=>none
def lay(place:Nat→Option (Nat × Nat))(cells:List PV):List (Nat × PV)→Option (List PV)
 |[]=>some cells
 |(i,v)::rest=>match place i with
  |none=>none
  |some (off,n)=>if v.cells.length=n∧off+n≤cells.length∧v.cells.all oneC=true then lay place (putC cells off v.cells) rest else none
def rowsOf(z:Nat)(rows:List (List PV)):List (Nat × PV)→Option (List (List PV))
 |[]=>some rows
 |(i,v)::rest=>if v.cells.length=z∧i<rows.length∧v.cells.all oneC=true then rowsOf z (rows.set i v.cells) rest else none
def keyEq:Value→Value→Option Bool
 | .int k a,.int k' b=>if k=k' then some (a==b)else none
 | .string a,.string b=>some (a==b)
 | .bool a,.bool b=>some (a==b)
 |_,_=>none
def keyKind(kt:Nat):Value→Bool
 | .int _ _=>kt==2
 | .string _=>kt==3
 | .bool _=>kt==1
 |_=>false
def mfind(k:Value):List (Value × PV)→Option (Option PV)
 |[]=>some none
 |(k',v)::es=>match keyEq k k' with
  |some true=>some (some v)
  |some false=>mfind k es
  |none=>none
def mput(k:Value)(v:PV):List (Value × PV)→Option (List (Value × PV))
 |[]=>some [(k,v)]
 |(k',v')::es=>match keyEq k k' with
  |some true=>some ((k,v)::es)
  |some false=>(mput k v es).map ((k',v')::·)
  |none=>none
def mview(h:Heap):PV→Option (List (Value × PV))
 | .sc (.map none)=>some []
 | .mp id=>match h.obj id with|some (.map es)=>some es|_=>none
 |_=>none
def oInt(s:Operand→PV):Option Operand→Option (Option Int)
 |none=>some none
 |some x=>(intP (s x)).map some
def zB(n:Int):Bool:=decide (n=0)
def isZeroInt(s:Operand→PV):Option Operand→Bool
 |some x=>match s x with| .sc (.int _ n)=>zB n|_=>false
 |none=>false
def lkV(ok:Bool)(z:Value):Option PV→PV
 |some v=>if ok then .tup [v,.sc (.bool true)]else v
 |none=>if ok then .tup [constPV z,.sc (.bool false)]else constPV z
def isSl:PV→Bool
 | .imm _ _=>true
 | .own _ _ _=>true
 | .emp=>true
 | .sc (.slice none 0 0)=>true
 |_=>false
def capP(b c:Int):PV→Option PV
 | .own id off len=>if 0≤b∧b=c∧b≤len then some (.own id off b.toNat)else none
 |_=>none
def clr(h:Heap)(z:Nat)(zr:List PV):PV→Option Heap
 | .own id off len=>match h.obj id with
  |some (.arr z' rows)=>if z'=z∧off+len≤rows.length then some (h.set id (.arr z' (rows.take off++List.replicate len zr++rows.drop (off+len))))else none
  |_=>none
 | .emp=>some h
 | .sc (.slice none 0 0)=>some h
 |_=>none
def eff(P:Program)(ow:Bool)(op:Op)(ρ:Operand→PV)(h:Heap):Option (PV × Heap):=
 match op with
 | .move x=>some (ρ x,h)
 | .assign x=>some (ρ x,h)
 | .pick c a b=>match ρ c with| .sc (.bool t)=>some (if t then ρ a else ρ b,h)|_=>none
 | .alloc t=>(zeroT P t).bind fun z=>if 0<z.length then some (.ptr h.next 0 0,h.new (.arr z.length [z.map .sc]))else none
 | .box _ x=>if(ρ x).cells.all oneC=false then none else if ow then(if 0<(ρ x).cells.length then some (.ptr h.next 0 0,h.new (.arr (ρ x).cells.length [(ρ x).cells]))else none)else some (.cptr (ρ x).cells,h)
 | .build t parts=>
  if kT P t=8 then(zeroT P t).bind fun z=>(fieldsT P t).bind fun places=>(lay (fun i=>places[i]?) (z.map .sc) (parts.toList.map fun p=>(p.1,ρ p.2))).map fun cs=>(.agg cs,h)
  else if kT P t=9 then(zeroT P t).bind fun z=>(arT P t).bind fun na=>(lay (fun i=>some (i*na.2,na.2)) (z.map .sc) (parts.toList.map fun p=>(p.1,ρ p.2))).map fun cs=>(.agg cs,h)
  else none
 | .buildSlice t len parts=>
  (elT P t).bind fun zb=>(elZ P t).bind fun z=>
   if z.length=zb.1∧0<zb.1∧len*zb.1≤16777216 then
    (rowsOf zb.1 (List.replicate len (z.map .sc)) (parts.toList.map fun p=>(p.1,ρ p.2))).bind fun rows=>
     if len=0 then some (.emp,h)
     else if ow then some (.own h.next 0 len,h.new (.arr zb.1 rows))else some (.imm zb.1 rows,h)
   else none
 | .load t a=>(szT P t).bind fun n=>(rd h (ρ a)).bind fun cs=>(mkV (aggB P t) n cs).map fun v=>(v,h)
 | .store t a x=>(szT P t).bind fun n=>if(ρ x).cells.length=n∧(ρ x).cells.all oneC=true then(wr h (ρ x).cells (ρ a)).map fun h'=>(.sc undef,h')else none
 | .nilCheck x=>match ρ x with
  | .ptr id i f=>some (.ptr id i f,h)
  | .cptr cs=>some (.cptr cs,h)
  |_=>none
 | .binOp op t x y _=>(if kT P t=8 then sbin op (strsT P t) (ρ x) (ρ y)else pbin op (kT P t) (isConstB x||isConstB y) (ρ x) (ρ y)).map fun v=>(v,h)
 | .unOp op _ x=>(pun op (ρ x)).map fun v=>(v,h)
 | .convert src dst x=>match ρ x with
  | .sc (.string s)=>
   if kT P dst=3 then(if kT P src=3 then some (.sc (.string s),h)else none)
   else if kT P src=3∧u8T P dst=true∧s.size≤140737488355328 then(if ow then some (.own h.next 0 s.data.toList.length,h.new (.arr 1 (bytesR s.data.toList)))else some (.imm 1 (bytesR s.data.toList),h))
   else none
  |y=>
   if kT P dst=3 then(if u8T P src=true∧zOk h 1 y=true then(view h y).bind fun rows=>(byteRow rows).map fun l=>(.sc (.string ⟨l.toArray⟩),h)else none)
   else(pconv (intT P src) (intT P dst) y).map fun v=>(v,h)
 | .makeInterface t x=>if kT P t=7∨kT P t=0 then none else match ρ x with| .sc v=>some (.sc (.iface t v),h)|_=>none
 | .makeMap _ none=>some (.mp h.next,h.new (.map []))
 | .makeSlice t l c=>
  (elT P t).bind fun zb=>(elZ P t).bind fun z=>(intP (ρ l)).bind fun n=>(intP (ρ c)).bind fun m=>
   if z.length=zb.1∧0<zb.1∧0≤n∧n≤m∧m≤281474976710656∧zb.2*m≤281474976710656 then some (.own h.next 0 n.toNat,h.new (.arr zb.1 (List.replicate n.toNat (z.map .sc))))else none
 | .slice t x lo hi none=>(oInt ρ lo).bind fun a=>(oInt ρ hi).bind fun b=>
   if kT P t=5 then(elT P t).bind fun zb=>(subL zb.1 (ρ x) h a b).map fun v=>(v,h)
   else if kT P t=3 then(subS (ρ x) a b).map fun v=>(v,h)else none
 | .slice t x none (some hi) (some mx) => (elT P t).bind fun _ => if isZeroInt ρ (some hi) = true ∧ isZeroInt ρ (some mx) = true ∧ isSl (ρ x) = true then some (.emp, h)
   else(intP (ρ hi)).bind fun b=>(intP (ρ mx)).bind fun c=>(capP b c (ρ x)).map fun v=>(v,h)
 | .fieldAddr t x f=>(fldT P t f).bind fun o=>(fldP o.1 o.2.1 (ρ x)).map fun v=>(v,h)
 | .field t x f=>match ρ x with
  | .agg cs=>(fldT P t f).bind fun o=>if o.1+o.2.1≤cs.length∧0<o.2.1 then(mkV o.2.2 o.2.1 (cs.drop o.1)).map fun v=>(v,h)else none
  |_=>none
 | .indexAddr t x i=>(intP (ρ i)).bind fun n=>
   if kT P t=5 then(elT P t).bind fun zb=>(idx h zb.1 (ρ x) n).map fun v=>(v,h)
   else(arT P t).bind fun na=>(idxA na.1 na.2 (ρ x) n).map fun v=>(v,h)
 | .index t x i=>(intP (ρ i)).bind fun n=>
   match ρ x with
   | .sc (.string s)=>if kT P t=3∧0≤n then(s[n.toNat]?).map fun b=>(.sc (.int .u8 b.toNat),h)else none
   | .agg cs=>(arE P t).bind fun na=>if 0≤n∧n<na.1 then(mkV na.2.2 na.2.1 (cs.drop (n.toNat*na.2.1))).map fun v=>(v,h)else none
   |_=>none
 | .lookup t x k ok=>(mapT P t).bind fun m=>
   match ρ k,mview h (ρ x)with
   | .sc kv,some es=>if keyKind m.1 kv=true then(mfind kv es).map fun r=>(lkV ok m.2 r,h)else none
   |_,_=>none
 | .mapUpdate t x k v=>(mapT P t).bind fun m=>
   match ρ k,ρ x with
   | .sc kv,.mp id=>match h.obj id with
    |some (.map es)=>if keyKind m.1 kv=true then(mput kv (ρ v) es).map fun es'=>(.sc undef,h.set id (.map es'))else none
    |_=>none
   |_,_=>none
 | .typeAssert x _ t true=>if kT P t=7∨kT P t=0 then none else match ρ x with
   | .sc (.iface u v)=>if u=t then some (.tup [.sc v,.sc (.bool true)],h)else(zvT P t).map fun z=>(.tup [constPV z,.sc (.bool false)],h)
   | .sc .nilIface=>(zvT P t).map fun z=>(.tup [constPV z,.sc (.bool false)],h)
   |_=>none
 | .extract x i=>match ρ x with| .tup vs=>(vs[i]?).map fun v=>(v,h)|_=>none
 | .call {callee:= .builtin .len,args:=args,argTypes:=ts}=>match args.toList,ts.toList with
   |[x],[t]=>if lenK (kT P t) (ρ x)=true then(lenP h (ρ x)).map fun(n:Nat)=>(.sc (.int .i64 (n:Int)),h)else none
   |_,_=>none
 | .call {callee:= .builtin .append,args:=args,argTypes:=ts}=>match args.toList,ts.toList with
   |[x,y],[t,u]=>if t=u then(elT P t).bind fun zb=>app zb.1 zb.2 h (ρ x) (ρ y)else none
   |_,_=>none
 | .call {callee:= .builtin .clear,args:=args,argTypes:=ts}=>match args.toList,ts.toList with
   |[x],[t]=>(elT P t).bind fun zb=>(elZ P t).bind fun z=>if z.length=zb.1∧0<zb.1 then(clr h zb.1 (z.map .sc) (ρ x)).map fun h'=>(.tup [],h')else none
   |_,_=>none
 | .call {callee:= .builtin .min,args:=args,.. }=>match args.toList with
   |[x,y]=>(pmin (ρ x) (ρ y)).map fun v=>(v,h)
   |_=>none
 | .call {callee:= .builtin .max,args:=args,.. }=>match args.toList with
   |[x,y]=>(pmax (ρ x) (ρ y)).map fun v=>(v,h)
   |_=>none
 | .makeFunc (.func f) first caps=>some (.fn f (first.toList.map ρ) (caps.toList.map ρ),h)
 |_=>none
def callee(ρ:Operand→PV):Op→Option (FuncId × List PV)
 | .call {callee:= .value f,args:=args,.. }=>match ρ f with
  | .sc (.func (.func f) first captured)=>if first= #[]∧captured= #[]then some (f,args.toList.map ρ)else none
  | .fn f first caps=>some (f,first++(args.toList.map ρ++caps))
  |_=>none
 |_=>none
end Go.AM
namespace Go.AM
structure Blk where
 b:Option Nat
 o:Nat
 z:Nat
 sz:Nat
structure XT where
 p:Nat→Prop
 T:Int
instance:CoeFun XT (fun _=>Nat→Prop):=⟨XT.p⟩
structure Env where
 bl:Nat→Blk
 X:XT
instance:CoeFun Env (fun _=>Nat→Blk):=⟨Env.bl⟩
mutual
def Rep(β:Env)(n:Nat)(F:Nat→Prop)(w:World):PV→Value→Prop
 | .sc v,x=>x=v
 | .ptr id i f,x=>id<n∧ ∃ b,(β id).b=some b∧x= .pointer (some ⟨b,(β id).o+i*(β id).z+f,none⟩)
 | .cptr cs,x=> ∃ b o,F b∧x= .pointer (some ⟨b,o,none⟩)∧RepS β n F w cs b o
 | .own id off len, x => id < n ∧ ∃ a cap, x = .slice a len cap ∧ len ≤ cap ∧ cap ≤ maxLen ∧
   (cap=0∨ ∃ b,(β id).b=some b∧a=some ⟨b,(β id).o+off*(β id).z,none⟩∧(β id).o+(off+cap)*(β id).z≤(β id).sz)
 | .imm z rows, x => ∃ a cap, x = .slice a rows.length cap ∧ rows.length ≤ cap ∧ cap ≤ maxLen ∧
   (rows=[]∨ ∃ b o,F b∧a=some ⟨b,o,none⟩∧RepR β n F w z rows b o)
 | .emp,x=> ∃ a,x= .slice a 0 0
 | .mp id,x=>id<n∧ ∃ b,(β id).b=some b∧x= .map (some b)
 | .agg cs,x=> ∃ xs:List Value,x= .agg xs.toArray∧(∀ v∈xs,v.oneCell'=true)∧RepL β n F w cs xs
 | .tup vs,x=> ∃ xs:List Value,x= .tuple xs.toArray∧RepL β n F w vs xs
 | .fn f first caps,x=> ∃ xs ys:List Value,x= .func (.func f) xs.toArray ys.toArray∧RepL β n F w first xs∧RepL β n F w caps ys
 | .ab k lo hi m r,x=> ∃ i:Int,lo≤i∧i≤hi∧i.tmod m=r∧x= .int k i
 | .lin a b lo hi,x=> ∃ i:Int,a≤i∧i≤b∧lo≤β.X.T+i∧β.X.T+i≤hi∧x= .int .i64 (β.X.T+i)
def RepS(β:Env)(n:Nat)(F:Nat→Prop)(w:World):List PV→Nat→Nat→Prop
 |[],_,_=>True
 |p::ps,b,o=>(∃ v,w.cell? ⟨b,o,none⟩=some v∧v.oneCell'=true∧Rep β n F w p v)∧RepS β n F w ps b (o+1)
def RepR(β:Env)(n:Nat)(F:Nat→Prop)(w:World)(z:Nat):List (List PV)→Nat→Nat→Prop
 |[],_,_=>True
 |r::rs,b,o=>(r.length=z∧RepS β n F w r b o)∧RepR β n F w z rs b (o+z)
def RepL(β:Env)(n:Nat)(F:Nat→Prop)(w:World):List PV→List Value→Prop
 |[],[]=>True
 |p::ps,v::vs=>Rep β n F w p v∧RepL β n F w ps vs
 |_,_=>False
end
def Fz(β:Env)(h:Heap)(w:World)(b:Nat):Prop:=b<w.heap.size∧(∀ id,(h.obj id).isSome=true→(β id).b≠some b)∧¬ β.X b
def RepM(β:Env)(n:Nat)(F:Nat→Prop)(w:World):List (Value × PV)→List MapEntry→Prop
 |[],[]=>True
 |(k,p)::es,e::fs=>(e.key=k∧Rep β n F w p e.val)∧RepM β n F w es fs
 |_,_=>False
def StB(fs:Array MapEntry)(cl:Nat):Prop:=(∀ x∈fs.toList,x.born<cl)∧(fs.toList.map (·.born)).Nodup
def ObjOk(β:Env)(n:Nat)(F:Nat→Prop)(w:World)(k:Blk):AObj→Prop
 | .arr z rows => k.z = z ∧ ((k.b = none ∧ rows = []) ∨ ∃ b c e fr, k.b = some b ∧ w.heap[b]? = some (.cells c e fr) ∧ c.size = k.sz ∧ k.o + rows.length * z ≤ k.sz ∧
   (∀ i,i<c.size→¬ (fr.1≤i∧i<fr.2))∧RepR β n F w z rows b k.o)
 | .map es=> ∃ b fs clock,k.b=some b∧w.heap[b]? =some (.map fs clock)∧RepM β n F w es fs.toList∧StB fs clock
 | .glb g lo hi=>k.b=none∧F g∧ ∃ i:Int,lo≤i∧i≤hi∧w.cell? ⟨g,0,none⟩=some (.int .i64 i)
structure Sim(β:Env)(h:Heap)(w:World):Prop where
 lt: ∀ id,(h.obj id).isSome=true→id<h.next
 ok: ∀ id o,h.obj id=some o→ObjOk β h.next (Fz β h w) w (β id) o
 inj: ∀ i j,(h.obj i).isSome=true→(h.obj j).isSome=true→ ∀ b,(β i).b=some b→(β j).b=some b→i=j
 xs: ∀ b,β.X b→b<w.heap.size
 nx: ∀ id,(h.obj id).isSome=true→ ∀ b,(β id).b=some b→¬ β.X b
 o0: ∀ id,(h.obj id).isSome=true→(β id).o=0
structure Ext(β:Env)(h:Heap)(w:World)(β':Env)(h':Heap)(w':World):Prop where
 os:w'.os=w.os
 tape:w'.tape=w.tape
 output:w'.output=w.output
 size:w.heap.size≤w'.heap.size
 next:h.next≤h'.next
 beta: ∀ id,id<h.next→β' id=β id
 X:β'.X=β.X
 xh: ∀ b,β.X b→b<w.heap.size→w'.heap[b]? =w.heap[b]?
 fz: ∀ b,Fz β h w b→Fz β' h' w' b∧w'.heap[b]? =w.heap[b]?
 drawn:w.drawn≤w'.drawn
abbrev RepH(β:Env)(h:Heap)(w:World):PV→Value→Prop:=Rep β h.next (Fz β h w) w
def hasBody(P:Program)(f:FuncId):Bool:=match P.funcs[f]? with
 |some fn=>!(fn.name== "runtime.NumGoroutine")&&fn.body.isSome
 |none=>false
def Goes(P:Program)(f:FuncId)(vals:Array Value)(w:World)(Q:Ending→World→Prop):Prop:=
 (hasBody P f=true∧Calls P f vals w Q)∨ ∃ v w',(callFunc f vals).run P w= .ok (.value v) w'∧Q (.returned v) w'
theorem Goes.mono{P:Program}{f:FuncId}{vals:Array Value}{w:World}{Q Q':Ending→World→Prop}(h:Goes P f vals w Q)(hk: ∀ e w',Q e w'→Q' e w'):Goes P f vals w Q':=
 h.imp (fun⟨a,b⟩=>⟨a,b.mono hk⟩) (fun⟨v,w',a,b⟩=>⟨v,w',a,hk _ _ b⟩)
def PCall(P:Program)(f:FuncId)(args:List PV)(h:Heap)(K:PV→Heap→Prop):Prop:=
 ∀ (β:Env)(w:World)(vals:List Value),Sim β h w→RepL β h.next (Fz β h w) w args vals→
  Goes P f vals.toArray w fun e w'=> ∃ r h' β' v,e= .returned v∧K r h'∧Sim β' h' w'∧RepH β' h' w' r v∧Ext β h w β' h' w'
def owp(P:Program)(ow:Nat→Bool)(o:Oper)(K:Slots→Heap→Prop)(s:Slots)(h:Heap):Prop:=
 match callee (pev s) o.op with
 |some (f,args)=>PCall P f args h fun r h'=>K (updO s o.dst r) h'
 |none=>match eff P (o.dst.any ow) o.op (pev s) h with
  |some (r,h')=>K (updO s o.dst r) h'
  |none=>False
def wantedB(ops:List Oper)(s:Slots)(o:Oper):Option Bool:=
 match o.guard with
 |none=>some true
 |some (g,want)=>match(ops[g]?).bind (·.dst)with
  |none=>none
  |some t=>match s t with
   | .sc (.bool b)=>some (b==want)
   | .sc (.tuple _)=>some false
   |_=>none
def lwp(P:Program)(ow:Nat→Bool)(n:Nat)(ops:List Oper):List Oper→(Slots→Heap→Prop)→Slots→Heap→Prop
 |[],K,s,h=>K s h
 |o::rest,K,s,h=>(o.dst.all (fun d=>decide (d<n))=true)∧match wantedB ops s o with
  |none=>False
  |some b=>if b=true then owp P ow o (lwp P ow n ops rest K) s h else lwp P ow n ops rest K (updO s o.dst (.sc undef)) h
def Does(P:Program)(ow:Nat→Bool)(o:Oper)(ρ:Operand→PV)(h:Heap)(v:PV)(h':Heap):Prop:=
 match callee ρ o.op with
 |some (f,args)=>PCall P f args h fun r h''=>r=v∧h''=h'
 |none=>eff P (o.dst.any ow) o.op ρ h=some (v,h')
def isW(ow:Nat→Bool)(wf:FuncId→Bool)(o:Oper):Bool:=
 match o.op with
 | .store _ _ _=>true
 | .mapUpdate _ _ _ _=>true
 | .alloc _=>true
 | .makeMap _ _=>true
 | .makeSlice _ _ _=>true
 | .box _ _=>o.dst.any ow
 | .convert _ _ _=>o.dst.any ow
 | .buildSlice _ _ _=>o.dst.any ow
 | .call {callee:= .builtin .append,.. }=>true
 | .call {callee:= .builtin .clear,.. }=>true
 | .call {callee:= .value (.func f),.. }=>wf f
 | .call {callee:= .value _,.. }=>true
 |_=>false
def pre(ops:List Oper)(i j:Nat):Bool:=((Region.before ops.toArray).getD j 0).testBit i
def drun(P:Program)(ow:Nat→Bool)(wf:FuncId→Bool)(n:Nat)(ops:List Oper):Nat→List Oper→List (Nat × (Heap→Prop))→List (Nat × Heap)→(Slots→Heap→Prop)→Slots→Heap→Prop
  |_,[],_,_,K,s,h=>K s h
  |k,o::rest,past,hist,K,s,h=>(o.dst.all (fun d=>decide (d<n))=true)∧match wantedB ops s o with
    |none=>False
    |some b=>if b=true then
        (if isW ow wf o = true then ∃ v h', Does P ow o (pev s) h v h' ∧ (∀ x ∈ past, pre ops x.1 k = true ∨ x.2 h') ∧ drun P ow wf n ops (k + 1) rest past ((k, h) :: hist) K (updO s o.dst v) h'
         else ∃ v,Does P ow o (pev s) h v h∧(∀ x∈hist,pre ops x.1 k=true∨Does P ow o (pev s) x.2 v x.2)∧drun P ow wf n ops (k+1) rest ((k,fun h'=>Does P ow o (pev s) h' v h')::past) hist K (updO s o.dst v) h)
      else drun P ow wf n ops (k+1) rest past hist K (updO s o.dst (.sc undef)) h
def looks(ops:List Oper)(o:Oper):List Nat:=
 (o.op.operands.toList.filterMap fun| .tmp t=>some t|_=>none)++(match o.guard with|some (g,_)=>((ops[g]?).bind (·.dst)).toList|none=>[])++o.dst.toList
def dOk(ow:Nat→Bool)(wf:FuncId→Bool)(ops:List Oper):Bool:=
 ops.zipIdx.all fun(o,j)=>(o.after.toList.all fun e=>!Region.binds .any e||decide (e.on<j))&&(match o.op with| .select _ _=>false|_=>true)&&
  ops.zipIdx.all fun(q,i)=>i==j||((match q.dst with|none=>true|some d=>!(looks ops o).contains d||pre ops i j||pre ops j i)&&(!(isW ow wf q&&isW ow wf o)||pre ops i j||pre ops j i))
def dwp(P:Program)(ow:Nat→Bool)(wf:FuncId→Bool)(n:Nat)(ops:List Oper)(K:Slots→Heap→Prop)(s:Slots)(h:Heap):Prop:=
 dOk ow wf ops=true∧drun P ow wf n ops 0 ops [] [] K s h
def isAl(o:Oper):Bool:=match o.op with
 | .alloc _=>true
 |_=>false
def alB(ops:List Oper)(f:Nat):Bool:=match ops[f]? with
 |some o=>isAl o
 |none=>false
def DoesR(P:Program)(ow:Nat→Bool)(id:Nat)(o:Oper)(ρ:Operand→PV)(h:Heap)(v:PV)(h':Heap):Prop:=
 match o.op with
 | .alloc t=> ∃ zs,zeroT P t=some zs∧0<zs.length∧v= .ptr id 0 0∧h'=h.set id (.arr zs.length [zs.map .sc])
 |_=>Does P ow o ρ h v h'
def drun2(P:Program)(ow:Nat→Bool)(wf:FuncId→Bool)(n:Nat)(ops:List Oper)(base:Nat):Nat→List Oper→List (Nat × (Heap→Prop))→List (Nat × Heap)→(Slots→Heap→Prop)→Slots→Heap→Prop
  |_,[],_,_,K,s,h=>K s h
  |k,o::rest,past,hist,K,s,h=>(o.dst.all (fun d=>decide (d<n))=true)∧match wantedB ops s o with
    |none=>False
    |some b=>if b=true then
        (if isW ow wf o = true then ∃ v h', DoesR P ow (base + k) o (pev s) h v h' ∧ (∀ f, k < f → alB ops f = true → h'.obj (base + f) = none) ∧ (∀ x ∈ past, pre ops x.1 k = true ∨ x.2 h') ∧ drun2 P ow wf n ops base (k + 1) rest past ((k, h) :: hist) K (updO s o.dst v) h'
         else ∃ v,Does P ow o (pev s) h v h∧(∀ x∈hist,pre ops x.1 k=true∨Does P ow o (pev s) x.2 v x.2)∧drun2 P ow wf n ops base (k+1) rest ((k,fun h'=>Does P ow o (pev s) h' v h')::past) hist K (updO s o.dst v) h)
      else drun2 P ow wf n ops base (k+1) rest past hist K (updO s o.dst (.sc undef)) h
def dOk2(ow:Nat→Bool)(wf:FuncId→Bool)(ops:List Oper):Bool:=
 ops.zipIdx.all fun(o,j)=>(o.after.toList.all fun e=>!Region.binds .any e||decide (e.on<j))&&(match o.op with| .select _ _=>false|_=>true)&&
  ops.zipIdx.all fun(q,i)=>i==j||((match q.dst with|none=>true|some d=>!(looks ops o).contains d||pre ops i j||pre ops j i)&&(!(isW ow wf q&&isW ow wf o)||pre ops i j||pre ops j i||(decide (i<j)&&isAl o)||(decide (j<i)&&isAl q)))
def dwp2(P:Program)(ow:Nat→Bool)(wf:FuncId→Bool)(n:Nat)(ops:List Oper)(K:Slots→Heap→Prop)(s:Slots)(h:Heap):Prop:=
 dOk2 ow wf ops=true∧drun2 P ow wf n ops h.next 0 ops [] [] K s ⟨h.next+ops.length,h.obj⟩
def killL(H:Heap)(l:List Nat):Heap:=⟨H.next,fun j=>if l.contains j=true then none else H.obj j⟩
def putL(h' H:Heap)(l:List Nat):Heap:=⟨h'.next,fun j=>if l.contains j=true∧(H.obj j).isSome=true then H.obj j else h'.obj j⟩
def isA(ow:Nat→Bool)(o:Oper):Bool:=match o.op with
 | .alloc _=>true
 | .makeSlice _ _ _=>true
 | .box _ _=>o.dst.any ow
 | .buildSlice _ _ _=>o.dst.any ow
 |_=>false
def aop(P:Program)(ow:Nat→Bool)(id:Nat)(o:Oper)(ρ:Operand→PV):Option (PV × AObj):=match eff P (o.dst.any ow) o.op ρ ⟨id,fun _=>none⟩with
 |some (v,h1)=>match h1.obj id with
  |some (.arr z rows)=>if rows.isEmpty=true then none else some (v,.arr z rows)
  |_=>none
 |none=>none
def lob(lt:Nat→Option (Nat × AObj))(p:Nat→Bool)(H:Heap):Nat→Heap
 |0=>H
 |m+1=>match lt m with
  |some q=>if p m=true then(lob lt p H m).set q.1 q.2 else lob lt p H m
  |none=>lob lt p H m
def kx(ow:Nat→Bool)(ops:List Oper)(lt:Nat→Option (Nat × AObj))(x:Nat):List Nat:=(List.range ops.length).filterMap fun f=>if(!(x==f)&&!(pre ops f x)&&(!(pre ops x f)||(ops[f]?).any (isA ow)))=true then(lt f).map (·.1)else none
def cutOk(ops:List Oper)(br:Nat→Bool)(x M:Nat):Prop:=M≤ops.length∧(∀ b,b<M→br b=true→pre ops x b=false)∧(∀ b,M≤b→br b=true→pre ops b x=false)∧(M=0∨br (M-1)=true)
def gx(ops:List Oper)(lt:Nat→Option (Nat × AObj))(hk:Nat→Heap)(x M:Nat)(l:List Nat):Heap:=killL (lob lt (fun f=>decide (M≤f)&&pre ops f x) (hk M) ops.length) l
structure Facts(P:Program)(ow:Nat→Bool)(wf:FuncId→Bool)(n:Nat)(ops:List Oper)(base:Nat)(sk:Nat→Slots)(hk:Nat→Heap)(vk:Nat→PV)(lt:Nat→Option (Nat × AObj))(br:Nat→Bool):Prop where
 step: ∀ (j:Nat)(o:Oper),ops[j]? =some o→o.dst.all (fun d=>decide (d<n))=true∧ ∃ b,wantedB ops (sk j) o=some b∧
  (b=false→sk (j+1)=updO (sk j) o.dst (.sc undef)∧hk (j+1)=hk j∧lt j=none∧br j=false)∧
  (b = true → sk (j + 1) = updO (sk j) o.dst (vk j) ∧
   (isW ow wf o=false→hk (j+1)=hk j∧lt j=none∧br j=false∧ ∀ M,cutOk ops br j M→ ∃ l,(∀ id∈kx ow ops lt j,id∈l)∧Does P ow o (pev (sk j)) (gx ops lt hk j M l) (vk j) (gx ops lt hk j M l))∧
   (isW ow wf o = true →
    (br j=true∧lt j=none∧(∃ H',Does P ow o (pev (sk j)) (killL (hk j) (kx ow ops lt j)) (vk j) H'∧(∀ id∈kx ow ops lt j,H'.obj id=none)∧hk (j+1)=putL H' (hk j) (kx ow ops lt j))∧ ∀ f q,j<f→ops[f]? =some q→isA ow q=true→(hk (j+1)).obj (base+f)=none)∨
    (br j=false∧isA ow o=true∧ ∃ ob,lt j=some (base+j,ob)∧aop P ow (base+j) o (pev (sk j))=some (vk j,ob)∧hk (j+1)=(hk j).set (base+j) ob)∨
    (br j=false∧ ∃ t x y id r f ob,o.op= .store t x y∧pev (sk j) x= .ptr id r f∧lt j=some (id,ob)∧hk (j+1)=(hk j).set id ob∧(∀ f q,j<f→ops[f]? =some q→isA ow q=true→base+f≠id)∧eff P (o.dst.any ow) o.op (pev (sk j)) (hk j)=some (vk j,hk (j+1)))))
 ww: ∀ i j,i<j→j<ops.length→(br i=true∨(lt i).isSome=true)→(br j=true∨(lt j).isSome=true)→
  pre ops i j=true∨(∃ p q,lt i=some p∧lt j=some q∧p.1≠q.1)∨(br i=true∧(lt j).isSome=true∧ ∃ o,ops[j]? =some o∧isA ow o=true)∨((lt i).isSome=true∧br j=true∧ ∃ o,ops[i]? =some o∧isA ow o=true)
def dOk3(ops:List Oper):Bool:=
 ops.zipIdx.all fun(o,j)=>(o.after.toList.all fun e=>!Region.binds .any e||decide (e.on<j))&&(match o.op with| .select _ _=>false|_=>true)&&
  ops.zipIdx.all fun(q,i)=>i==j||(match q.dst with|none=>true|some d=>!(looks ops o).contains d||pre ops i j||pre ops j i)
def dwp3(P:Program)(ow:Nat→Bool)(wf:FuncId→Bool)(n:Nat)(ops:List Oper)(K:Slots→Heap→Prop)(s:Slots)(h:Heap):Prop:=
 dOk3 ops=true∧ ∃ sk hk vk lt br,sk 0=s∧hk 0=⟨h.next+ops.length,h.obj⟩∧K (sk ops.length) (hk ops.length)∧Facts P ow wf n ops h.next sk hk vk lt br
abbrev Post:=Exit→Slots→Heap→Prop
def Post.seq(next:Slots→Heap→Prop)(Q:Post):Post
 | .normal,s,h=>next s h
 |e,s,h=>Q e s h
def Post.block(id:Nat)(Q:Post):Post
 | .exit id',s,h=>if id'=id then Q .normal s h else Q (.exit id') s h
 |e,s,h=>Q e s h
def loopN(c:Post→Slots→Heap→Prop)(Q:Post):Nat→Slots→Heap→Prop
 |0,_,_=>False
 |k+1,s,h=>c (Post.seq (loopN c Q k) Q) s h
def Wk(s:Slots)(h:Heap)(s':Slots)(h':Heap):Prop:= ∀ (β:Env)(w:World),Sim β h w→Sim β h' w∧Ext β h w β h' w∧ ∀ t x,RepH β h w (s t) x→RepH β h' w (s' t) x
def awp(P:Program)(ow:Nat→Bool)(wf:FuncId→Bool)(n:Nat):Code→Post→Slots→Heap→Prop
 | .skip,Q,s,h=>Q .normal s h
 | .region _ ops draw,Q,s,h=> ∃ s' h',Wk s h s' h'∧(fun s h=>if draw=true then(dwp P ow wf n ops.toList (Q .normal) s h∨dwp2 P ow wf n ops.toList (Q .normal) s h∨dwp3 P ow wf n ops.toList (Q .normal) s h)else lwp P ow n ops.toList ops.toList (Q .normal) s h) s' h'
 | .seq a b,Q,s,h=>awp P ow wf n a (Post.seq (awp P ow wf n b Q) Q) s h
 | .cond c x y,Q,s,h=>match pev s c with
  | .sc (.bool b)=>if b=true then awp P ow wf n x Q s h else awp P ow wf n y Q s h
  |_=>False
 | .block id c,Q,s,h=>awp P ow wf n c (Post.block id Q) s h
 | .loop c,Q,s,h=> ∃ k,loopN (awp P ow wf n c) Q k s h
 | .exit id,Q,s,h=>Q (.exit id) s h
 | .ret,Q,s,h=>Q .ret s h
 |_,_,_,_=>False
def slots0(args:List PV):Slots:=fun t=>args.getD t (.sc undef)
def resP(P:Program)(s:Slots)(h:Heap):ResultVar→Option PV
 | .tmp t=>some (s t)
 | .cell a t=>(szT P t).bind fun n=>(rd h (s a)).bind fun cs=>mkV (aggB P t) n cs
def resAll(P:Program)(s:Slots)(h:Heap):List ResultVar→Option (List PV)
 |[]=>some []
 |r::rs=>(resP P s h r).bind fun v=>(resAll P s h rs).map fun vs=>v::vs
def resV:List PV→PV
 |[v]=>v
 |vs=> .tup vs
def retPost(P:Program)(rs:List ResultVar)(K:PV→Heap→Prop):Post
 | .normal,s,h=>match resAll P s h rs with|some vs=>K (resV vs) h|none=>False
 | .ret,s,h=>match resAll P s h rs with|some vs=>K (resV vs) h|none=>False
 |_,_,_=>False
end Go.AM
namespace Go.AM
section
variable {β β':Env}{n n':Nat}{F F':Nat→Prop}{w w':World}
theorem cell?_of_heap{w w':World}{b:Nat}(h:w'.heap[b]? =w.heap[b]?)(o:Nat):w'.cell? ⟨b,o,none⟩=w.cell? ⟨b,o,none⟩:=by
 simp only[World.cell?,h]
structure Mv(β:Env)(n:Nat)(F:Nat→Prop)(w:World)(β':Env)(n':Nat)(F':Nat→Prop)(w':World):Prop where
 le:n≤n'
 beta: ∀ id,id<n→(β id).b≠none→β' id=β id
 fz: ∀ b,F b→F' b∧w'.heap[b]? =w.heap[b]?
 T:β'.X.T=β.X.T
mutual
theorem Rep.mv(m:Mv β n F w β' n' F' w'):(p:PV)→(x:Value)→Rep β n F w p x→Rep β' n' F' w' p x
 | .sc v,x,h=>by simpa only[Rep]using h
 | .ptr id i f,x,h=>by
  simp only[Rep]at h⊢;obtain⟨h1,b,h2,h3⟩:=h;rw[m.beta id h1 (by rw[h2];simp)];exact⟨Nat.lt_of_lt_of_le h1 m.le,b,h2,h3⟩
 | .cptr cs,x,h=>by
  simp only[Rep]at h⊢;obtain⟨b,o,h1,h2,h3⟩:=h;exact⟨b,o,(m.fz b h1).1,h2,RepS.mv m cs b o h1 h3⟩
 | .own id off len,x,h=>by
  simp only[Rep]at h⊢;obtain⟨h1,a,cap,h2,h3,h3',h4⟩:=h;refine⟨Nat.lt_of_lt_of_le h1 m.le,a,cap,h2,h3,h3',h4.imp (fun x=>x) ?_⟩;rintro⟨b,h5,h6⟩;rw[m.beta id h1 (by rw[h5];simp)];exact⟨b,h5,h6⟩
 | .imm z rows,x,h=>by
  simp only[Rep]at h⊢;obtain⟨a,cap,h1,h2,h2',h3⟩:=h;refine⟨a,cap,h1,h2,h2',h3.imp id ?_⟩;rintro⟨b,o,h4,h5,h6⟩;exact⟨b,o,(m.fz b h4).1,h5,RepR.mv m z rows b o h4 h6⟩
 | .emp,x,h=>by simpa only[Rep]using h
 | .mp id,x,h=>by
  simp only[Rep]at h⊢;obtain⟨h1,b,h2,h3⟩:=h;rw[m.beta id h1 (by rw[h2];simp)];exact⟨Nat.lt_of_lt_of_le h1 m.le,b,h2,h3⟩
 | .agg cs,x,h=>by
  simp only[Rep]at h⊢;obtain⟨xs,h1,h1',h2⟩:=h;exact⟨xs,h1,h1',RepL.mv m cs xs h2⟩
 | .tup cs,x,h=>by
  simp only[Rep]at h⊢;obtain⟨xs,h1,h2⟩:=h;exact⟨xs,h1,RepL.mv m cs xs h2⟩
 | .fn f first caps,x,h=>by
  simp only[Rep]at h⊢;obtain⟨xs,ys,h1,h2,h3⟩:=h;exact⟨xs,ys,h1,RepL.mv m first xs h2,RepL.mv m caps ys h3⟩
 | .ab k lo hi mm r,x,h=>by simpa only[Rep]using h
 | .lin a b lo hi,x,h=>by
  simp only[Rep]at h⊢;rw[m.T];exact h
theorem RepS.mv(m:Mv β n F w β' n' F' w'):(l:List PV)→(b o:Nat)→F b→RepS β n F w l b o→RepS β' n' F' w' l b o
 |[],_,_,_,_=>by simp only[RepS]
 |p::ps,b,o,hF,h=>by
  simp only[RepS]at h⊢;obtain⟨⟨v,h1,h1',h2⟩,h3⟩:=h;refine⟨⟨v,?_,h1',Rep.mv m p v h2⟩,RepS.mv m ps b (o+1) hF h3⟩;rw[cell?_of_heap (m.fz b hF).2];exact h1
theorem RepR.mv(m:Mv β n F w β' n' F' w')(z:Nat):(l:List (List PV))→(b o:Nat)→F b→RepR β n F w z l b o→RepR β' n' F' w' z l b o
 |[],_,_,_,_=>by simp only[RepR]
 |r::rs,b,o,hF,h=>by
  simp only[RepR]at h⊢;obtain⟨⟨h1,h2⟩,h3⟩:=h;exact⟨⟨h1,RepS.mv m r b o hF h2⟩,RepR.mv m z rs b (o+z) hF h3⟩
theorem RepL.mv(m:Mv β n F w β' n' F' w'):(l:List PV)→(xs:List Value)→RepL β n F w l xs→RepL β' n' F' w' l xs
 |[],[],_=>by simp only[RepL]
 |[],_::_,h=>by simp only[RepL]at h
 |_::_,[],h=>by simp only[RepL]at h
 |p::ps,v::vs,h=>by
  simp only[RepL]at h⊢;exact⟨Rep.mv m p v h.1,RepL.mv m ps vs h.2⟩
end
theorem RepS.mvb{b:Nat}(m:Mv β n F w β' n' F' w')(hb:w'.heap[b]? =w.heap[b]?):(l:List PV)→(o:Nat)→RepS β n F w l b o→RepS β' n' F' w' l b o
 |[],_,_=>by simp only[RepS]
 |p::ps,o,h=>by
  simp only[RepS]at h⊢;obtain⟨⟨v,h1,h1',h2⟩,h3⟩:=h;refine⟨⟨v,?_,h1',Rep.mv m p v h2⟩,RepS.mvb m hb ps (o+1) h3⟩;rw[cell?_of_heap hb];exact h1
theorem RepR.mvb{b:Nat}(m:Mv β n F w β' n' F' w')(hb:w'.heap[b]? =w.heap[b]?)(z:Nat):(l:List (List PV))→(o:Nat)→RepR β n F w z l b o→RepR β' n' F' w' z l b o
 |[],_,_=>by simp only[RepR]
 |r::rs,o,h=>by
  simp only[RepR]at h⊢;obtain⟨⟨h1,h2⟩,h3⟩:=h;exact⟨⟨h1,RepS.mvb m hb r o h2⟩,RepR.mvb m hb z rs (o+z) h3⟩
theorem RepM.mv(m:Mv β n F w β' n' F' w'):(l:List (Value × PV))→(xs:List MapEntry)→RepM β n F w l xs→RepM β' n' F' w' l xs
 |[],[],_=>by simp only[RepM]
 |[],_::_,h=>by simp only[RepM]at h
 |_::_,[],h=>by simp only[RepM]at h
 |(k,p)::ps,v::vs,h=>by
  simp only[RepM]at h⊢;exact⟨⟨h.1.1,Rep.mv m p _ h.1.2⟩,RepM.mv m ps vs h.2⟩
end
section
variable {β β' β'':Env}{h h' h'':Heap}{w w' w'':World}
theorem Ext.refl:Ext β h w β h w:=⟨rfl,rfl,rfl,Nat.le_refl _,Nat.le_refl _,fun _ _=>rfl,rfl,fun _ _ _=>rfl,fun _ hb=>⟨hb,rfl⟩,Nat.le_refl _⟩
theorem Ext.trans(e:Ext β h w β' h' w')(f:Ext β' h' w' β'' h'' w''):Ext β h w β'' h'' w'':=
 ⟨f.os.trans e.os,f.tape.trans e.tape,f.output.trans e.output,Nat.le_trans e.size f.size,Nat.le_trans e.next f.next,
  fun id hi=>(f.beta id (Nat.lt_of_lt_of_le hi e.next)).trans (e.beta id hi),f.X.trans e.X,fun b hb hl=>(f.xh b (by rw[e.X];exact hb) (Nat.lt_of_lt_of_le hl e.size)).trans (e.xh b hb hl),fun b hb=>⟨(f.fz b (e.fz b hb).1).1,(f.fz b (e.fz b hb).1).2.trans (e.fz b hb).2⟩,Nat.le_trans e.drawn f.drawn⟩
theorem Ext.mv(e:Ext β h w β' h' w'):Mv β h.next (Fz β h w) w β' h'.next (Fz β' h' w') w':=⟨e.next,fun id hid _=>e.beta id hid,e.fz,by rw[e.X]⟩
theorem Ext.rep(e:Ext β h w β' h' w'){p:PV}{x:Value}(r:RepH β h w p x):RepH β' h' w' p x:=Rep.mv e.mv p x r
theorem Sim.drew(s:Sim β h w):Sim β h w.drew∧Ext β h w β h w.drew:=by
 have e:Ext β h w β h w.drew:=⟨rfl,rfl,rfl,Nat.le_refl _,Nat.le_refl _,fun _ _=>rfl,rfl,fun _ _ _=>rfl,fun _ hb=>⟨hb,rfl⟩,Nat.le_succ _⟩;refine⟨⟨s.lt,fun id o ho=>?_,s.inj,s.xs,s.nx,s.o0⟩,e⟩;have hk:=s.ok id o ho;cases o with
 |arr z rows=>
  simp only[ObjOk]at hk⊢;refine⟨hk.1,hk.2.imp (fun x=>x) ?_⟩;rintro⟨b,c,t,fr,h1,h2,h3,h4,h5,h6⟩;exact⟨b,c,t,fr,h1,h2,h3,h4,h5,RepR.mvb e.mv rfl z rows _ h6⟩
 |map es=>
  simp only[ObjOk]at hk⊢;obtain⟨b,fs,cl,h1,h2,h3,h4⟩:=hk;exact⟨b,fs,cl,h1,h2,RepM.mv e.mv _ _ h3,h4⟩
 |glb g lo hi=>exact hk
theorem ObjOk.mv{n n':Nat}{F F':Nat→Prop}(m:Mv β n F w β' n' F' w'){k:Blk}{o:AObj}(hb: ∀ b,k.b=some b→w'.heap[b]? =w.heap[b]?)(hk:ObjOk β n F w k o):ObjOk β' n' F' w' k o:=by
 cases o with
 |arr z rows=>
  simp only[ObjOk]at hk⊢;refine⟨hk.1,hk.2.imp (fun x=>x) ?_⟩;rintro⟨b,c,t,fr,h1,h2,h3,h4,h5,h6⟩;exact⟨b,c,t,fr,h1,by rw[hb b h1];exact h2,h3,h4,h5,RepR.mvb m (hb b h1) z rows _ h6⟩
 |map es=>
  simp only[ObjOk]at hk⊢;obtain⟨b,fs,cl,h1,h2,h3,h4⟩:=hk;exact⟨b,fs,cl,h1,by rw[hb b h1];exact h2,RepM.mv m _ _ h3,h4⟩
 |glb g lo hi=>
  simp only[ObjOk]at hk⊢;obtain⟨h1,h2,h3⟩:=hk;exact⟨h1,(m.fz g h2).1,by rw[cell?_of_heap (m.fz g h2).2];exact h3⟩
end
theorem Wk.refl{s:Slots}{h:Heap}:Wk s h s h:=fun _ _ sm=>⟨sm,Ext.refl,fun _ _ hr=>hr⟩
end Go.AM
namespace Go.AM
section
variable {β:Env}{n:Nat}{F:Nat→Prop}{w:World}
theorem RepS_iff:{l:List PV}→{b o:Nat}→(RepS β n F w l b o↔ ∀ j p,l[j]? =some p→ ∃ v,w.cell? ⟨b,o+j,none⟩=some v∧v.oneCell'=true∧Rep β n F w p v)
 |[],b,o=>by simp[RepS]
 |p::ps,b,o=>by
  simp only[RepS,RepS_iff (l:=ps)];constructor
  ·rintro ⟨h0,h1⟩ j q hq;cases j with
   |zero=>simp at hq;subst hq;simpa using h0
   |succ j=>
    have:=h1 j q (by simpa using hq)
    rwa [show o+1+j=o+(j+1) by omega]at this
  ·intro h;refine⟨by simpa using h 0 p rfl,fun j q hq=>?_⟩;have:=h (j+1) q (by simpa using hq)
   rwa [show o+(j+1)=o+1+j by omega]at this
theorem RepR_iff{z:Nat}:{l:List (List PV)}→{b o:Nat}→(RepR β n F w z l b o↔ ∀ i r,l[i]? =some r→r.length=z∧RepS β n F w r b (o+i*z))
 |[],b,o=>by simp[RepR]
 |r::rs,b,o=>by
  simp only[RepR,RepR_iff (l:=rs)];constructor
  ·rintro ⟨h0,h1⟩ j q hq;cases j with
   |zero=>simp at hq;subst hq;simpa using h0
   |succ j=>
    have:=h1 j q (by simpa using hq)
    rwa [show o+z+j*z=o+(j+1)*z by rw[Nat.succ_mul];omega]at this
  ·intro h;refine⟨by simpa using h 0 r rfl,fun j q hq=>?_⟩;have:=h (j+1) q (by simpa using hq)
   rwa [show o+(j+1)*z=o+z+j*z by rw[Nat.succ_mul];omega]at this
theorem RepL_iff:{l:List PV}→{xs:List Value}→(RepL β n F w l xs↔l.length=xs.length∧ ∀ (j:Nat)(p:PV)(v:Value),l[j]? =some p→xs[j]? =some v→Rep β n F w p v)
 |[],[]=>by simp[RepL]
 |[],_::_=>by simp[RepL]
 |_::_,[]=>by simp[RepL]
 |p::ps,v::vs=>by
  simp only[RepL,RepL_iff (l:=ps) (xs:=vs),List.length_cons];constructor
  ·rintro ⟨h0,h1,h2⟩;refine⟨by omega,fun j q u hq hu=>?_⟩;cases j with
   |zero=>simp at hq hu;subst hq;subst hu;exact h0
   |succ j=>exact h2 j q u (by simpa using hq) (by simpa using hu)
  ·rintro ⟨h1,h2⟩;exact⟨h2 0 p v rfl rfl,by omega,fun j q u hq hu=>h2 (j+1) q u (by simpa using hq) (by simpa using hu)⟩
theorem RepS.drop{l:List PV}{b o:Nat}(h:RepS β n F w l b o)(f:Nat):RepS β n F w (l.drop f) b (o+f):=by
 rw[RepS_iff]at h⊢;intro j p hp;rw[List.getElem?_drop]at hp;have:=h (f+j) p hp
 rwa [show o+(f+j)=o+f+j by omega]at this
theorem RepS.take{l:List PV}{b o:Nat}(h:RepS β n F w l b o)(f:Nat):RepS β n F w (l.take f) b o:=by
 rw[RepS_iff]at h⊢;intro j p hp;rw[List.getElem?_take]at hp;split at hp
 ·exact h j p hp
 ·simp at hp
theorem RepR.drop{z:Nat}{l:List (List PV)}{b o:Nat}(h:RepR β n F w z l b o)(f:Nat):RepR β n F w z (l.drop f) b (o+f*z):=by
 rw[RepR_iff]at h⊢;intro j p hp;rw[List.getElem?_drop]at hp;have:=h (f+j) p hp
 rwa [show o+(f+j)*z=o+f*z+j*z by rw[Nat.add_mul];omega]at this
theorem RepR.take{z:Nat}{l:List (List PV)}{b o:Nat}(h:RepR β n F w z l b o)(f:Nat):RepR β n F w z (l.take f) b o:=by
 rw[RepR_iff]at h⊢;intro j p hp;rw[List.getElem?_take]at hp;split at hp
 ·exact h j p hp
 ·simp at hp
theorem RepS.vals{l:List PV}{b o:Nat}(h:RepS β n F w l b o): ∃ xs:List Value,xs.length=l.length∧RepL β n F w l xs∧(∀ v∈xs,v.oneCell'=true)∧ ∀ j v,xs[j]? =some v→w.cell? ⟨b,o+j,none⟩=some v:=by
 induction l generalizing o with
 |nil=>exact⟨[],rfl,by simp[RepL],by simp,by simp⟩
 |cons p ps ih=>
  simp only[RepS]at h;obtain⟨⟨v,h1,h2,h3⟩,h4⟩:=h;obtain⟨xs,e1,e2,e3,e4⟩:=ih h4;refine⟨v::xs,by simp[e1],by simp only[RepL];exact⟨h3,e2⟩,by simpa using ⟨h2,e3⟩,fun j u hu=>?_⟩;cases j with
  |zero=>simp at hu;subst hu;simpa using h1
  |succ j=>have:=e4 j u (by simpa using hu);rwa [show o+1+j=o+(j+1) by omega]at this
theorem RepR.vals{z:Nat}{l:List (List PV)}{b o:Nat}(h:RepR β n F w z l b o): ∃ xs:List Value,xs.length=l.length*z∧RepL β n F w l.flatten xs∧(∀ v∈xs,v.oneCell'=true)∧ ∀ j v,xs[j]? =some v→w.cell? ⟨b,o+j,none⟩=some v:=by
 induction l generalizing o with
 |nil=>exact⟨[],by simp,by simp[RepL],by simp,by simp⟩
 |cons r rs ih=>
  simp only[RepR]at h;obtain⟨⟨hl,h1⟩,h2⟩:=h;obtain⟨ys,a1,a2,a3,a4⟩:=h1.vals;obtain⟨xs,e1,e2,e3,e4⟩:=ih h2;refine⟨ys++xs,by simp[e1,a1,hl,Nat.succ_mul];omega,?_,fun v hv=>(List.mem_append.1 hv).elim (a3 v) (e3 v),fun j u hu=>?_⟩
  ·rw [RepL_iff]at a2 e2⊢;simp only[List.flatten_cons];refine⟨by simp only[List.length_append];omega,fun j p v hp hv=>?_⟩;rw[List.getElem?_append]at hp hv;rw[a2.1]at hp;split at hp
   ·rename_i hj;rw[if_pos hj]at hv;exact a2.2 j p v hp hv
   ·rename_i hj;rw[if_neg hj]at hv;exact e2.2 _ p v hp hv
  ·rw [List.getElem?_append]at hu;split at hu
   ·exact a4 j u hu
   ·rename_i hj;have:=e4 _ u hu
    rwa [show o+z+(j-ys.length)=o+j by omega]at this
theorem RepR.of_vals{z:Nat}{b:Nat}:{l:List (List PV)}→{o:Nat}→{xs:List Value}→(∀ r∈l,r.length=z)→RepL β n F w l.flatten xs→(∀ v∈xs,v.oneCell'=true)→(∀ j v,xs[j]? =some v→w.cell? ⟨b,o+j,none⟩=some v)→RepR β n F w z l b o
 |[],_,_,_,_,_,_=>by simp[RepR]
 |r::rs,o,xs,hz,h,h1,hc=>by
  have hr:=hz r (by simp);simp only[List.flatten_cons]at h;rw[RepL_iff]at h;simp only[List.length_append]at h;simp only[RepR];refine⟨⟨hr,?_⟩,RepR.of_vals (xs:=xs.drop z) (fun q hq=>hz q (by simp[hq])) ?_ (fun v hv=>h1 v (List.mem_of_mem_drop hv)) ?_⟩
  ·rw [RepS_iff];intro j p hp;have hj:j<r.length:=(List.getElem?_eq_some_iff.1 hp).1;have hx:xs[j]? =some xs[j]:=List.getElem?_eq_getElem (by omega);exact⟨xs[j],hc j _ hx,h1 _ (List.getElem_mem _),h.2 j p _ (by rw[List.getElem?_append_left hj];exact hp) hx⟩
  ·rw [RepL_iff];refine⟨by simp only[List.length_drop];omega,fun j p v hp hv=>?_⟩;rw[List.getElem?_drop]at hv;exact h.2 (z+j) p v (by rw[List.getElem?_append_right (by omega)];rw[show z+j-r.length=j by omega];exact hp) hv
  ·intro j v hv;rw[List.getElem?_drop]at hv;have:=hc (z+j) v hv
   rwa [show o+(z+j)=o+z+j by omega]at this
theorem Rep.one{p:PV}{x:Value}(hp:oneC p=true)(h:Rep β n F w p x):x.oneCell'=true:=by
 cases p<;>simp only[Rep]at h<;>simp[oneC]at hp
 ·subst h;exact hp
 ·obtain ⟨_,b,_,rfl⟩:=h;rfl
 ·obtain ⟨b,o,_,rfl,_⟩:=h;rfl
 ·obtain ⟨_,a,cap,rfl,_⟩:=h;rfl
 ·obtain ⟨a,cap,rfl,_⟩:=h;rfl
 ·obtain ⟨a,rfl⟩:=h;rfl
 ·obtain ⟨_,b,_,rfl⟩:=h;rfl
 ·obtain ⟨_,_,rfl,_⟩:=h;rfl
 ·obtain ⟨_,_,_,_,rfl⟩:=h;rfl
 ·obtain ⟨_,_,_,_,_,rfl⟩:=h;rfl
theorem Rep.cells{p:PV}{x:Value}(hp:p.cells.all oneC=true)(h:Rep β n F w p x):RepL β n F w p.cells x.cells.toList∧ ∀ v∈x.cells.toList,v.oneCell'=true:=by
 by_cases ha: ∃ cs,p= .agg cs
 ·obtain ⟨cs,rfl⟩:=ha;simp only[Rep]at h;obtain⟨xs,rfl,h1,h2⟩:=h;exact⟨h2,h1⟩
 ·have hc:p.cells=[p]:=by cases p<;>first|rfl|exact absurd ⟨_,rfl⟩ ha
  rw[hc]at hp⊢;simp at hp;have h1:=Rep.one hp h;have hx:x.cells= #[x]:=by cases x<;>first|rfl|simp[Value.oneCell']at h1
  rw[hx];exact⟨by simp only[RepL];exact⟨h,trivial⟩,by simpa using h1⟩
theorem RepL.sc:(l:List Value)→RepL β n F w (l.map .sc) l
 |[]=>by simp[RepL]
 |v::vs=>by simp only[List.map_cons,RepL,Rep];exact⟨trivial,RepL.sc vs⟩
theorem RepL.append{l m:List PV}{xs ys:List Value}(h:RepL β n F w l xs)(k:RepL β n F w m ys):RepL β n F w (l++m) (xs++ys):=by
 rw[RepL_iff]at h k⊢;refine⟨by simp[h.1,k.1],fun j p v hp hv=>?_⟩;rw[List.getElem?_append]at hp hv;rw[h.1]at hp;split at hp
 ·rename_i hj;rw[if_pos hj]at hv;exact h.2 j p v hp hv
 ·rename_i hj;rw[if_neg hj]at hv;exact k.2 _ p v hp hv
theorem RepL.take{l:List PV}{xs:List Value}(h:RepL β n F w l xs)(f:Nat):RepL β n F w (l.take f) (xs.take f):=by
 rw[RepL_iff]at h⊢;refine⟨by simp[h.1],fun j p v hp hv=>?_⟩;rw[List.getElem?_take]at hp hv;split at hp
 ·rename_i hj;rw[if_pos hj]at hv;exact h.2 j p v hp hv
 ·simp at hp
theorem RepL.drop{l:List PV}{xs:List Value}(h:RepL β n F w l xs)(f:Nat):RepL β n F w (l.drop f) (xs.drop f):=by
 rw[RepL_iff]at h⊢;refine⟨by simp[h.1],fun j p v hp hv=>?_⟩;rw[List.getElem?_drop]at hp hv;exact h.2 _ p v hp hv
theorem RepL.len{l:List PV}{xs:List Value}(h:RepL β n F w l xs):l.length=xs.length:=(RepL_iff.1 h).1
theorem RepL.get{l:List PV}{xs:List Value}(h:RepL β n F w l xs){j:Nat}{p:PV}(hp:l[j]? =some p): ∃ v,xs[j]? =some v∧Rep β n F w p v:=by
 have hj:j<l.length:=(List.getElem?_eq_some_iff.1 hp).1;have hx:xs[j]? =some (xs[j]'(by rw[← h.len];exact hj)):=List.getElem?_eq_getElem _;exact⟨_,hx,(RepL_iff.1 h).2 j p _ hp hx⟩
end
section
variable {β β':Env}{h h':Heap}{w w':World}
theorem Sim.step(s:Sim β h w)(id0:Nat)(o0:AObj)
  (hos:w'.os=w.os)(htape:w'.tape=w.tape)(hout:w'.output=w.output)(hsize:w.heap.size≤w'.heap.size)
  (hnext:h.next≤h'.next)(hbeta: ∀ id,id<h.next→β' id=β id)
  (h0:h'.obj id0=some o0)(hlt0:id0<h'.next)
  (hold: ∀ id,id≠id0→h'.obj id=none∨h'.obj id=h.obj id)
  (hblk: ∀ b,(β' id0).b=some b→w.heap.size≤b∨ ∃ j,(h.obj j).isSome=true∧(β j).b=some b∧(j=id0∨h'.obj j=none))
  (hmem: ∀ b,b<w.heap.size→(β' id0).b≠some b→w'.heap[b]? =w.heap[b]?)
  (hok:Mv β h.next (Fz β h w) w β' h'.next (Fz β' h' w') w'→ObjOk β' h'.next (Fz β' h' w') w' (β' id0) o0)(hX:β'.X=β.X:=by rfl)(hdr:w.drawn≤w'.drawn:=by first|exact Nat.le_refl _|exact Nat.le_add_right _ _)(ho0:¬ ((h.obj id0).isSome=true∧β' id0=β id0)→(β' id0).o=0:=by first|(intro _;simp;done)|(intro hn;exfalso;refine hn ⟨?_,rfl⟩;simp[*];done)):
  Sim β' h' w'∧Ext β h w β' h' w':=by
 have hlive: ∀ id,id≠id0→(h'.obj id).isSome=true→h'.obj id=h.obj id∧(h.obj id).isSome=true∧id<h.next∧β' id=β id:=by
  intro id hne hs;rcases hold id hne with h1|h1
  ·rw [h1]at hs;simp at hs
  ·rw [h1]at hs;have:=s.lt id hs;exact⟨h1,hs,this,hbeta id this⟩
 have hxb: ∀ b,(β' id0).b=some b→¬ β.X b:=by
  intro b e hx;rcases hblk b e with h1|⟨j,hj,hjb,_⟩
  ·have:=s.xs b hx;omega
  ·exact s.nx j hj b hjb hx
 have hfz: ∀ b,Fz β h w b→Fz β' h' w' b∧w'.heap[b]? =w.heap[b]?:=by
  intro b hb;have hb0:(β' id0).b≠some b:=by
   intro e;rcases hblk b e with h1|⟨j,hj,hjb,_⟩
   ·exact absurd hb.1 (by omega)
   ·exact hb.2.1 j hj hjb
  refine⟨⟨Nat.lt_of_lt_of_le hb.1 hsize,fun id hs=>?_,by rw[hX];exact hb.2.2⟩,hmem b hb.1 hb0⟩;by_cases e:id=id0
  ·subst e;exact hb0
  ·obtain ⟨_,h2,_,h4⟩:=hlive id e hs;rw[h4];exact hb.2.1 id h2
 have m:Mv β h.next (Fz β h w) w β' h'.next (Fz β' h' w') w':=⟨hnext,fun id hid _=>hbeta id hid,hfz,by rw[hX]⟩
 have hblkne: ∀ id,id≠id0→(h'.obj id).isSome=true→ ∀ b,(β id).b=some b→(β' id0).b≠some b:=by
  intro id hne hs b hb e;obtain⟨h1,h2,h3,h4⟩:=hlive id hne hs;have hin:=s.ok id _ (Option.eq_some_of_isSome h2);have hlt:b<w.heap.size:=by
   cases hob:(h.obj id).get h2 with
   |arr z rows=>
    rw[hob]at hin;simp only[ObjOk]at hin;rcases hin.2 with⟨h5,_⟩|⟨b',c,t,fr,h5,h6,_⟩
    ·rw [h5]at hb;simp at hb
    ·rw [h5]at hb;simp at hb;subst hb;exact(Array.getElem?_eq_some_iff.1 h6).1
   |map es=>
    rw[hob]at hin;simp only[ObjOk]at hin;obtain⟨b',fs,cl,h5,h6,_⟩:=hin;rw[h5]at hb;simp at hb;subst hb;exact(Array.getElem?_eq_some_iff.1 h6).1
   |glb g lo hi=>
    rw[hob]at hin;simp only[ObjOk]at hin;rw[hin.1]at hb;simp at hb
  rcases hblk b e with h5|⟨j,hj,hjb,h5⟩
  ·omega
  ·have:=s.inj j id hj h2 b hjb hb;subst this;rcases h5 with h5|h5
   ·exact hne h5
   ·rw [h5]at hs;simp at hs
 refine⟨⟨fun id hs=>?_,fun id o ho=>?_,fun i j hi hj b hbi hbj=>?_,fun b hb=>?_,fun id hs b hb=>?_,fun id hs=>by
  by_cases e:id=id0
  ·subst e;by_cases hn:(h.obj id).isSome=true∧β' id=β id
   ·rw [hn.2];exact s.o0 id hn.1
   ·exact ho0 hn
  ·obtain ⟨_,h2,_,h4⟩:=hlive id e hs;rw[h4];exact s.o0 id h2⟩,⟨hos,htape,hout,hsize,hnext,hbeta,hX,fun b hb hl=>hmem b hl (fun e=>hxb b e hb),hfz,hdr⟩⟩
 ·by_cases e:id=id0
  ·subst e;exact hlt0
  ·exact Nat.lt_of_lt_of_le (hlive id e hs).2.2.1 hnext
 ·by_cases e:id=id0
  ·subst e;rw[h0]at ho;simp at ho;subst ho;exact hok m
  ·have hs:(h'.obj id).isSome=true:=(by rw[ho];try rfl);obtain⟨h1,h2,h3,h4⟩:=hlive id e hs;rw[h4];refine ObjOk.mv m (fun b hb=>?_) (s.ok id o (by rw[← h1];exact ho));have hne:=hblkne id e hs b hb;have hin:=s.ok id o (by rw[← h1];exact ho);have hlt:b<w.heap.size:=by
    cases o with
    |arr z rows=>
     simp only[ObjOk]at hin;rcases hin.2 with⟨h5,_⟩|⟨b',c,t,fr,h5,h6,_⟩
     ·rw [h5]at hb;simp at hb
     ·rw [h5]at hb;simp at hb;subst hb;exact(Array.getElem?_eq_some_iff.1 h6).1
    |map es=>
     simp only[ObjOk]at hin;obtain⟨b',fs,cl,h5,h6,_⟩:=hin;rw[h5]at hb;simp at hb;subst hb;exact(Array.getElem?_eq_some_iff.1 h6).1
    |glb g lo hi=>
     simp only[ObjOk]at hin;rw[hin.1]at hb;simp at hb
   exact hmem b hlt hne
 ·by_cases ei:i=id0
  ·by_cases ej:j=id0
   ·rw [ei,ej]
   ·subst ei;have:=(hlive j ej hj).2.2.2;rw[this]at hbj;exact absurd hbi (hblkne j ej hj b hbj)
  ·have h4:=(hlive i ei hi).2.2.2;rw[h4]at hbi;by_cases ej:j=id0
   ·subst ej;exact absurd hbj (hblkne i ei hi b hbi)
   ·have h5:=(hlive j ej hj).2.2.2;rw[h5]at hbj;exact s.inj i j (hlive i ei hi).2.1 (hlive j ej hj).2.1 b hbi hbj
 ·rw [hX]at hb;exact Nat.lt_of_lt_of_le (s.xs b hb) hsize
 ·rw [hX];by_cases e:id=id0
  ·subst e;exact hxb b hb
  ·obtain ⟨_,h2,_,h4⟩:=hlive id e hs;rw[h4]at hb;exact s.nx id h2 b hb
theorem Sim.kill(s:Sim β h w)(id0:Nat):Sim β (h.kill id0) w∧Ext β h w β (h.kill id0) w:=by
 have hl: ∀ id,((h.kill id0).obj id).isSome=true→(h.obj id).isSome=true∧(h.kill id0).obj id=h.obj id:=by
  intro id hs;simp only[Heap.kill]at hs⊢;split at hs
  ·simp at hs
  ·rename_i hne;exact⟨hs,by simp[hne]⟩
 have e:Ext β h w β (h.kill id0) w:=⟨rfl,rfl,rfl,Nat.le_refl _,Nat.le_refl _,fun _ _=>rfl,rfl,fun _ _ _=>rfl,fun b hb=>⟨⟨hb.1,fun id hs=>hb.2.1 id (hl id hs).1,hb.2.2⟩,rfl⟩,Nat.le_refl _⟩;refine⟨⟨fun id hs=>s.lt id (hl id hs).1,fun id o ho=>?_,fun i j hi hj=>s.inj i j (hl i hi).1 (hl j hj).1,s.xs,fun id hs=>s.nx id (hl id hs).1,fun id hs=>s.o0 id (hl id hs).1⟩,e⟩;have:=hl id (by rw[ho];try rfl);exact ObjOk.mv e.mv (fun _ _=>rfl) (s.ok id o (by rw[← this.2];exact ho))
end
end Go.AM
namespace Go.AM
section
variable {P:Program}{β β':Env}{h h':Heap}{w w':World}{s:Slots}{a:Act}
theorem pev_rep(hs: ∀ t,RepH β h w (s t) (a.tmps.getD t undef))(x:Operand):RepH β h w (pev s x) (a.eval x):=by
 cases x with
 |tmp t=>exact hs t
 |const v=>
  simp only[pev,Act.eval];cases v<;>simp only[constPV]<;>try simp only[Rep]
  split
  ·rename_i cs hc;simp only[Rep];exact⟨cs.toList,by simp,List.all_eq_true.1 hc,RepL.sc _⟩
  ·simp only[Rep]
 |global g=>simp only[pev,Act.eval,Rep]
 |func f=>simp only[pev,Act.eval,Rep]
theorem szT_info{t n:Nat}(hz:szT P t=some n): ∃ d i,P.underlying t=some d∧P.info? t=some i∧i.size=n:=by
 unfold szT at hz;split at hz
 ·rename_i d hd;cases hi:P.info? t with
  |none=>simp[hi]at hz
  |some i=>simp[hi]at hz;exact⟨d,i,hd,rfl,hz⟩
 ·simp at hz
theorem run_sizeOf{t n:Nat}(hz:szT P t=some n)(w:World):(sizeOf t).run P w= .ok n w:=by
 obtain⟨d,i,hd,hi,rfl⟩:=szT_info hz;simp[sizeOf,typeInfo,hi]
theorem run_isAgg{t:Nat}{d:TypeDesc}(hd:P.underlying t=some d)(w:World):(isAgg t).run P w= .ok (aggB P t) w:=by
 simp only[isAgg,Sem.run_bind,run_underlying hd,Result.andThen_ok,aggB,kT,hd];cases d<;>simp
theorem kT_some{t:Nat}(hk:kT P t≠0): ∃ d,P.underlying t=some d:=by
 cases hd:P.underlying t with
 |none=>simp[kT,hd]at hk
 |some d=>exact⟨d,rfl⟩
theorem elT_info{t:Nat}{zb:Nat × Nat}(hz:elT P t=some zb): ∃ e i zv,P.underlying t=some (.slice e)∧P.info? e=some i∧i.size=zb.1∧i.bytes=zb.2∧i.zero=some zv∧zv.cells.size=zb.1:=by
 unfold elT at hz;split at hz
 ·rename_i e hd;cases hi:P.info? e with
  |none=>simp[hi]at hz
  |some i=>
   cases hv:i.zero with
   |none=>simp[hi,hv]at hz
   |some zv=>
    simp only[hi,hv,Option.bind_some]at hz;split at hz
    ·rename_i hsz;simp at hz;subst hz;exact⟨e,i,zv,hd,hi,rfl,rfl,hv,hsz⟩
    ·simp at hz
 ·simp at hz
theorem arT_info{t:Nat}{na:Nat × Nat}(hz:arT P t=some na): ∃ e i,P.underlying t=some (.array na.1 e)∧P.info? e=some i∧i.size=na.2:=by
 unfold arT at hz;split at hz
 ·rename_i n e hd;cases hi:P.info? e with
  |none=>simp[hi]at hz
  |some i=>simp[hi]at hz;exact⟨e,i,by rw[hd, ← hz],hi,by rw[← hz]⟩
 ·simp at hz
theorem zeroT_info{t:Nat}{z:List Value}(hz:zeroT P t=some z): ∃ i v,P.info? t=some i∧i.zero=some v∧v.cells.toList=z∧ ∀ x∈z,x.oneCell'=true:=by
 unfold zeroT at hz;cases hi:P.info? t with
 |none=>simp[hi]at hz
 |some i=>
  cases hv:i.zero with
  |none=>simp[hi,hv]at hz
  |some v=>
   simp only[hi,hv,Option.bind_some]at hz;split at hz
   ·rename_i ha;simp at hz;subst hz;exact⟨i,v,rfl,hv,rfl,List.all_eq_true.1 ha⟩
   ·simp at hz
theorem elZ_info{t:Nat}{z:List Value}(hz:elZ P t=some z): ∃ e i v,P.underlying t=some (.slice e)∧P.info? e=some i∧i.zero=some v∧v.cells.toList=z∧ ∀ x∈z,x.oneCell'=true:=by
 unfold elZ at hz;split at hz
 ·rename_i e hd;obtain⟨i,v,h1,h2,h3,h4⟩:=zeroT_info hz;exact⟨e,i,v,hd,h1,h2,h3,h4⟩
 ·simp at hz
theorem fldT_info{t f:Nat}{o:Nat × Nat × Bool}(ho:fldT P t f=some o): ∃ fs fd,P.underlying t=some (.struct fs)∧fs[f]? =some fd∧szT P fd.type=some o.2.1∧fd.offset=o.1∧aggB P fd.type=o.2.2:=by
 unfold fldT at ho;split at ho
 ·rename_i fs hd;cases hf:fs[f]? with
  |none=>simp[hf]at ho
  |some fd=>
   cases hz:szT P fd.type with
   |none=>simp[hf,hz]at ho
   |some n=>simp[hf,hz]at ho;subst ho;exact⟨fs,fd,hd,hf,hz,rfl,rfl⟩
 ·simp at ho
theorem rd_sound(sm:Sim β h w){p:PV}{x:Value}{cs:List PV}(hr:rd h p=some cs)(hx:RepH β h w p x):
  ∃ b o,x= .pointer (some ⟨b,o,none⟩)∧RepS β h.next (Fz β h w) w cs b o:=by
 cases p with
 |ptr id i f=>
  simp only[rd]at hr;split at hr
  ·rename_i z rows hob;cases hri:rows[i]? with
   |none=>simp[hri]at hr
   |some r=>
    simp[hri]at hr;subst hr;have hok:=sm.ok id _ hob;simp only[ObjOk]at hok;simp only[RepH,Rep]at hx;obtain⟨_,b,hb,rfl⟩:=hx;rcases hok.2 with⟨_,h2⟩|⟨b',c,t,fr,h5,h6,h7,h8,h9,h10⟩
    ·subst h2;simp at hri
    ·rw [hb]at h5;simp at h5;subst h5;refine⟨b,_,rfl,?_⟩;rw[hok.1];exact((RepR_iff.1 h10) i r hri).2.drop f
  ·simp at hr
 |cptr l=>
  simp only[rd,Option.some.injEq]at hr;subst hr;simp only[RepH,Rep]at hx;obtain⟨b,o,_,rfl,h3⟩:=hx;exact⟨b,o,rfl,h3⟩
 |sc v=>
  unfold rd at hr;split at hr<;>(try(rename_i hv;cases hv))<;>(try(simp at hr;done));rename_i g;split at hr
  ·rename_i g' lo hi hob;split at hr
   ·rename_i hg;subst hg;simp at hr;subst hr;simp only[RepH,Rep]at hx;subst hx;have hok:=sm.ok _ _ hob;simp only[ObjOk]at hok;obtain⟨_,_,i,h1,h2,h3⟩:=hok;exact⟨g',0,rfl,by simp only[RepS];exact⟨⟨_,h3,rfl,by simp only[Rep];exact⟨i,h1,h2,by simp,rfl⟩⟩,trivial⟩⟩
   ·simp at hr
  ·simp at hr
 |_=>simp[rd]at hr
theorem loadCells_sound{cs:List PV}{b o:Nat}{n:Nat}{F:Nat→Prop}(hc:RepS β n F w cs b o):
  ∃ xs:List Value,(loadCells ⟨b,o,none⟩ cs.length).run P w= .ok xs.toArray w∧RepL β n F w cs xs∧ ∀ v∈xs,v.oneCell'=true:=by
 obtain⟨xs,h1,h2,h3,h4⟩:=hc.vals;refine⟨xs,?_,h2,h3⟩;rw[← h1];exact run_loadCells_list w ⟨b,o,none⟩ xs (fun j v hv=>by rw[Addr.add_lit];exact h4 j v hv)
theorem loadVar_sound{t n:Nat}{cs:List PV}{v:PV}{b o m:Nat}{F:Nat→Prop}(hz:szT P t=some n)(hv:mkV (aggB P t) n cs=some v)(hc:RepS β m F w cs b o):
  ∃ xv,(loadVar t ⟨b,o,none⟩).run P w= .ok xv w∧Rep β m F w v xv:=by
 obtain⟨d,i,hd,hi,hn⟩:=szT_info hz;unfold mkV at hv;by_cases ha:aggB P t=true
 ·rw [ha]at hv;simp only[if_true]at hv;split at hv
  ·rename_i hle;simp only[Option.some.injEq]at hv;subst hv;obtain⟨xs,h1,h2,h3⟩:=loadCells_sound (P:=P) (hc.take n);have hl:(cs.take n).length=n:=(by simp;omega);rw[hl]at h1;refine⟨.agg xs.toArray,?_,?_⟩
   ·simp [loadVar,run_isAgg hd,ha,run_sizeOf hz,h1]
   ·simp only[Rep];exact⟨xs,rfl,h3,h2⟩
  ·simp at hv
 ·simp only[ha]at hv;simp only[Bool.false_eq_true,if_false]at hv;cases cs with
  |nil=>simp at hv
  |cons c cs=>
   simp at hv;subst hv;simp only[RepS]at hc;obtain⟨⟨xv,h1,h2,h3⟩,_⟩:=hc;refine⟨xv,?_,h3⟩;have ha':aggB P t=false:=(by simpa using ha);simp[loadVar,run_isAgg hd,ha',h1]
theorem Sim.blk_lt(sm:Sim β h w){id b:Nat}{o:AObj}(ho:h.obj id=some o)(hb:(β id).b=some b):b<w.heap.size:=by
 have hin:=sm.ok id o ho;cases o with
 |arr z rows=>
  simp only[ObjOk]at hin;rcases hin.2 with⟨h5,_⟩|⟨b',c,t,fr,h5,h6,_⟩
  ·rw [h5]at hb;simp at hb
  ·rw [h5]at hb;simp at hb;subst hb;exact(Array.getElem?_eq_some_iff.1 h6).1
 |map es=>
  simp only[ObjOk]at hin;obtain⟨b',fs,cl,h5,h6,_⟩:=hin;rw[h5]at hb;simp at hb;subst hb;exact(Array.getElem?_eq_some_iff.1 h6).1
 |glb g lo hi=>
  simp only[ObjOk]at hin;rw[hin.1]at hb;simp at hb
theorem Sim.junk(sm:Sim β h w)(o:Obj):Sim β h (w.alloc o)∧Ext β h w β h (w.alloc o)∧Fz β h (w.alloc o) w.heap.size:=by
 have e:Ext β h w β h (w.alloc o):=⟨rfl,rfl,rfl,by simp,Nat.le_refl _,fun _ _=>rfl,rfl,fun b _ hl=>heap_alloc_old w _ hl,fun b hb=>⟨⟨by have:=hb.1;simp;omega,hb.2⟩,heap_alloc_old w _ hb.1⟩,Nat.le_refl _⟩;refine⟨⟨sm.lt,fun id o' ho=>ObjOk.mv e.mv (fun b hbb=>heap_alloc_old w _ (sm.blk_lt ho hbb)) (sm.ok id o' ho),sm.inj,fun b hb=>by have:=sm.xs b hb;simp;omega,sm.nx,sm.o0⟩,e,⟨by simp,fun id hid hbb=>?_,fun hx=>by have:=sm.xs _ hx;omega⟩⟩;have:=sm.blk_lt (Option.eq_some_of_isSome hid) hbb;omega
def RowsAt(β:Env)(n:Nat)(F:Nat→Prop)(w:World)(z:Nat)(rows:List (List PV))(c:Array Value):Prop:=
 ∀ (i:Nat)(r:List PV),rows[i]? =some r→r.length=z∧ ∀ (j:Nat)(p:PV),r[j]? =some p→ ∃ v,c[i*z+j]? =some v∧v.oneCell'=true∧Rep β n F w p v
theorem RowsAt.rep{n n':Nat}{F F':Nat→Prop}{z b:Nat}{rows:List (List PV)}{c:Array Value}{e:TypeId}{fr:Nat × Nat}(hr:RowsAt β n F w z rows c)(m:Mv β n F w β' n' F' w')(hb:w'.heap[b]? =some (.cells c e fr)):RepR β' n' F' w' z rows b 0:=by
 rw[RepR_iff];intro i r hi;obtain⟨h1,h2⟩:=hr i r hi;refine⟨h1,?_⟩;rw[RepS_iff];intro j p hp;obtain⟨v,h3,h4,h5⟩:=h2 j p hp;exact⟨v,by rw[cell_of_row _ _ _ c e fr hb,Nat.zero_add];exact h3,h4,Rep.mv m p v h5⟩
theorem Sim.newRows(sm:Sim β h w)(z:Nat)(rows:List (List PV))(c:Array Value)(e:TypeId)(hr:RowsAt β h.next (Fz β h w) w z rows c)(hlen:rows.length*z≤c.size):
  Sim ⟨fun id=>if id=h.next then⟨some w.heap.size,0,z,c.size⟩else β id,β.X⟩ (h.new (.arr z rows)) (w.alloc (.cells c e))∧
  Ext β h w ⟨fun id=>if id=h.next then⟨some w.heap.size,0,z,c.size⟩else β id,β.X⟩ (h.new (.arr z rows)) (w.alloc (.cells c e)):=by
 refine Sim.step sm h.next (.arr z rows) rfl rfl rfl (by simp) (by simp[Heap.new]) (fun id hid=>by simp;intro e;omega) (by simp[Heap.new]) (by simp[Heap.new]) (fun id hne=> .inr (by simp[Heap.new,hne])) (fun b hb=> .inl (by simp at hb;omega)) (fun b hb _=>heap_alloc_old w _ hb) (fun m=>?_)
 simp only[ObjOk,if_true];exact⟨trivial,.inr ⟨w.heap.size,c,e,(0,0),rfl,heap_alloc_new w _,rfl,by omega,fun i _=>by simp,hr.rep m (heap_alloc_new w _)⟩⟩
theorem RowsAt.of_flat{n:Nat}{F:Nat→Prop}{z:Nat}{c:Array Value}:{rows:List (List PV)}→{xs:List Value}→(∀ r∈rows,r.length=z)→RepL β n F w rows.flatten xs→(∀ v∈xs,v.oneCell'=true)→(∀ (j:Nat)(v:Value),xs[j]? =some v→c[j]? =some v)→RowsAt β n F w z rows c:=by
 intro rows xs hz hrep h1 hc i r hi;have hil:i<rows.length:=(List.getElem?_eq_some_iff.1 hi).1;refine⟨hz r (List.mem_of_getElem? hi),fun j p hp=>?_⟩;have hjl:j<r.length:=(List.getElem?_eq_some_iff.1 hp).1;have hflat:rows.flatten[i*z+j]? =some p:=by
  clear hrep h1 hc
  induction rows generalizing i with
  |nil=>simp at hil
  |cons r0 rs ih=>
   have hr0:=hz r0 (by simp);simp only[List.flatten_cons];cases i with
   |zero=>
    simp at hi;subst hi;rw[Nat.zero_mul,Nat.zero_add,List.getElem?_append_left hjl];exact hp
   |succ i=>
    rw[List.getElem?_append_right (by rw[Nat.succ_mul];omega)];rw[show(i+1)*z+j-r0.length=i*z+j by rw[Nat.succ_mul];omega];exact ih (fun q hq=>hz q (by simp[hq])) i (by simpa using hi) (by simpa using hil)
 obtain⟨v,hv,hr⟩:=hrep.get hflat;exact⟨v,hc _ v hv,h1 v (List.mem_of_getElem? hv),hr⟩
theorem Sim.newArr(sm:Sim β h w)(z:Nat)(rows:List (List PV))(c:Array Value)(e:TypeId)(xs:List Value)(hz: ∀ r∈rows,r.length=z)
  (hrep:RepL β h.next (Fz β h w) w rows.flatten xs)(h1: ∀ v∈xs,v.oneCell'=true)(hc: ∀ (j:Nat)(v:Value),xs[j]? =some v→c[j]? =some v)(hlen:rows.length*z≤c.size):
  Sim ⟨fun id=>if id=h.next then⟨some w.heap.size,0,z,c.size⟩else β id,β.X⟩ (h.new (.arr z rows)) (w.alloc (.cells c e))∧
  Ext β h w ⟨fun id=>if id=h.next then⟨some w.heap.size,0,z,c.size⟩else β id,β.X⟩ (h.new (.arr z rows)) (w.alloc (.cells c e)):=
 Sim.newRows sm z rows c e (RowsAt.of_flat hz hrep h1 hc) hlen
theorem Sim.newNone(sm:Sim β h w)(z:Nat):
  Sim ⟨fun id=>if id=h.next then⟨none,0,z,0⟩else β id,β.X⟩ (h.new (.arr z [])) w∧
  Ext β h w ⟨fun id=>if id=h.next then⟨none,0,z,0⟩else β id,β.X⟩ (h.new (.arr z [])) w:=by
 refine Sim.step sm h.next (.arr z []) rfl rfl rfl (Nat.le_refl _) (by simp[Heap.new]) (fun id hid=>by simp;intro e;omega) (by simp[Heap.new]) (by simp[Heap.new]) (fun id hne=> .inr (by simp[Heap.new,hne])) (fun b hb=>by simp at hb) (fun b _ _=>rfl) (fun m=>?_)
 simp[ObjOk]
theorem run_newVar(t:TypeId)(x:Value)(w:World):(newVar t x).run P w= .ok ⟨w.heap.size,0,none⟩ (w.alloc (.cells x.cells t)):=by
 simp[newVar,newRow]
theorem newVar_sound(sm:Sim β h w)(t:TypeId)(x:Value)(cs:List PV)(hx:RepL β h.next (Fz β h w) w cs x.cells.toList)(h1: ∀ v∈x.cells.toList,v.oneCell'=true):
  ∃ β',Sim β' (h.new (.arr cs.length [cs])) (w.alloc (.cells x.cells t))∧Ext β h w β' (h.new (.arr cs.length [cs])) (w.alloc (.cells x.cells t))∧
   RepH β' (h.new (.arr cs.length [cs])) (w.alloc (.cells x.cells t)) (.ptr h.next 0 0) (.pointer (some ⟨w.heap.size,0,none⟩)):=by
 have hl:=hx.len;obtain⟨a1,a2⟩:=Sim.newArr sm cs.length [cs] x.cells t x.cells.toList (by simp) (by simpa using hx) h1 (fun j v hv=>by simpa using hv) (by simp at hl⊢;omega);refine⟨_,a1,a2,?_⟩;simp[RepH,Rep,Heap.new]
theorem newConst_sound(sm:Sim β h w)(t:TypeId)(x:Value)(cs:List PV)(hx:RepL β h.next (Fz β h w) w cs x.cells.toList)(h1: ∀ v∈x.cells.toList,v.oneCell'=true):
  Sim β h (w.alloc (.cells x.cells t))∧Ext β h w β h (w.alloc (.cells x.cells t))∧
   RepH β h (w.alloc (.cells x.cells t)) (.cptr cs) (.pointer (some ⟨w.heap.size,0,none⟩)):=by
 obtain⟨s1,e,hF⟩:=sm.junk (.cells x.cells t);refine⟨s1,e,?_⟩;simp only[RepH,Rep];refine⟨w.heap.size,0,hF,rfl,?_⟩
 ·rw [RepS_iff];intro j p hp;obtain⟨v,hv,hr⟩:=hx.get hp;refine⟨v,?_,h1 v (List.mem_of_getElem? hv),Rep.mv e.mv p v hr⟩;rw[cell_of_row _ _ _ _ _ (0,0) (heap_alloc_new w _),Nat.zero_add];simpa using hv
end
end Go.AM
namespace Go.AM
section
variable {P:Program}{β β':Env}{h h':Heap}{w w':World}{s:Slots}{a:Act}
theorem setCell_setRow(w:World)(g o:Nat)(cur:Array Value)(t:TypeId)(fr:Nat × Nat)(v:Value)(hg:w.heap[g]? =some (.cells cur t fr)):
  w.setCell ⟨g,o,none⟩ v=w.setRow g (cur.setIfInBounds o v):=by
 have hlt:g<w.heap.size:=(Array.getElem?_eq_some_iff.1 hg).1;have hv:w.heap[g]= .cells cur t fr:=(Array.getElem?_eq_some_iff.1 hg).2;unfold World.setCell World.setRow;congr 1;apply Array.ext
 ·simp
 ·intro i h1 h2;simp only[Array.getElem_modify];split
  ·rename_i hgi;subst hgi;simp[hv]
  ·rfl
theorem run_store_row(g o:Nat)(t:TypeId)(fr:Nat × Nat): ∀ (vs:List Value)(i:Nat)(cur:Array Value)(w:World),w.heap[g]? =some (.cells cur t fr)→o+i+vs.length≤cur.size→
  (∀ j,j<cur.size→¬ (fr.1≤j∧j<fr.2))→(∀ v∈vs,v.oneCell'=true)→
  (storeCells ⟨g,o,none⟩ vs i).run P w= .ok () (w.setRow g (cur.toList.take (o+i)++vs++cur.toList.drop (o+i+vs.length)).toArray)
 |[],i,cur,w,hg,_,_,_=>by
  simp only[storeCells,List.append_nil,List.length_nil,Nat.add_zero,List.take_append_drop,Array.toArray_toList];rw[setRow_self w g cur t fr hg];try rfl
 |v::rest,i,cur,w,hg,hl,hf,h1=>by
  have hi:o+i<cur.size:=by simp at hl;omega
  have hcell:w.cell? ⟨g,o+i,none⟩=some cur[o+i]:=by simp[World.cell?,hg,hi]
  have hfro:w.frozen? ⟨g,o+i,none⟩=false:=by
   have:=hf (o+i) hi;cases hd:w.frozen? ⟨g,o+i,none⟩with
   |false=>rfl
   |true=>simp[World.frozen?,hg]at hd;exact absurd hd this
  have hst:(store ((⟨g,o,none⟩:Addr).add i) v).run P w= .ok () (w.setRow g (cur.setIfInBounds (o+i) v)):=by
   rw[Addr.add_lit,run_store P w _ v _ (h1 v (by simp)),hcell];simp[hfro,setCell_setRow w g (o+i) cur t fr v hg]
  have ih:=run_store_row g o t fr rest (i+1) (cur.setIfInBounds (o+i) v) (w.setRow g (cur.setIfInBounds (o+i) v)) (setRow_heap w g cur _ t _ hg) (by simp at hl⊢;omega) (by simpa using hf) (fun x hx=>h1 x (by simp[hx]));simp only[storeCells,Sem.run_bind,hst,Result.andThen_ok,ih,setRow_setRow];congr 3;have e:=list_seg_step cur.toList (o+i) v rest (by simp at hl⊢;omega);simpa[Array.toList_setIfInBounds,Nat.add_assoc]using e
theorem seg_get{α:Type}(l m:List α)(o j:Nat)(ho:o+m.length≤l.length):(l.take o++m++l.drop (o+m.length))[j]? =if o≤j∧j<o+m.length then m[j-o]? else l[j]?:=by
 rw[List.append_assoc,List.getElem?_append,List.length_take,Nat.min_eq_left (by omega)];by_cases h1:j<o
 ·rw [if_pos h1,if_neg (by omega),List.getElem?_take,if_pos h1]
 ·rw [if_neg h1,List.getElem?_append];by_cases h2:j<o+m.length
  ·rw [if_pos (by omega),if_pos (by omega)]
  ·rw [if_neg (by omega),if_neg (by omega),List.getElem?_drop];congr 1;omega
theorem seg_len{α:Type}(l m:List α)(o:Nat)(ho:o+m.length≤l.length):(l.take o++m++l.drop (o+m.length)).length=l.length:=by
 simp only[List.length_append,List.length_take,List.length_drop];omega
theorem putC_get(r vc:List PV)(f j:Nat)(hf:f+vc.length≤r.length):(putC r f vc)[j]? =if f≤j∧j<f+vc.length then vc[j-f]? else r[j]?:=seg_get r vc f j hf
theorem putC_len(r vc:List PV)(f:Nat)(hf:f+vc.length≤r.length):(putC r f vc).length=r.length:=seg_len r vc f hf
theorem two_rows{z i i' f j n:Nat}(hne:i≠i')(hf:f+n≤z)(hj:j<z):¬ (i*z+f≤i'*z+j∧i'*z+j<i*z+f+n):=by
 intro⟨h1,h2⟩;rcases Nat.lt_or_gt_of_ne hne with h3|h3
 ·have:(i+1)*z≤i'*z:=Nat.mul_le_mul_right _ h3;rw[Nat.succ_mul]at this;omega
 ·have:(i'+1)*z≤i*z:=Nat.mul_le_mul_right _ h3;rw[Nat.succ_mul]at this;omega
theorem store_sound(sm:Sim β h w){t n:Nat}{p q:PV}{x y:Value}(hz:szT P t=some n)(hn:q.cells.length=n)(hone:q.cells.all oneC=true)
  (hw:wr h q.cells p=some h')(hx:RepH β h w p x)(hy:RepH β h w q y):
  ∃ w',(Instr.storeAt t x y).run P w= .ok () w'∧Sim β h' w'∧Ext β h w β h' w':=by
 cases p with
 |ptr id i f=>
  simp only[wr]at hw;split at hw
  ·rename_i z rows hob;split at hw
   ·rename_i r hri;split at hw
    ·rename_i hfit;simp only[Option.some.injEq]at hw;subst hw;obtain⟨hyl,hy1⟩:=Rep.cells hone hy;have hok:=sm.ok id _ hob;simp only[ObjOk]at hok;simp only[RepH,Rep]at hx;obtain⟨hid,b,hb,rfl⟩:=hx;rcases hok.2 with⟨_,h2⟩|⟨b',c,e,fr,h5,h6,h7,h8,h9,h10⟩
     ·subst h2;simp at hri
     ·rw [hb]at h5;simp at h5;subst h5;rw[hok.1];have hri':=(RepR_iff.1 h10) i r hri;have hilt:i<rows.length:=(List.getElem?_eq_some_iff.1 hri).1;have hle:(i+1)*z≤rows.length*z:=Nat.mul_le_mul_right _ hilt;rw[Nat.succ_mul]at hle;have hvl:=hyl.len;have hst:=run_store_row (P:=P) b ((β id).o+i*z+f) e fr y.cells.toList 0 c w h6 (by rw[h7, ← hvl];omega) h9 hy1;simp only[Nat.add_zero]at hst;refine⟨w.setRow b (c.toList.take ((β id).o+i*z+f)++y.cells.toList++c.toList.drop ((β id).o+i*z+f+y.cells.toList.length)).toArray,?_,?_⟩
      ·have hsz:y.cells.size=n:=(by rw[← hn,hvl,Array.length_toList]);simp only[Instr.storeAt,Instr.sureAddr,Sem.run_bind,Sem.run_pure,Result.andThen_ok,storeVar,run_sizeOf hz,hsz,ne_eq,not_true_eq_false,if_false];exact hst
      ·have hfit2:(β id).o+i*z+f+y.cells.toList.length≤c.toList.length:=(by have e1:c.toList.length=c.size:=Array.length_toList;omega);refine Sim.step sm id (.arr z (rows.set i (putC r f q.cells))) rfl rfl rfl (by simp) (by simp[Heap.set]) (fun _ _=>rfl) (by simp[Heap.set]) (sm.lt id (by rw[hob];try rfl)) (fun id' hne=> .inr (by simp[Heap.set,hne])) (fun b' hb'=> .inr ⟨id,by rw[hob];try rfl,hb',.inl rfl⟩) (fun b' _ hb'=>setRow_other _ _ _ _ (fun hbe=>hb' (by rw[hbe];exact hb))) (fun m=>?_);simp only[ObjOk];refine⟨hok.1,.inr ⟨b,_,e,fr,hb,setRow_heap w b c _ e fr h6,?_,by simpa using h8,?_,?_⟩⟩
       ·rw [← h7];simp only[List.size_toArray];rw[seg_len _ _ _ hfit2,Array.length_toList]
       ·intro j hj;apply h9;simp only[List.size_toArray]at hj;rw[seg_len _ _ _ hfit2,Array.length_toList]at hj;exact hj
       ·rw [RepR_iff];intro i' r' hr';rw[List.getElem?_set]at hr';have hcell: ∀ j,((w.setRow b (c.toList.take ((β id).o+i*z+f)++y.cells.toList++c.toList.drop ((β id).o+i*z+f+y.cells.toList.length)).toArray).cell? ⟨b,j,none⟩)=if(β id).o+i*z+f≤j∧j<(β id).o+i*z+f+y.cells.toList.length then y.cells.toList[j-((β id).o+i*z+f)]? else w.cell? ⟨b,j,none⟩:=by
         intro j;rw[cell_setRow_same w b j c _ e fr h6,cell_of_row w b j c e fr h6];rw[List.getElem?_toArray,seg_get _ _ _ _ hfit2];simp
        split at hr'
        ·rename_i hie;subst hie;simp at hr';subst hr';refine⟨by rw[putC_len _ _ _ hfit];exact hri'.1,?_⟩;rw[RepS_iff];intro j p' hp';rw[putC_get _ _ _ _ hfit]at hp';rw[hcell];split at hp'
         ·rename_i hj;rw[if_pos (by rw[← hvl];omega)];obtain⟨v,hv,hr⟩:=hyl.get hp';refine⟨v,?_,hy1 v (List.mem_of_getElem? hv),Rep.mv m p' v hr⟩;rw[show(β id).o+i*z+j-((β id).o+i*z+f)=j-f by omega];exact hv
         ·rename_i hj;rw[if_neg (by rw[← hvl];omega)];obtain⟨v,hv,hv1,hr⟩:=(RepS_iff.1 hri'.2) j p' hp';exact⟨v,hv,hv1,Rep.mv m p' v hr⟩
        ·rename_i hie;have hri2:=(RepR_iff.1 h10) i' r' hr';refine⟨hri2.1,?_⟩;rw[RepS_iff];intro j p' hp';have hjz:j<z:=(by rw[← hri2.1];exact(List.getElem?_eq_some_iff.1 hp').1);have htr:=two_rows (z:=z) (f:=f) (j:=j) (n:=q.cells.length) hie (by rw[← hri'.1];exact hfit) hjz;rw[hcell,if_neg (by rw[← hvl];omega)];obtain⟨v,hv,hv1,hr⟩:=(RepS_iff.1 hri2.2) j p' hp';exact⟨v,hv,hv1,Rep.mv m p' v hr⟩
    ·simp at hw
   ·simp at hw
  ·simp at hw
 |_=>simp[wr]at hw
theorem view_sound(sm:Sim β h w){z:Nat}{p:PV}{x:Value}{rows:List (List PV)}(hv:view h p=some rows)(hzk:zOk h z p=true)(hx:RepH β h w p x):
  ∃ aa cap,x= .slice aa rows.length cap∧rows.length≤cap∧(rows=[]∨ ∃ b o,aa=some ⟨b,o,none⟩∧RepR β h.next (Fz β h w) w z rows b o):=by
 unfold view at hv;split at hv
 ·rename_i z' rows';simp at hv;subst hv;simp[zOk]at hzk;subst hzk;simp only[RepH,Rep]at hx;obtain⟨aa,cap,rfl,h2,_,h3⟩:=hx;exact⟨aa,cap,rfl,h2,h3.imp id (fun⟨b,o,_,h5,h6⟩=>⟨b,o,h5,h6⟩)⟩
 ·simp at hv;subst hv;simp only[RepH,Rep]at hx;obtain⟨aa,rfl⟩:=hx;exact⟨aa,0,rfl,Nat.le_refl _,.inl rfl⟩
 ·simp at hv;subst hv;simp only[RepH,Rep]at hx;exact⟨none,0,hx,Nat.le_refl _,.inl rfl⟩
 ·simp at hv;subst hv;simp only[RepH,Rep]at hx;exact⟨_,_,hx,Nat.zero_le _,.inl rfl⟩
 ·rename_i id off len;split at hv
  ·rename_i z' rows' hob;split at hv
   ·rename_i hle;simp at hv;subst hv;simp[zOk,hob]at hzk;subst hzk;have hl:((rows'.drop off).take len).length=len:=(by simp;omega);simp only[RepH,Rep]at hx;obtain⟨hid,aa,cap,rfl,h2,h2',h3⟩:=hx;refine⟨aa,cap,by rw[hl],by rw[hl];exact h2,?_⟩;rcases h3 with h3|⟨b,h4,h5,h6⟩
    ·left;apply List.eq_nil_of_length_eq_zero;rw[hl];omega
    ·have hok:=sm.ok id _ hob;simp only[ObjOk]at hok;rcases hok.2 with⟨h7,h8⟩|⟨b',c,e,fr,g5,g6,g7,g8,g9,g10⟩
     ·rw [h7]at h4;simp at h4
     ·rw [h4]at g5;simp at g5;subst g5;right;refine⟨b,_,h5,?_⟩;rw[hok.1];exact(g10.drop off).take len
   ·simp at hv
  ·simp at hv
 ·simp at hv
theorem firstCells_sound{z:Nat}{rows:List (List PV)}{aa:Option Addr}{cap n:Nat}{F:Nat→Prop}(hz: ∀ r∈rows,r.length=z)
  (hx:rows=[]∨ ∃ b o,aa=some ⟨b,o,none⟩∧RepR β n F w z rows b o):
  ∃ xs:List Value,(Builtin.firstCells z rows.length (.slice aa rows.length cap)).run P w= .ok xs.toArray w∧RepL β n F w rows.flatten xs∧(∀ v∈xs,v.oneCell'=true)∧xs.length=rows.length*z:=by
 rcases hx with rfl|⟨b,o,rfl,h2⟩
 ·refine ⟨[],?_,by simp[RepL],by simp,by simp⟩;cases aa with
  |none=>simp[Builtin.firstCells]
  |some aa=>simp[Builtin.firstCells,loadCells,loadCellsFrom]
 ·obtain ⟨xs,h3,h4,h5,h6⟩:=h2.vals;refine⟨xs,?_,h4,h5,h3⟩;exact run_firstCells_some w z rows.length ⟨b,o,none⟩ rows.length cap xs h3 (fun j v hv=>by rw[Addr.add_lit];exact h6 j v hv)
theorem RepR.lens{z b o n:Nat}{F:Nat→Prop}{rows:List (List PV)}(h:RepR β n F w z rows b o): ∀ r∈rows,r.length=z:=by
 intro r hr;obtain⟨i,hi⟩:=List.getElem?_of_mem hr;exact((RepR_iff.1 h) i r hi).1
theorem append_room{off:Nat}(hoff:off=0)(sm:Sim β h w){z id len:Nat}{rows new:List (List PV)}{c:Array Value}{e:TypeId}{fr:Nat × Nat}{b cap:Nat}{ys:List Value}
  (hob:h.obj id=some (.arr z rows))(hle:off+len≤rows.length)(hb:(β id).b=some b)(h6:w.heap[b]? =some (.cells c e fr))(h7:c.size=(β id).sz)
  (h9: ∀ i,i<c.size→¬ (fr.1≤i∧i<fr.2))(h10:RepR β h.next (Fz β h w) w z rows b (β id).o)(hcap:(β id).o+(off+cap)*z≤(β id).sz)(hroom:len+new.length≤cap)(hcm:cap≤maxLen)
  (hnz: ∀ r∈new,r.length=z)(hyl:RepL β h.next (Fz β h w) w new.flatten ys)(hy1: ∀ v∈ys,v.oneCell'=true)(hyn:ys.length=new.length*z):
  ∃ w' β',(storeCells ⟨b,(β id).o+off*z+len*z,none⟩ ys).run P w= .ok () w'∧Sim β' ((h.kill id).new (.arr z ((rows.drop off).take len++new))) w'∧
   Ext β h w β' ((h.kill id).new (.arr z ((rows.drop off).take len++new))) w'∧
   RepH β' ((h.kill id).new (.arr z ((rows.drop off).take len++new))) w' (.own h.next 0 (len+new.length)) (.slice (some ⟨b,(β id).o+off*z,none⟩) (len+new.length) cap):=by
 have hlen:((rows.drop off).take len).length=len:=by simp;omega
 have hm1:(off+cap)*z=off*z+cap*z:=Nat.add_mul _ _ _;have hm2:(len+new.length)*z≤cap*z:=Nat.mul_le_mul_right _ hroom;rw[Nat.add_mul]at hm2;have hfit:(β id).o+off*z+len*z+ys.length≤c.toList.length:=by have e1:c.toList.length=c.size:=Array.length_toList;omega
 have hst:=run_store_row (P:=P) b ((β id).o+off*z+len*z) e fr ys 0 c w h6 (by simpa using hfit) h9 hy1;simp only[Nat.add_zero]at hst;have hid:id<h.next:=sm.lt id (by rw[hob];try rfl)
 refine⟨_,⟨fun i=>if i=h.next then⟨some b,(β id).o+off*z,z,(β id).sz⟩else β i,β.X⟩,hst,?_⟩;rw[← and_assoc];refine⟨?_,?_⟩
 ·refine Sim.step sm h.next (.arr z ((rows.drop off).take len++new)) rfl rfl rfl (by simp) (by simp[Heap.new,Heap.kill]) (fun i hi=>by simp;intro e;omega) (by simp[Heap.new,Heap.kill]) (by simp[Heap.new,Heap.kill]) (fun i hne=>?_) (fun b' hb'=> .inr ⟨id,by rw[hob];try rfl,?_,.inr ?_⟩) (fun b' _ hb'=>setRow_other _ _ _ _ (fun hbe=>hb' (by simp[hbe]))) (fun m=>?_) rfl (Nat.le_refl _) (fun _=>by simp[hoff,sm.o0 id (by rw[hob];try rfl)])
  ·simp only[Heap.new,Heap.kill,hne,if_false];by_cases hi:i=id
   ·simp [hi]
   ·simp [hi]
  ·simp at hb';subst hb';exact hb
  ·simp only[Heap.new,Heap.kill];rw[if_neg (by omega)];simp
  ·simp only[ObjOk,if_true];refine⟨trivial,.inr ⟨b,_,e,fr,rfl,setRow_heap w b c _ e fr h6,?_,?_,?_,?_⟩⟩
   ·simp only[List.size_toArray];rw[seg_len _ _ _ hfit,Array.length_toList,h7]
   ·simp only[List.length_append,hlen];rw[Nat.add_mul];omega
   ·intro j hj;apply h9;simp only[List.size_toArray]at hj;rw[seg_len _ _ _ hfit,Array.length_toList]at hj;exact hj
   ·have hcell: ∀ j,((w.setRow b (c.toList.take ((β id).o+off*z+len*z)++ys++c.toList.drop ((β id).o+off*z+len*z+ys.length)).toArray).cell? ⟨b,j,none⟩)=if(β id).o+off*z+len*z≤j∧j<(β id).o+off*z+len*z+ys.length then ys[j-((β id).o+off*z+len*z)]? else w.cell? ⟨b,j,none⟩:=by
     intro j;rw[cell_setRow_same w b j c _ e fr h6,cell_of_row w b j c e fr h6];rw[List.getElem?_toArray,seg_get _ _ _ _ hfit];simp
    have hold:=(h10.drop off).take len;have hnew:RepR ⟨fun i=>if i=h.next then⟨some b,(β id).o+off*z,z,(β id).sz⟩else β i,β.X⟩ ((h.kill id).new (.arr z ((rows.drop off).take len++new))).next
      (Fz ⟨fun i=>if i=h.next then⟨some b,(β id).o+off*z,z,(β id).sz⟩else β i,β.X⟩ ((h.kill id).new (.arr z ((rows.drop off).take len++new))) (w.setRow b (c.toList.take ((β id).o+off*z+len*z)++ys++c.toList.drop ((β id).o+off*z+len*z+ys.length)).toArray))
      (w.setRow b (c.toList.take ((β id).o+off*z+len*z)++ys++c.toList.drop ((β id).o+off*z+len*z+ys.length)).toArray) z new b ((β id).o+off*z+len*z):=by
     refine RepR.of_vals hnz (RepL.mv m _ _ hyl) hy1 (fun j v hv=>?_);have hj:j<ys.length:=(List.getElem?_eq_some_iff.1 hv).1;rw[hcell,if_pos (by omega)];rw[show(β id).o+off*z+len*z+j-((β id).o+off*z+len*z)=j by omega];exact hv
    rw[RepR_iff]at hold hnew⊢;intro i r hr;rw[List.getElem?_append,hlen]at hr;split at hr
    ·rename_i hi;have h1:=hold i r hr;refine⟨h1.1,?_⟩;rw[RepS_iff];intro j p hp;have hjz:j<z:=(by rw[← h1.1];exact(List.getElem?_eq_some_iff.1 hp).1);have hi2:(i+1)*z≤len*z:=Nat.mul_le_mul_right _ hi;rw[Nat.succ_mul]at hi2;rw[hcell,if_neg (by omega)];obtain⟨v,hv,hv1,hr'⟩:=(RepS_iff.1 h1.2) j p hp;exact⟨v,hv,hv1,Rep.mv m p v hr'⟩
    ·rename_i hi;have h1:=hnew (i-len) r hr;have he:(β id).o+off*z+len*z+(i-len)*z=(β id).o+off*z+i*z:=by
      have:len*z+(i-len)*z=i*z:=(by rw[← Nat.add_mul];congr 1;omega);omega
     rw[he]at h1;exact h1
 ·simp only[RepH,Rep];refine⟨by simp[Heap.new,Heap.kill],_,cap,rfl,hroom,hcm,.inr ⟨b,by simp,by simp,?_⟩⟩;simp only[if_true,Nat.zero_add];omega
theorem run_append_grows(w:World)(t ty e:TypeId)(i:TypeInfo)(z:Value)(ht:P.underlying t=some (.slice e))(hi:P.info? e=some i)(hz:i.zero=some z)
  (ax ay:Option Addr)(sLen sCap n c:Nat)(olds news:List Value)
  (ho:(Builtin.firstCells i.size sLen (.slice ax sLen sCap)).run P w.drew= .ok olds.toArray w.drew)
  (hn:(Builtin.firstCells i.size n (.slice ay n c)).run P w.drew= .ok news.toArray w.drew)
  (hg:sCap<sLen+n)(h63:((sLen+n:Nat):Int)≤9223372036854775807)(hfit:Builtin.nextslicecap (sLen+n) sCap*i.bytes≤281474976710656):
  (Builtin.append_ #[t,t] ty #[.slice ax sLen sCap,.slice ay n c]).run P w=
   .ok (.slice (some ⟨w.heap.size,0,none⟩) (sLen+n) (grownCap w (sLen+n) sCap e))
    (w.drew.alloc (.cells (olds++news++(Builtin.zeroCells z.cells (grownCap w (sLen+n) sCap e-(sLen+n))).toList).toArray e)):=by
 have hn':¬ (sLen+n≤sCap):=by omega
 have h63':¬ (9223372036854775807<((sLen:Int)+(n:Int))):=by omega
 have h48':¬ (281474976710656<Builtin.nextslicecap (sLen+n) sCap*i.bytes):=by omega
 simp[Builtin.append_,run_underlying ht,sizeOf,typeInfo,zeroValue,hi,hz,Builtin.lenOf,hn',h63',h48',Question.forced,hn,ho,newRow,grownCap];congr 2;apply Array.ext';simp
theorem append_sound(sm:Sim β h w){t:Nat}{zb:Nat × Nat}{p q r:PV}{x y:Value}(ty:TypeId)(hz:elT P t=some zb)
  (ha:app zb.1 zb.2 h p q=some (r,h'))(hx:RepH β h w p x)(hy:RepH β h w q y):
  ∃ v w' β',(Builtin.append_ #[t,t] ty #[x,y]).run P w= .ok v w'∧Sim β' h' w'∧Ext β h w β' h' w'∧RepH β' h' w' r v:=by
 obtain⟨z,bytes⟩:=zb;obtain⟨e,i,zv,hu,hi,hsz,hby,hiz,hzl⟩:=elT_info hz;simp only at hsz hby hzl;unfold app at ha;simp only at ha;split at ha
 case isFalse=>simp at ha
 rename_i hcond;simp only[Bool.and_eq_true,decide_eq_true_eq]at hcond;obtain⟨⟨⟨hzp,hzq⟩,hzpos⟩,hbpos⟩:=hcond;split at ha
 case h_2=>simp at ha
 rename_i new h1 old hvq hit;split at ha
 case isFalse=>simp at ha
 rename_i hbytes;simp only[Option.some.injEq,Prod.mk.injEq]at ha;obtain⟨rfl,rfl⟩:=ha;obtain⟨aq,capq,rfl,hcapq,hq⟩:=view_sound sm hvq hzq hy;have hvp:view h p=some old∧(h1=h∨ ∃ id,h1=h.kill id):=by
  unfold isTail at hit;split at hit
  ·simp at hit;obtain⟨rfl,rfl⟩:=hit;exact⟨rfl,.inl rfl⟩
  ·simp at hit;obtain⟨rfl,rfl⟩:=hit;exact⟨rfl,.inl rfl⟩
  ·rename_i id len;split at hit
   ·rename_i z' rows hob;simp at hit;obtain⟨hle,rfl,rfl⟩:=hit;exact⟨by simp[view,hob,hle],.inr ⟨id,rfl⟩⟩
   ·simp at hit
  ·simp at hit
 obtain⟨ap,capp,hxe,hcapp,hp⟩:=view_sound sm hvp.1 hzp hx;have hnext:h1.next=h.next:=by rcases hvp.2 with rfl|⟨id,rfl⟩<;>rfl
 have hmax:old.length+new.length≤140737488355328:=Nat.le_trans (Nat.le_mul_of_pos_right _ hbpos) hbytes;have hnz: ∀ r∈new,r.length=z:=by
  rcases hq with rfl|⟨b,o,_,h3⟩
  ·simp
  ·exact h3.lens
 have hoz: ∀ r∈old,r.length=z:=by
  rcases hp with rfl|⟨b,o,_,h3⟩
  ·simp
  ·exact h3.lens
 have hkill:Sim β h1 w∧Ext β h w β h1 w:=by
  rcases hvp.2 with rfl|⟨id,rfl⟩
  ·exact ⟨sm,Ext.refl⟩
  ·exact sm.kill id
 obtain⟨ys,hyr,hyl,hy1,hyn⟩:=firstCells_sound (P:=P) (w:=w) (cap:=capq) hnz hq;by_cases hg:old.length+new.length≤capp
 ·by_cases hc0:capp=0
  ·-- nothing is there and nothing comes
   have ho:old=[]:=List.eq_nil_of_length_eq_zero (by omega);have hn:new=[]:=List.eq_nil_of_length_eq_zero (by omega);subst ho;subst hn;subst hc0;obtain⟨a1,a2⟩:=Sim.newNone hkill.1 z;have hys:ys=[]:=List.eq_nil_of_length_eq_zero (by simpa using hyn);subst hys;refine⟨.slice ap 0 0,w,_,?_,by simpa using a1,by simpa using hkill.2.trans a2,?_⟩
   ·subst hxe;simp only[List.length_nil]at hyr;have hyr':(Builtin.firstCells i.size 0 (.slice aq 0 capq)).run P w= .ok #[] w:=(by rw[hsz];exact hyr);cases ap<;>simp[Builtin.append_,run_underlying hu,sizeOf,typeInfo,hi,Builtin.lenOf,hyr',storeCells]
   ·simp only[RepH,Rep,List.length_nil,Nat.add_zero,List.append_nil];refine⟨by simp[Heap.new,hnext],ap,0,rfl,Nat.le_refl _,Nat.zero_le _,.inl rfl⟩
  ·-- there is room
   unfold isTail at hit;split at hit
   ·simp only[RepH,Rep]at hx;obtain⟨a0,rfl⟩:=hx;simp at hxe;omega
   ·simp only[RepH,Rep]at hx;rw[hx]at hxe;simp at hxe;omega
   ·rename_i id len;split at hit
    ·rename_i z' rows hob;split at hit
     ·rename_i hle;simp at hit;obtain⟨rfl,rfl⟩:=hit;have hz':z'=z:=(by simpa[zOk,hob]using hzp);subst hz';have hlen:(rows.take len).length=len:=(by simp;omega);simp only[RepH,Rep]at hx;obtain⟨hid,a1,cap1,rfl,h2,h2',h3⟩:=hx;simp only[Value.slice.injEq]at hxe;obtain⟨rfl,_,rfl⟩:=hxe;rcases h3 with h3|⟨b,h4,h5,h6⟩
      ·exact absurd h3 hc0
      ·subst h5;have hok:=sm.ok id _ hob;simp only[ObjOk]at hok;rcases hok.2 with⟨h7,h8⟩|⟨b',c,e',fr,g5,g6,g7,g8,g9,g10⟩
       ·rw [h7]at h4;simp at h4
       ·rw [h4]at g5;simp at g5;subst g5;rw[hok.1]at h6⊢;rw[hlen]at hg hmax⊢;obtain⟨w',β',q1,q2,q3,q4⟩:=append_room (P:=P) (off:=0) rfl sm hob hle h4 g6 g7 g9 g10 h6 hg h2' hnz hyl hy1 hyn;refine⟨_,w',β',?_,q2,q3,q4⟩;have hyr':(Builtin.firstCells i.size new.length (.slice aq new.length capq)).run P w= .ok ys.toArray w:=(by rw[hsz];exact hyr);simp[Builtin.append_,run_underlying hu,sizeOf,typeInfo,hi,Builtin.lenOf,hyr',hg,Addr.add_lit];rw[hsz];simp only[Nat.zero_mul,Nat.add_zero,Nat.zero_add]at q1⊢;rw[q1];try rfl
     ·simp at hit
    ·simp at hit
   ·simp at hit
 ·-- it grows
  obtain⟨d1,d2⟩:=hkill.1.drew;have hq':new=[]∨ ∃ b o,aq=some ⟨b,o,none⟩∧RepR β h.next (Fz β h w) w.drew z new b o:=by
   refine hq.imp id (fun⟨b,o,q1,q2⟩=>⟨b,o,q1,?_⟩);exact RepR.mvb (sm.drew.2.mv) rfl z new o q2
  have hp':old=[]∨ ∃ b o,ap=some ⟨b,o,none⟩∧RepR β h.next (Fz β h w) w.drew z old b o:=by
   refine hp.imp id (fun⟨b,o,q1,q2⟩=>⟨b,o,q1,?_⟩);exact RepR.mvb (sm.drew.2.mv) rfl z old o q2
  obtain⟨ys',hyr',hyl',hy1',hyn'⟩:=firstCells_sound (P:=P) (w:=w.drew) (cap:=capq) hnz hq';obtain⟨os,hor,hol,ho1,hon⟩:=firstCells_sound (P:=P) (w:=w.drew) (cap:=capp) hoz hp';have hrun:=run_append_grows (P:=P) w t ty e i zv hu hi hiz ap aq old.length capp new.length capq os ys' (by rw[hsz];exact hor) (by rw[hsz];exact hyr') (by omega) (by omega) (growslice_fits (by omega) (by rw[hby];exact hbytes));have hge:=grownCap_ge w (old.length+new.length) capp e;have hgm:grownCap w (old.length+new.length) capp e≤maxLen:=grownCap_le_maxLen w _ _ e (by simp only[maxLen];omega);have hcs:(os++ys'++(Builtin.zeroCells zv.cells (grownCap w (old.length+new.length) capp e-(old.length+new.length))).toList).toArray.size=grownCap w (old.length+new.length) capp e*z:=by
   simp only[List.size_toArray,List.length_append,hon,hyn',Array.length_toList,size_zeroCells,hzl, ← Nat.add_mul];congr 1;omega
  have hflat:RepL β h1.next (Fz β h1 w.drew) w.drew (old++new).flatten (os++ys'):=by
   rw[List.flatten_append];exact RepL.mv ⟨by omega,fun _ _ _=>rfl,fun b hb=>⟨(hkill.2.fz b hb).1,rfl⟩,rfl⟩ _ _ (RepL.append hol hyl')
  have hmm:=Nat.mul_le_mul_right z hge;obtain⟨a1,a2⟩:=Sim.newArr d1 z (old++new) (os++ys'++(Builtin.zeroCells zv.cells (grownCap w (old.length+new.length) capp e-(old.length+new.length))).toList).toArray e (os++ys')
   (fun r hr=>(List.mem_append.1 hr).elim (hoz r) (hnz r)) hflat (fun v hv=>(List.mem_append.1 hv).elim (ho1 v) (hy1' v))
   (fun j v hv => by
    rw[List.getElem?_toArray,List.getElem?_append_left (List.getElem?_eq_some_iff.1 hv).1];exact hv)
   (by rw[hcs,List.length_append];exact hmm)
  subst hxe;refine⟨_,_,_,hrun,a1,(hkill.2.trans d2).trans a2,?_⟩;simp only[RepH,Rep];refine⟨by simp[Heap.new,hnext],_,_,rfl,hge,hgm,.inr ⟨w.heap.size,by simp[hnext],by simp[hnext],?_⟩⟩;simp only[hnext,if_true,Nat.zero_add];rw[hcs];exact Nat.le_refl _
end
end Go.AM
namespace Go.AM
section
variable {P:Program}{β β':Env}{h h':Heap}{w w':World}{s:Slots}{a:Act}
theorem intP_rep{n:Nat}{F:Nat→Prop}{p:PV}{k:Int}{x:Value}(hp:intP p=some k)(hx:Rep β n F w p x): ∃ kk,x= .int kk k:=by
 cases p with
 |sc v=>cases v<;>simp[intP]at hp;subst hp;simp only[Rep]at hx;exact⟨_,hx⟩
 |_=>simp[intP]at hp
theorem idx_sound(sm:Sim β h w){t:Nat}{zb:Nat × Nat}{p q:PV}{x:Value}{k:IntKind}{n:Int}(hz:elT P t=some zb)(hi:idx h zb.1 p n=some q)(hx:RepH β h w p x):
  ∃ v,(Instr.indexAt t x (.int k n)).run P w= .ok v w∧RepH β h w q v:=by
 obtain⟨e,i,zv,hu,hin,hsz,hby,hiz,hzl⟩:=elT_info hz;unfold idx at hi;split at hi
 case isFalse=>simp at hi
 rename_i h0;have hrun: ∀ (aa:Addr)(len cap:Nat),n.toNat<len→(Instr.indexAt t (.slice (some aa) len cap) (.int k n)).run P w= .ok (.pointer (some (aa.add (n.toNat*zb.1)))) w:=by
  intro aa len cap hlt;have h1:n<(len:Int):=by omega
  simp[Instr.indexAt,asIntOf,run_underlying hu,h0,h1,sizeOf,typeInfo,hin,hsz]
 split at hi
 ·rename_i z' rows;split at hi
  case isFalse=>simp at hi
  rename_i hzz;subst hzz;cases hr:rows[n.toNat]? with
  |none=>simp[hr]at hi
  |some r=>
   simp[hr]at hi;subst hi;have hlt:n.toNat<rows.length:=(List.getElem?_eq_some_iff.1 hr).1;simp only[RepH,Rep]at hx;obtain⟨aa,cap,rfl,_,_,h3⟩:=hx;rcases h3 with rfl|⟨b,o,h4,rfl,h5⟩
   ·simp at hlt
   ·refine ⟨_,hrun _ _ _ hlt,?_⟩;rw[Addr.add_lit];simp only[RepH,Rep];exact⟨b,_,h4,rfl,((RepR_iff.1 h5) _ r hr).2⟩
 ·rename_i id off len;split at hi
  case h_2=>simp at hi
  rename_i z' rows hob;split at hi
  case isFalse=>simp at hi
  rename_i hc;simp at hi;subst hi;simp only[RepH,Rep]at hx;obtain⟨hid,aa,cap,rfl,h2,_,h3⟩:=hx;rcases h3 with h3|⟨b,h4,rfl,h6⟩
  ·omega
  ·refine ⟨_,hrun _ _ _ hc.2,?_⟩;rw[Addr.add_lit];have hok:=sm.ok id _ hob;simp only[ObjOk]at hok;simp only[RepH,Rep];refine⟨hid,b,h4,?_⟩;have hzb:(β id).z=zb.1:=(by rw[hok.1];exact hc.1);rw[hzb,Nat.add_mul,Nat.add_zero,Nat.add_assoc]
 ·simp at hi
theorem idxA_sound{t:Nat}{na:Nat × Nat}{p q:PV}{x:Value}{k:IntKind}{n:Int}(hz:arT P t=some na)(hi:idxA na.1 na.2 p n=some q)(hx:RepH β h w p x):
  ∃ v,(Instr.indexAt t x (.int k n)).run P w= .ok v w∧RepH β h w q v:=by
 obtain⟨e,i,hu,hin,hsz⟩:=arT_info hz;unfold idxA at hi;split at hi
 case isFalse=>simp at hi
 rename_i h0;have hrun: ∀ (aa:Addr),(Instr.indexAt t (.pointer (some aa)) (.int k n)).run P w= .ok (.pointer (some (aa.add (n.toNat*na.2)))) w:=by
  intro aa;simp[Instr.indexAt,asIntOf,run_underlying hu,h0.1,h0.2,sizeOf,typeInfo,hin,hsz,Instr.sureAddr]
 split at hi
 ·rename_i id r f;simp at hi;subst hi;simp only[RepH,Rep]at hx;obtain⟨hid,b,hb,rfl⟩:=hx;refine⟨_,hrun _,?_⟩;rw[Addr.add_lit];simp only[RepH,Rep];exact⟨hid,b,hb,by simp[Nat.add_assoc]⟩
 ·rename_i cs;split at hi
  case isFalse=>simp at hi
  simp at hi;subst hi;simp only[RepH,Rep]at hx;obtain⟨b,o,h1,rfl,h3⟩:=hx;refine⟨_,hrun _,?_⟩;rw[Addr.add_lit];simp only[RepH,Rep];exact⟨b,_,h1,rfl,(h3.drop _).take _⟩
 ·simp at hi
theorem fld_sound{t f:Nat}{o:Nat × Nat × Bool}{p q:PV}{x:Value}(ho:fldT P t f=some o)(hf:fldP o.1 o.2.1 p=some q)(hx:RepH β h w p x):
  ∃ v,(Instr.fieldAt t x f).run P w= .ok v w∧RepH β h w q v:=by
 obtain⟨fs,fd,hu,hfd,hsz,hof,hag⟩:=fldT_info ho;have hrun: ∀ aa:Addr,0<o.2.1→(Instr.fieldAt t (.pointer (some aa)) f).run P w= .ok (.pointer (some (aa.add o.1))) w:=by
  intro aa hpos;simp[Instr.fieldAt,run_underlying hu,hfd,Instr.sureAddr,fieldPlace,run_sizeOf hsz,hof];intro h0;omega
 unfold fldP at hf;split at hf
 ·rename_i id i c;split at hf
  case isFalse=>simp at hf
  rename_i hpos;simp at hf;subst hf;simp only[RepH,Rep]at hx;obtain⟨hid,b,hb,rfl⟩:=hx;refine⟨_,hrun _ hpos,?_⟩;rw[Addr.add_lit];simp only[RepH,Rep];exact⟨hid,b,hb,by simp[Nat.add_assoc]⟩
 ·rename_i cs;split at hf
  case isFalse=>simp at hf
  rename_i hc;simp at hf;subst hf;simp only[RepH,Rep]at hx;obtain⟨b,oo,h1,rfl,h3⟩:=hx;refine⟨_,hrun _ hc.1,?_⟩;rw[Addr.add_lit];simp only[RepH,Rep];exact⟨b,_,h1,rfl,(h3.drop _).take _⟩
 ·simp at hf
theorem field_sound{t f:Nat}{o:Nat × Nat × Bool}{cs:List PV}{v:PV}{x:Value}(ho:fldT P t f=some o)(hv:mkV o.2.2 o.2.1 (cs.drop o.1)=some v)(hx:RepH β h w (.agg cs) x):
  ∃ u,(Instr.field t x f).run P w= .ok u w∧RepH β h w v u:=by
 obtain⟨fs,fd,hu,hfd,hsz,hof,hag⟩:=fldT_info ho;obtain⟨d,i,hd,hi,hn⟩:=szT_info hsz;simp only[RepH,Rep]at hx;obtain⟨xs,rfl,h1,h2⟩:=hx;have hlen:=h2.len;unfold mkV at hv;rw[← hag]at hv;by_cases ha:aggB P fd.type=true
 ·rw [if_pos ha]at hv;split at hv
  case isFalse=>simp at hv
  simp at hv;subst hv;refine⟨.agg ((xs.drop o.1).take o.2.1).toArray,?_,?_⟩
  ·simp [Instr.field,run_underlying hu,hfd,part,run_isAgg hd,ha,run_sizeOf hsz,asAgg,hof,List.extract_eq_take_drop]
  ·simp only[RepH,Rep];exact⟨_,rfl,fun u hu=>h1 u (List.mem_of_mem_drop (List.mem_of_mem_take hu)),(h2.drop _).take _⟩
 ·have ha':aggB P fd.type=false:=by simpa using ha
  rw[ha']at hv;simp only[Bool.false_eq_true,if_false]at hv;rw[List.head?_eq_getElem?,List.getElem?_drop]at hv;obtain⟨u,hu',hr⟩:=h2.get hv;refine⟨u,?_,hr⟩;simp at hu';simp[Instr.field,run_underlying hu,hfd,part,run_isAgg hd,ha',asAgg,hof,hu']
theorem arE_info{t:Nat}{na:Nat × Nat × Bool}(h:arE P t=some na): ∃ e,P.underlying t=some (.array na.1 e)∧szT P e=some na.2.1∧aggB P e=na.2.2:=by
 unfold arE at h;split at h
 ·rename_i n e hu;simp only[Option.map_eq_some_iff]at h;obtain⟨z,hz,rfl⟩:=h;exact⟨e,hu,hz,rfl⟩
 ·simp at h
theorem indexV_sound{t:Nat}{na:Nat × Nat × Bool}{cs:List PV}{v:PV}{x:Value}{k:IntKind}{n:Int}(ho:arE P t=some na)(h0:0≤n∧n<na.1)(hv:mkV na.2.2 na.2.1 (cs.drop (n.toNat*na.2.1))=some v)(hx:RepH β h w (.agg cs) x):
  ∃ u,(Instr.index t x (.int k n)).run P w= .ok u w∧RepH β h w v u:=by
 obtain⟨e,hu,hsz,hag⟩:=arE_info ho;obtain⟨d,i,hd,hi,hn⟩:=szT_info hsz;simp only[RepH,Rep]at hx;obtain⟨xs,rfl,h1,h2⟩:=hx;have hlen:=h2.len;unfold mkV at hv;rw[← hag]at hv;by_cases ha:aggB P e=true
 ·rw [if_pos ha]at hv;split at hv
  case isFalse=>simp at hv
  simp at hv;subst hv;refine⟨.agg ((xs.drop (n.toNat*na.2.1)).take na.2.1).toArray,?_,?_⟩
  ·simp [Instr.index,asIntOf,run_underlying hu,h0.1,h0.2,part,run_isAgg hd,ha,run_sizeOf hsz,asAgg,List.extract_eq_take_drop]
  ·simp only[RepH,Rep];exact⟨_,rfl,fun u hu=>h1 u (List.mem_of_mem_drop (List.mem_of_mem_take hu)),(h2.drop _).take _⟩
 ·have ha':aggB P e=false:=by simpa using ha
  rw[ha']at hv;simp only[Bool.false_eq_true,if_false]at hv;rw[List.head?_eq_getElem?,List.getElem?_drop]at hv;obtain⟨u,hu',hr⟩:=h2.get hv;refine⟨u,?_,hr⟩;simp at hu';simp[Instr.index,asIntOf,run_underlying hu,h0.1,h0.2,part,run_isAgg hd,ha',run_sizeOf hsz,asAgg,hu']
theorem oInt_rep(hs: ∀ t,RepH β h w (s t) (a.tmps.getD t undef)){x:Option Operand}{r:Option Int}(hx:oInt (pev s) x=some r):
  (x=none∧r=none)∨ ∃ y k kk,x=some y∧r=some k∧a.eval y= .int kk k:=by
 cases x with
 |none=>simp[oInt]at hx;exact .inl ⟨rfl,hx.symm⟩
 |some y=>
  simp only[oInt]at hx;cases hk:intP (pev s y)with
  |none=>simp[hk]at hx
  |some k=>
   simp[hk]at hx;obtain⟨kk,he⟩:=intP_rep hk (pev_rep hs y);exact .inr ⟨y,k,kk,rfl,hx.symm,he⟩
theorem run_bounds(w:World)(isS:Bool)(len cap:Nat)(lo hi:Option Operand)(al bl:Option Int)(hlo:(lo=none∧al=none)∨ ∃ y k kk,lo=some y∧al=some k∧a.eval y= .int kk k)
  (hhi:(hi=none∧bl=none)∨ ∃ y k kk,hi=some y∧bl=some k∧a.eval y= .int kk k)(hlc:len≤cap)(h0:0≤al.getD 0)(h1:al.getD 0≤bl.getD (len:Int))(h2:bl.getD (len:Int)≤(len:Int)):
  (Instr.sliceBounds isS len cap (lo.map a.eval) (hi.map a.eval) none).run P w= .ok ((al.getD 0).toNat,(bl.getD (len:Int)).toNat,cap) w:=by
 rcases hlo with⟨rfl,rfl⟩|⟨y,k,kk,rfl,rfl,hy⟩<;>rcases hhi with⟨rfl,rfl⟩|⟨y',k',kk',rfl,rfl,hy'⟩
 ·simp [Instr.sliceBounds]
 ·simp at h0 h1 h2;have e1:(k':Int)≤(cap:Int):=by omega
  simp[Instr.sliceBounds,hy',Instr.sliceBound,asIntOf,h1,e1]
 ·simp at h0 h1 h2;simp[Instr.sliceBounds,hy,Instr.sliceBound,asIntOf,h0,h1]
 ·simp at h0 h1 h2;have e1:(k':Int)≤(cap:Int):=by omega
  have e2:(0:Int)≤k':=by omega
  have e3:k≤max k' 0:=by omega
  simp[Instr.sliceBounds,hy,hy',Instr.sliceBound,asIntOf,h0,e1,e2,e3]
theorem slice_sound(sm:Sim β h w){t:Nat}{zb:Nat × Nat}{p q:PV}{x:Value}{lo hi:Option Operand}{al bl:Option Int}(hz:elT P t=some zb)
  (hlo:(lo=none∧al=none)∨ ∃ y k kk,lo=some y∧al=some k∧a.eval y= .int kk k)(hhi:(hi=none∧bl=none)∨ ∃ y k kk,hi=some y∧bl=some k∧a.eval y= .int kk k)
  (hq:subL zb.1 p h al bl=some q)(hx:RepH β h w p x):
  ∃ v,(Instr.sliceAt t x (lo.map a.eval) (hi.map a.eval) none).run P w= .ok v w∧RepH β h w q v:=by
 obtain⟨e,i,zv,hu,hin,hsz,hby,hiz,hzl⟩:=elT_info hz;unfold subL at hq;split at hq
 case h_1=>simp at hq
 rename_i n hn;dsimp only at hq;split at hq
 case isFalse=>simp at hq
 rename_i hc;obtain⟨c0,c1,c2,hzk⟩:=hc;have hrun: ∀ (aa:Option Addr)(cap:Nat),n≤cap→(Instr.sliceAt t (.slice aa n cap) (lo.map a.eval) (hi.map a.eval) none).run P w=
   .ok (.slice (if cap=(al.getD 0).toNat then aa else aa.map (·.add ((al.getD 0).toNat*zb.1))) ((bl.getD (n:Int)).toNat-(al.getD 0).toNat) (cap-(al.getD 0).toNat)) w:=by
  intro aa cap hcap;have hb:=run_bounds (P:=P) (a:=a) w true n cap lo hi al bl hlo hhi hcap c0 c1 c2;simp[Instr.sliceAt,Instr.slice,run_underlying hu,hb,sizeOf,typeInfo,hin,hsz]
 split at hq
 ·rename_i z' rows;simp[lenP]at hn;simp[zOk]at hzk;simp at hq;subst hq;subst hzk;subst hn;simp only[RepH,Rep]at hx;obtain⟨aa,cap,rfl,h2,h2',h3⟩:=hx;refine⟨_,hrun aa cap h2,?_⟩;have hl:((rows.drop (al.getD 0).toNat).take (bl.getD (rows.length:Int)-al.getD 0).toNat).length=(bl.getD (rows.length:Int)).toNat-(al.getD 0).toNat:=by
   simp only[List.length_take,List.length_drop];omega
  simp only[RepH,Rep];rw[hl];refine⟨_,_,rfl,by omega,by omega,?_⟩;rcases h3 with rfl|⟨b,o,h4,rfl,h5⟩
  ·left;simp
  ·by_cases hem:(bl.getD (rows.length:Int)).toNat-(al.getD 0).toNat=0
   ·left;exact List.eq_nil_of_length_eq_zero (by rw[hl];exact hem)
   ·right;refine⟨b,o+(al.getD 0).toNat*zb.1,h4,?_,(h5.drop _).take _⟩;rw[if_neg (by omega)];simp[Addr.add_lit]
 ·rename_i id off len;split at hq
  case h_2=>simp at hq
  rename_i z' rows hob;simp[lenP]at hn;simp[zOk,hob]at hzk;simp at hq;subst hq;subst hzk;subst hn;have hok:=sm.ok id _ hob;simp only[ObjOk]at hok;simp only[RepH,Rep]at hx;obtain⟨hid,aa,cap,rfl,h2,h2',h3⟩:=hx;refine⟨_,hrun aa cap h2,?_⟩;simp only[RepH,Rep];have hl:(bl.getD (len:Int)-al.getD 0).toNat=(bl.getD (len:Int)).toNat-(al.getD 0).toNat:=by omega
  rw[hl];refine⟨hid,_,_,rfl,by omega,by omega,?_⟩;rcases h3 with h3|⟨b,h4,rfl,h6⟩
  ·left;omega
  ·by_cases hem:cap-(al.getD 0).toNat=0
   ·exact .inl hem
   ·right;refine⟨b,h4,?_,?_⟩
    ·rw [if_neg (by omega)];simp[Addr.add_lit,hok.1,Nat.add_mul,Nat.add_assoc]
    ·rw [show off+(al.getD 0).toNat+(cap-(al.getD 0).toNat)=off+cap by omega];exact h6
 ·simp [lenP]at hn;subst hn;simp at hq;subst hq;simp only[RepH,Rep]at hx;obtain⟨aa,rfl⟩:=hx;refine⟨_,hrun aa 0 (Nat.le_refl _),?_⟩;simp only[RepH,Rep];have e1:(al.getD 0).toNat=0:=by omega
  have e2:(bl.getD ((0:Nat):Int)).toNat=0:=by omega
  rw[e1,e2];exact⟨_,rfl⟩
 ·simp [lenP]at hn;subst hn;simp at hq;subst hq;simp only[RepH,Rep]at hx;subst hx;refine⟨_,hrun none 0 (Nat.le_refl _),?_⟩;simp only[RepH,Rep];have e1:(al.getD 0).toNat=0:=by omega
  have e2:(bl.getD ((0:Nat):Int)).toNat=0:=by omega
  rw[e1,e2];try rfl
 ·simp at hq
theorem sliceS_sound{t:Nat}{p q:PV}{x:Value}{lo hi:Option Operand}{al bl:Option Int}(hk:kT P t=3)
  (hlo:(lo=none∧al=none)∨ ∃ y k kk,lo=some y∧al=some k∧a.eval y= .int kk k)(hhi:(hi=none∧bl=none)∨ ∃ y k kk,hi=some y∧bl=some k∧a.eval y= .int kk k)
  (hq:subS p al bl=some q)(hx:RepH β h w p x):
  ∃ v,(Instr.sliceAt t x (lo.map a.eval) (hi.map a.eval) none).run P w= .ok v w∧RepH β h w q v:=by
 unfold subS at hq;split at hq
 case h_2=>simp at hq
 rename_i st;split at hq
 case isFalse=>simp at hq
 rename_i hc;simp at hq;subst hq;simp only[RepH,Rep]at hx;subst hx;have hu:P.underlying t=some .string:=by
  unfold kT at hk;split at hk<;>first|assumption|(simp at hk)
 have hb:=run_bounds (P:=P) (a:=a) w false st.size st.size lo hi al bl hlo hhi (Nat.le_refl _) hc.1 hc.2.1 hc.2.2;refine⟨_,?_,by simp only[RepH,Rep];rfl⟩;simp[Instr.sliceAt,Instr.slice,run_underlying hu,hb]
theorem sliceZ_sound{t:Nat}{zb:Nat × Nat}{p:PV}{x:Value}{hi mx:Value}{k1 k2:IntKind}(hz:elT P t=some zb)(h1:hi= .int k1 0)(h2:mx= .int k2 0)(hp:isSl p=true)(hx:RepH β h w p x):
  ∃ v,(Instr.sliceAt t x none (some hi) (some mx)).run P w= .ok v w∧RepH β h w .emp v:=by
 obtain⟨e,i,zv,hu,hin,hsz,hby,hiz,hzl⟩:=elT_info hz;subst h1;subst h2;have hx': ∃ aa len cap,x= .slice aa len cap:=by
  unfold isSl at hp;split at hp<;>simp only[RepH,Rep]at hx
  ·obtain ⟨aa,cap,rfl,_⟩:=hx;exact⟨_,_,_,rfl⟩
  ·obtain ⟨_,aa,cap,rfl,_⟩:=hx;exact⟨_,_,_,rfl⟩
  ·obtain ⟨aa,rfl⟩:=hx;exact⟨_,_,_,rfl⟩
  ·exact ⟨_,_,_,hx⟩
  ·simp at hp
 obtain⟨aa,len,cap,rfl⟩:=hx';refine⟨.slice aa 0 0,?_,by simp only[RepH,Rep];exact⟨_,rfl⟩⟩;simp[Instr.sliceAt,Instr.slice,run_underlying hu,Instr.sliceBounds,Instr.sliceBound,asIntOf,sizeOf,typeInfo,hin]
theorem sliceC_sound{t:Nat}{zb:Nat × Nat}{p q:PV}{x:Value}{hi mx:Value}{k1 k2:IntKind}{b c:Int}(hz:elT P t=some zb)(h1:hi= .int k1 b)(h2:mx= .int k2 c)(hq:capP b c p=some q)(hx:RepH β h w p x):
  ∃ v,(Instr.sliceAt t x none (some hi) (some mx)).run P w= .ok v w∧RepH β h w q v:=by
 obtain⟨e,i,zv,hu,hin,hsz,hby,hiz,hzl⟩:=elT_info hz;subst h1;subst h2;unfold capP at hq;split at hq
 case h_2=>simp at hq
 rename_i id off len;split at hq
 case isFalse=>simp at hq
 rename_i hc;obtain⟨c1,rfl,c3⟩:=hc;simp only[Option.some.injEq]at hq;subst hq;simp only[RepH,Rep]at hx;obtain⟨hid,aa,cap,rfl,hlc,hcm,hb⟩:=hx;obtain⟨m,rfl⟩: ∃ m:Nat,b=m:=⟨b.toNat,by omega⟩;have g1:m≤len:=by omega
 refine⟨.slice (if m=0 then aa else aa.map (·.add (0*i.size))) m m,?_,?_⟩
 ·have g2:m≤cap:=by omega
  have g3:(m:Int)≤cap:=by omega
  simp[Instr.sliceAt,Instr.slice,run_underlying hu,Instr.sliceBounds,Instr.sliceBound,asIntOf,sizeOf,typeInfo,hin,g2,g3]
 ·simp only[RepH,Rep];refine⟨hid,(if m=0 then aa else aa.map (·.add (0*i.size))),m,by simp,Nat.le_refl _,by omega,?_⟩;rcases hb with hb|⟨bb,e1,e2,e3⟩
  ·exact .inl (by omega)
  ·by_cases h0:m=0
   ·exact .inl h0
   ·refine .inr ⟨bb,e1,?_,Nat.le_trans ?_ e3⟩
    ·rw [if_neg h0,e2];simp[Addr.add_lit]
    ·have:(off+m)*(β id).z≤(off+cap)*(β id).z:=Nat.mul_le_mul_right _ (by omega);omega
end
end Go.AM
namespace Go.AM
section
variable {P:Program}{β β':Env}{h h':Heap}{w w':World}{s:Slots}{a:Act}
theorem foldl_seg(off:Nat): ∀ (l:List Value)(k:Nat)(cells:Array Value),off+k+l.length≤cells.size→ ∀ j,
  ((l.zipIdx k).foldl (fun cs x=>cs.setIfInBounds (off+x.2) x.1) cells)[j]? =if off+k≤j∧j<off+k+l.length then l[j-(off+k)]? else cells[j]?
 |[],k,cells,_,j=>by simp;intro h1 h2;omega
 |v::vs,k,cells,hl,j=>by
  simp only[List.length_cons]at hl;rw[List.zipIdx_cons,List.foldl_cons,foldl_seg off vs (k+1) _ (by simp;omega)];by_cases h1:off+(k+1)≤j∧j<off+(k+1)+vs.length
  ·rw [if_pos h1,if_pos (by simp only[List.length_cons];omega)];rw[show j-(off+k)=(j-(off+(k+1)))+1 by omega,List.getElem?_cons_succ]
  ·rw [if_neg h1];by_cases h2:j=off+k
   ·subst h2;rw[if_pos (by simp only[List.length_cons];omega)];have:off+k<cells.size:=(by omega);simp[this]
   ·rw [if_neg (by simp only[List.length_cons];omega)];simp[Array.getElem?_setIfInBounds_ne (Ne.symm h2)]
theorem foldl_seg_size(off:Nat): ∀ (l:List Value)(k:Nat)(cells:Array Value),((l.zipIdx k).foldl (fun cs x=>cs.setIfInBounds (off+x.2) x.1) cells).size=cells.size
 |[],_,_=>rfl
 |v::vs,k,cells=>by rw[List.zipIdx_cons,List.foldl_cons,foldl_seg_size off vs];simp
theorem fill_cell(off:Nat)(v:Value)(cells:Array Value)(hl:off+v.cells.size≤cells.size)(j:Nat):
  (v.cells.zipIdx.foldl (fun cs x=>cs.setIfInBounds (off+x.2) x.1) cells)[j]? =if off≤j∧j<off+v.cells.size then v.cells[j-off]? else cells[j]?:=by
 have h1:=foldl_seg off v.cells.toList 0 cells (by simpa using hl) j;rw[← Array.foldl_toList,Array.toList_zipIdx];simpa using h1
theorem fill_size(off:Nat)(v:Value)(cells:Array Value):(v.cells.zipIdx.foldl (fun cs x=>cs.setIfInBounds (off+x.2) x.1) cells).size=cells.size:=by
 have h1:=foldl_seg_size off v.cells.toList 0 cells;rw[← Array.foldl_toList,Array.toList_zipIdx];exact h1
def CellsAt(β:Env)(n:Nat)(F:Nat→Prop)(w:World)(l:List PV)(c:Array Value):Prop:=
 l.length=c.size∧ ∀ (j:Nat)(p:PV),l[j]? =some p→ ∃ v,c[j]? =some v∧v.oneCell'=true∧Rep β n F w p v
theorem CellsAt.of{n:Nat}{F:Nat→Prop}{l:List PV}{xs:List Value}(hr:RepL β n F w l xs)(h1: ∀ v∈xs,v.oneCell'=true):CellsAt β n F w l xs.toArray:=by
 refine⟨by simp[hr.len],fun j p hp=>?_⟩;obtain⟨v,hv,hvr⟩:=hr.get hp;exact⟨v,by simpa using hv,h1 v (List.mem_of_getElem? hv),hvr⟩
theorem CellsAt.agg{n:Nat}{F:Nat→Prop}{l:List PV}{c:Array Value}(hc:CellsAt β n F w l c):Rep β n F w (.agg l) (.agg c):=by
 simp only[Rep];refine⟨c.toList,by simp,?_,?_⟩
 ·intro v hv;obtain⟨j,hj⟩:=List.getElem?_of_mem hv;have hjl:j<l.length:=by rw[hc.1];simpa using (List.getElem?_eq_some_iff.1 hj).1
  obtain⟨u,hu,h1,_⟩:=hc.2 j _ (List.getElem?_eq_getElem hjl);rw[Array.getElem?_toList]at hj;rw[hj]at hu;simp at hu;subst hu;exact h1
 ·rw [RepL_iff];refine⟨by simp[hc.1],fun j p v hp hv=>?_⟩;obtain⟨u,hu,_,hr⟩:=hc.2 j p hp;rw[Array.getElem?_toList]at hv;rw[hv]at hu;simp at hu;subst hu;exact hr
theorem lay_sound(hs: ∀ t,RepH β h w (s t) (a.tmps.getD t undef))(place place':Nat→Option (Nat × Nat))(hpl: ∀ i x,place i=some x→place' i=some x):
  ∀ (parts:List (Nat × Operand))(cells out:List PV)(c:Array Value),CellsAt β h.next (Fz β h w) w cells c→lay place cells (parts.map fun p=>(p.1,pev s p.2))=some out→
  ∃ c',Instr.fill place' c (parts.map fun p=>(p.1,a.eval p.2))=some c'∧CellsAt β h.next (Fz β h w) w out c'
 |[],cells,out,c,hc,hl=>by simp[lay]at hl;subst hl;exact⟨c,by simp[Instr.fill],hc⟩
 |(i,x)::rest,cells,out,c,hc,hl=>by
  simp only[List.map_cons,lay]at hl;split at hl
  case h_1=>simp at hl
  rename_i off n hp;split at hl
  case isFalse=>simp at hl
  rename_i hcond;obtain⟨c1,c2,c3⟩:=hcond;obtain⟨hr,h1⟩:=Rep.cells c3 (pev_rep hs x);have hlen:=hr.len;have hlen2:(a.eval x).cells.toList.length=(a.eval x).cells.size:=Array.length_toList;have hcsz:=hc.1;have hnew:CellsAt β h.next (Fz β h w) w (putC cells off (pev s x).cells) ((a.eval x).cells.zipIdx.foldl (fun cs y=>cs.setIfInBounds (off+y.2) y.1) c):=by
   refine⟨by rw[putC_len _ _ _ (by omega),fill_size];exact hcsz,fun j p hp=>?_⟩;rw[putC_get _ _ _ _ (by omega)]at hp;rw[fill_cell off _ c (by omega)];split at hp
   ·rename_i hj;rw[if_pos (by omega)];obtain⟨v,hv,hvr⟩:=hr.get hp;rw[Array.getElem?_toList]at hv;exact⟨v,hv,h1 v (by rw[Array.mem_toList_iff];exact Array.mem_of_getElem? hv),hvr⟩
   ·rename_i hj;rw[if_neg (by omega)];exact hc.2 j p hp
  obtain⟨c',e1,e2⟩:=lay_sound hs place place' hpl rest _ out _ hnew hl;refine⟨c',?_,e2⟩;simp only[List.map_cons,Instr.fill,hpl i _ hp];rw[if_neg (by simp;omega)];exact e1
theorem zeroT_cells{n:Nat}{F:Nat→Prop}{t:Nat}{z:List Value}(hz:zeroT P t=some z): ∃ i v,P.info? t=some i∧i.zero=some v∧v.cells.toList=z∧(∀ x∈z,x.oneCell'=true)∧CellsAt β n F w (z.map .sc) v.cells:=by
 obtain⟨i,v,h1,h2,h3,h4⟩:=zeroT_info hz;refine⟨i,v,h1,h2,h3,h4,?_⟩;have:=CellsAt.of (β:=β) (n:=n) (F:=F) (w:=w) (RepL.sc z) h4;rw[← h3]at this⊢;simpa using this
theorem build_struct_sound(hs: ∀ t,RepH β h w (s t) (a.tmps.getD t undef)){t:Nat}{z:List Value}{places:List (Nat × Nat)}{parts:Array (Nat × Operand)}{cs:List PV}(hz:zeroT P t=some z)(hf:fieldsT P t=some places)
  (hl:lay (fun i=>places[i]?) (z.map .sc) (parts.toList.map fun p=>(p.1,pev s p.2))=some cs):
  ∃ v,(Instr.build t (parts.map fun p=>(p.1,a.eval p.2))).run P w= .ok v w∧RepH β h w (.agg cs) v:=by
 obtain⟨i,v,h1,h2,h3,h4,h5⟩:=zeroT_cells (β:=β) (n:=h.next) (F:=Fz β h w) (w:=w) hz;unfold fieldsT at hf;split at hf
 case h_2=>simp at hf
 rename_i fs hu;obtain⟨c',e1,e2⟩:=lay_sound hs (fun i=>places[i]?) (fun i=>places.toArray[i]?) (fun i x hx=>by simpa using hx) parts.toList _ cs v.cells h5 hl;refine⟨_,run_build w t _ c' ?_,e2.agg⟩;simp only[Program.built,h1,hu,h2,hf];simpa using e1
theorem build_array_sound(hs: ∀ t,RepH β h w (s t) (a.tmps.getD t undef)){t:Nat}{z:List Value}{na:Nat × Nat}{parts:Array (Nat × Operand)}{cs:List PV}(hz:zeroT P t=some z)(hf:arT P t=some na)
  (hl:lay (fun i=>some (i*na.2,na.2)) (z.map .sc) (parts.toList.map fun p=>(p.1,pev s p.2))=some cs):
  ∃ v,(Instr.build t (parts.map fun p=>(p.1,a.eval p.2))).run P w= .ok v w∧RepH β h w (.agg cs) v:=by
 obtain⟨i,v,h1,h2,h3,h4,h5⟩:=zeroT_cells (β:=β) (n:=h.next) (F:=Fz β h w) (w:=w) hz;obtain⟨e,ie,hu,hie,hsz⟩:=arT_info hf;obtain⟨c',e1,e2⟩:=lay_sound hs (fun i=>some (i*na.2,na.2)) (fun i=>some (i*ie.size,ie.size)) (fun i x hx=>by rw[hsz];exact hx) parts.toList _ cs v.cells h5 hl;refine⟨_,run_build w t _ c' ?_,e2.agg⟩;simp only[Program.built,h1,hu,h2,hie];simpa using e1
theorem zero_rows{n m z:Nat}{F:Nat→Prop}{zs:Array Value}(hz:zs.size=z)(h1: ∀ x∈zs.toList,x.oneCell'=true):
  RowsAt β m F w z (List.replicate n (zs.toList.map .sc)) ((Array.range (n*z)).map fun k=>zs[k % zs.size]!):=by
 intro i r hr;rw[List.getElem?_replicate]at hr;split at hr
 case isFalse=>simp at hr
 rename_i hi;simp at hr;subst hr;refine⟨by simp[hz],fun j p hp=>?_⟩;rw[List.getElem?_map]at hp;cases hj:zs.toList[j]? with
 |none=>simp[hj]at hp
 |some v=>
  simp[hj]at hp;subst hp;have hjl:j<z:=by rw[← hz];simpa using (List.getElem?_eq_some_iff.1 hj).1
  have hlt:i*z+j<n*z:=by
   have:(i+1)*z≤n*z:=Nat.mul_le_mul_right _ hi;rw[Nat.succ_mul]at this;omega
  refine⟨v,?_,h1 v (List.mem_of_getElem? hj),by simp only[Rep]⟩;have hmod:(i*z+j) % zs.size=j:=by
   rw[hz,Nat.mul_comm,Nat.mul_add_mod,Nat.mod_eq_of_lt hjl]
  rw[Array.getElem?_toList]at hj;simp[hlt,hmod,getElem!_def,hj]
theorem rowsOf_sound(hs: ∀ t,RepH β h w (s t) (a.tmps.getD t undef))(z:Nat): ∀ (parts:List (Nat × Operand))(rows out:List (List PV))(c:Array Value),
  c.size=rows.length*z→RowsAt β h.next (Fz β h w) w z rows c→
  rowsOf z rows (parts.map fun p=>(p.1,pev s p.2))=some out→
  ∃ c',Instr.fill (fun i=>some (i*z,z)) c (parts.map fun p=>(p.1,a.eval p.2))=some c'∧c'.size=out.length*z∧RowsAt β h.next (Fz β h w) w z out c'∧out.length=rows.length
 |[],rows,out,c,hsz,hc,hl=>by simp[rowsOf]at hl;subst hl;exact⟨c,by simp[Instr.fill],hsz,hc,rfl⟩
 |(i,x)::rest,rows,out,c,hsz,hc,hl=>by
  simp only[List.map_cons,rowsOf]at hl;split at hl
  case isFalse=>simp at hl
  rename_i hcond;obtain⟨c1,c2,c3⟩:=hcond;obtain⟨hr,h1⟩:=Rep.cells c3 (pev_rep hs x);have hlen:=hr.len;have hlen2:(a.eval x).cells.toList.length=(a.eval x).cells.size:=Array.length_toList;have hle:(i+1)*z≤rows.length*z:=Nat.mul_le_mul_right _ c2;rw[Nat.succ_mul]at hle;have hnew:RowsAt β h.next (Fz β h w) w z (rows.set i (pev s x).cells) ((a.eval x).cells.zipIdx.foldl (fun cs y=>cs.setIfInBounds (i*z+y.2) y.1) c):=by
   intro i' r' hr';rw[List.getElem?_set]at hr';split at hr'
   ·rename_i hie;subst hie;simp at hr';obtain⟨_,rfl⟩:=hr';refine⟨c1,fun j p hp=>?_⟩;have hj:j<(pev s x).cells.length:=(List.getElem?_eq_some_iff.1 hp).1;rw[fill_cell _ _ c (by omega),if_pos (by omega)];obtain⟨v,hv,hvr⟩:=hr.get hp;rw[Array.getElem?_toList]at hv;refine⟨v,by rw[show i*z+j-i*z=j by omega];exact hv,h1 v (by rw[Array.mem_toList_iff];exact Array.mem_of_getElem? hv),hvr⟩
   ·rename_i hie;obtain⟨h2,h3⟩:=hc i' r' hr';refine⟨h2,fun j p hp=>?_⟩;have hj:j<z:=(by rw[← h2];exact(List.getElem?_eq_some_iff.1 hp).1);have htr:=two_rows (z:=z) (f:=0) (j:=j) (n:=z) hie (by omega) hj;rw[fill_cell _ _ c (by omega),if_neg (by omega)];exact h3 j p hp
  obtain⟨c',e1,e2,e3,e4⟩:=rowsOf_sound hs z rest _ out _ (by rw[fill_size,List.length_set];exact hsz) hnew hl;refine⟨c',?_,e2,e3,by rw[e4,List.length_set]⟩;simp only[List.map_cons,Instr.fill];rw[if_neg (by simp;omega)];exact e1
theorem map_range_zero(f:Nat→Value):(Array.range 0).map f= #[]:=Array.eq_empty_of_size_eq_zero (by simp)
theorem buildSlice_sound(sm:Sim β h w)(hs: ∀ t,RepH β h w (s t) (a.tmps.getD t undef)){t len:Nat}{zb:Nat × Nat}{z:List Value}{parts:Array (Nat × Operand)}{rows:List (List PV)}{ow:Bool}{r:PV}
  (hz:elT P t=some zb)(hzz:elZ P t=some z)(hc:z.length=zb.1∧0<zb.1∧len*zb.1≤16777216)
  (hl:rowsOf zb.1 (List.replicate len (z.map .sc)) (parts.toList.map fun p=>(p.1,pev s p.2))=some rows)
  (hr:(if len=0 then some (PV.emp,h)else if ow then some (.own h.next 0 len,h.new (.arr zb.1 rows))else some (.imm zb.1 rows,h))=some (r,h')):
  ∃ v w' β',(Instr.buildSlice t len (parts.map fun p=>(p.1,a.eval p.2))).run P w= .ok v w'∧Sim β' h' w'∧Ext β h w β' h' w'∧RepH β' h' w' r v:=by
 obtain⟨e,i,zv,hu,hin,hsz,hby,hiz,hzl⟩:=elT_info hz;obtain⟨e',i',zv',hu',hin',hiz',hzl',hz1⟩:=elZ_info hzz;rw[hu]at hu';simp at hu';subst hu';rw[hin]at hin';simp at hin';subst hin';rw[hiz]at hiz';simp at hiz';subst hiz';obtain⟨c1,c2,c3⟩:=hc;have hzz2:zv.cells.size≠0:=by omega
 have hzero:=zero_rows (β:=β) (m:=h.next) (w:=w) (n:=len) (F:=Fz β h w) (zs:=zv.cells) hzl (by rw[hzl'];exact hz1);rw[hzl']at hzero;obtain⟨c',e1,e2,e3,e4⟩:=rowsOf_sound hs zb.1 parts.toList (List.replicate len (z.map .sc)) rows _ (by simp) hzero hl;rw[List.length_replicate]at e4;have hrun:(Instr.buildSlice t len (parts.map fun p=>(p.1,a.eval p.2))).run P w= .ok (.slice (some ⟨w.heap.size,0,none⟩) len len) (w.alloc (.cells c' e)):=by
  have h24:¬ (16777216<len*zb.1):=by omega
  by_cases h0:len*zb.1=0
  ·rw [h0,map_range_zero]at e1;simp[Instr.buildSlice,run_underlying hu,sizeOf,typeInfo,hin,hsz,h0,map_range_zero,e1,newRow]
  ·simp [Instr.buildSlice,run_underlying hu,sizeOf,typeInfo,hin,hsz,h24,h0,zeroValue,hiz,e1,newRow]
 refine⟨.slice (some ⟨w.heap.size,0,none⟩) len len,w.alloc (.cells c' e),?_⟩;by_cases hlen:len=0
 ·rw [if_pos hlen]at hr;simp at hr;obtain⟨rfl,rfl⟩:=hr;subst hlen;obtain⟨a1,a2,_⟩:=sm.junk (.cells c' e);exact⟨β,hrun,a1,a2,by simp only[RepH,Rep];exact⟨_,rfl⟩⟩
 ·rw [if_neg hlen]at hr;cases ow with
  |true=>
   simp at hr;obtain⟨rfl,rfl⟩:=hr;obtain⟨a1,a2⟩:=Sim.newRows sm zb.1 rows c' e e3 (by omega);refine⟨_,hrun,a1,a2,?_⟩;simp only[RepH,Rep];have hpos:0<zb.1:=c2;have hm:len≤maxLen:=by
    have:len*1≤len*zb.1:=Nat.mul_le_mul_left _ hpos;simp only[maxLen];omega
   refine⟨by simp[Heap.new],_,len,rfl,Nat.le_refl _,hm,.inr ⟨w.heap.size,by simp,by simp,?_⟩⟩;simp only[if_true,Nat.zero_add];rw[e2,e4];exact Nat.le_refl _
  |false=>
   simp at hr;obtain⟨rfl,rfl⟩:=hr;obtain⟨a1,a2,a3⟩:=sm.junk (.cells c' e);refine⟨β,hrun,a1,a2,?_⟩;simp only[RepH,Rep];have hm:len≤maxLen:=by
    have:len*1≤len*zb.1:=Nat.mul_le_mul_left _ c2;simp only[maxLen];omega
   refine⟨_,len,by rw[e4],by omega,hm,.inr ⟨w.heap.size,0,a3,rfl,?_⟩⟩;exact e3.rep a2.mv (heap_alloc_new w _)
theorem makeSlice_sound(sm:Sim β h w){t:Nat}{zb:Nat × Nat}{z:List Value}{n m:Int}{k1 k2:IntKind}(hz:elT P t=some zb)(hzz:elZ P t=some z)
  (hc:z.length=zb.1∧0<zb.1∧0≤n∧n≤m∧m≤281474976710656∧zb.2*m≤281474976710656):
  ∃ v w' β',(Instr.makeSlice t (.int k1 n) (.int k2 m)).run P w= .ok v w'∧Sim β' (h.new (.arr zb.1 (List.replicate n.toNat (z.map .sc)))) w'∧Ext β h w β' (h.new (.arr zb.1 (List.replicate n.toNat (z.map .sc)))) w'∧
   RepH β' (h.new (.arr zb.1 (List.replicate n.toNat (z.map .sc)))) w' (.own h.next 0 n.toNat) v:=by
 obtain⟨e,i,zv,hu,hin,hsz,hby,hiz,hzl⟩:=elT_info hz;obtain⟨e',i',zv',hu',hin',hiz',hzl',hz1⟩:=elZ_info hzz;rw[hu]at hu';simp at hu';subst hu';rw[hin]at hin';simp at hin';subst hin';rw[hiz]at hiz';simp at hiz';subst hiz';obtain⟨c1,c2,c3,c4,c5,c6⟩:=hc;have hzz2:zv.cells.size≠0:=by omega
 have w1:IntKind.i64.wrap n=n:=IntWalk.i64_in _ (by omega);have w2:IntKind.i64.wrap m=m:=IntWalk.i64_in _ (by omega);have hrun:(Instr.makeSlice t (.int k1 n) (.int k2 m)).run P w= .ok (.slice (some ⟨w.heap.size,0,none⟩) n.toNat m.toNat) (w.alloc (.cells ((Array.range (m.toNat*zb.1)).map fun k=>zv.cells[k % zv.cells.size]!) e)):=by
  have e1:¬ (m<0):=by omega
  have e2:¬ (281474976710656<(i.bytes:Int)*m):=by rw[hby];omega
  have e3:¬ (n<0):=by omega
  have e4:¬ (m<n):=by omega
  by_cases h0:m.toNat*zb.1=0
  ·simp [Instr.makeSlice,run_underlying hu,asInt,asIntOf,typeInfo,hin,w1,w2,e1,e2,e3,e4,sizeOf,hsz,h0,newRow,map_range_zero]
  ·simp [Instr.makeSlice,run_underlying hu,asInt,asIntOf,typeInfo,hin,w1,w2,e1,e2,e3,e4,sizeOf,hsz,h0,newRow,zeroValue,hiz]
 have hzero:=zero_rows (β:=β) (m:=h.next) (w:=w) (n:=m.toNat) (F:=Fz β h w) (zs:=zv.cells) hzl (by rw[hzl'];exact hz1);rw[hzl']at hzero;have hmul:n.toNat*zb.1≤m.toNat*zb.1:=Nat.mul_le_mul_right _ (by omega);obtain⟨a1,a2⟩:=Sim.newRows sm zb.1 (List.replicate n.toNat (z.map .sc)) ((Array.range (m.toNat*zb.1)).map fun k=>zv.cells[k % zv.cells.size]!) e (fun i r hr=>by
  rw[List.getElem?_replicate]at hr;split at hr
  case isFalse=>simp at hr
  rename_i hi;exact hzero i r (by rw[List.getElem?_replicate,if_pos (by omega)];exact hr)) (by simpa using hmul)
 refine⟨_,_,_,hrun,a1,a2,?_⟩;simp only[RepH,Rep];refine⟨by simp[Heap.new],_,m.toNat,rfl,by omega,by simp only[maxLen];omega,.inr ⟨w.heap.size,by simp,by simp,?_⟩⟩;simp
theorem clear_sound(sm:Sim β h w)(ty:TypeId){t:Nat}{zb:Nat × Nat}{z:List Value}{p:PV}{x:Value}(hz:elT P t=some zb)(hzz:elZ P t=some z)(hl:z.length=zb.1)(h0:0<zb.1)
  (hc:clr h zb.1 (z.map .sc) p=some h')(hx:RepH β h w p x):
  ∃ w',(Builtin.clear_ #[t] ty #[x]).run P w= .ok (.tuple #[]) w'∧Sim β h' w'∧Ext β h w β h' w':=by
 obtain⟨e,i,zv,hu,hin,hsz,hby,hiz,hzl⟩:=elT_info hz;obtain⟨e',i',zv',hu',hin',hiz',hzl',hz1⟩:=elZ_info hzz;rw[hu]at hu';simp at hu';subst hu';rw[hin]at hin';simp at hin';subst hin';rw[hiz]at hiz';simp at hiz';subst hiz';have none_run: ∀ (a:Option Addr)(cap:Nat),(Builtin.clear_ #[t] ty #[.slice a 0 cap]).run P w= .ok (.tuple #[]) w:=fun a cap=>by
  cases a<;>simp[Builtin.clear_,run_underlying hu]
 unfold clr at hc;split at hc
 ·rename_i id off len;split at hc
  case h_2=>simp at hc
  rename_i z' rows hob;split at hc
  case isFalse=>simp at hc
  rename_i hg;obtain⟨rfl,hfit⟩:=hg;simp only[Option.some.injEq]at hc;subst hc;simp only[RepH,Rep]at hx;obtain⟨hid,aa,cap,rfl,hc1,hc2,hc3⟩:=hx;by_cases hlen:len=0
  ·subst hlen;refine⟨w,none_run _ _,?_⟩;have:h.set id (.arr zb.1 (rows.take off++List.replicate 0 (z.map .sc)++rows.drop (off+0)))=h:=by
    simp only[List.replicate_zero,List.append_nil,Nat.add_zero,List.take_append_drop];cases h with
    |mk n f=>
     simp only[Heap.set,Heap.mk.injEq,true_and];funext j;by_cases ej:j=id
     ·subst ej;simp only[if_true];exact hob.symm
     ·simp only[ej,if_false]
   rw[this];exact⟨sm,Ext.refl⟩
  rcases hc3 with hc3|⟨b,hb,rfl,hfit2⟩
  ·omega
  have hok:=sm.ok id _ hob;simp only[ObjOk]at hok;rcases hok.2 with⟨g1,_⟩|⟨b',c,e2,fr,h5,h6,h7,h8,h9,h10⟩
  ·rw [g1]at hb;simp at hb
  rw[hb]at h5;simp at h5;subst h5;have hz':=hok.1;have hrl:(off+len)*zb.1≤rows.length*zb.1:=Nat.mul_le_mul_right _ hfit;have hadd:(off+len)*zb.1=off*zb.1+len*zb.1:=Nat.add_mul _ _ _;obtain⟨zs,hzs⟩: ∃ zs:List Value,zs=(Builtin.zeroCells zv.cells len).toList:=⟨_,rfl⟩;have hzsl:zs.length=len*zb.1:=by rw[hzs];simp[Builtin.zeroCells,hzl]
  have hzero:=zero_rows (β:=β) (m:=h.next) (w:=w) (n:=len) (F:=Fz β h w) (zs:=zv.cells) hzl (by rw[hzl'];exact hz1);rw[hzl']at hzero;have hzg: ∀ j:Nat,((Array.range (len*zb.1)).map fun k=>zv.cells[k % zv.cells.size]!)[j]? =zs[j]?:=fun j=>by
   rw[hzs,Builtin.zeroCells,hzl,Array.getElem?_toList]
  have hone: ∀ v∈zs,v.oneCell'=true:=fun v hv=>by
   rw[hzs]at hv;simp only[Builtin.zeroCells,Array.toList_map,List.mem_map,Array.toList_range,List.mem_range]at hv;obtain⟨k,hk,rfl⟩:=hv;refine hz1 _ ?_;rw[← hzl'];have hp:0<zv.cells.size:=(by omega);rw[getElem!_pos zv.cells (k % zv.cells.size) (Nat.mod_lt _ hp),Array.mem_toList_iff];exact Array.getElem_mem _
  have hfc:(β id).o+off*zb.1+zs.length≤c.size:=by rw[h7,hzsl];omega
  have hst:=run_store_row (P:=P) b ((β id).o+off*zb.1) e2 fr zs 0 c w h6 (by simpa using hfc) h9 hone;simp only[Nat.add_zero]at hst;obtain⟨m,rfl⟩: ∃ m,len=m+1:=⟨len-1,by omega⟩;refine⟨w.setRow b (c.toList.take ((β id).o+off*zb.1)++zs++c.toList.drop ((β id).o+off*zb.1+zs.length)).toArray,?_,?_⟩
  ·simp [Builtin.clear_,run_underlying hu,zeroValue,typeInfo,hin,hiz,hz', ← hzs,hst]
  have hfc2:(β id).o+off*zb.1+zs.length≤c.toList.length:=by rw[Array.length_toList];exact hfc
  refine Sim.step sm id (.arr zb.1 (rows.take off++List.replicate (m+1) (z.map .sc)++rows.drop (off+(m+1)))) rfl rfl rfl (by simp) (by simp[Heap.set]) (fun _ _=>rfl) (by simp[Heap.set]) (sm.lt id (by rw[hob];try rfl)) (fun id' hne=> .inr (by simp[Heap.set,hne])) (fun b' hb'=> .inr ⟨id,by rw[hob];try rfl,hb',.inl rfl⟩) (fun b' _ hb'=>setRow_other _ _ _ _ (fun hbe=>hb' (by rw[hbe];exact hb))) (fun mv=>?_);have hrep:(List.replicate (m+1) (z.map PV.sc)).length=m+1:=List.length_replicate;have hseg:=fun j=>seg_get rows (List.replicate (m+1) (z.map PV.sc)) off j (by rw[hrep];exact hfit);have hsegl:=seg_len rows (List.replicate (m+1) (z.map PV.sc)) off (by rw[hrep];exact hfit);rw[hrep]at hsegl;simp only[hrep]at hseg;simp only[ObjOk];refine⟨hz',.inr ⟨b,_,e2,fr,hb,setRow_heap w b c _ e2 fr h6,?_,by rw[hsegl];exact h8,?_,?_⟩⟩
  ·rw [← h7];simp only[List.size_toArray];rw[seg_len _ _ _ hfc2,Array.length_toList]
  ·intro j hj;apply h9;simp only[List.size_toArray]at hj;rw[seg_len _ _ _ hfc2,Array.length_toList]at hj;exact hj
  ·rw [RepR_iff];intro i' r' hr';rw[hseg]at hr';have hcell: ∀ j,((w.setRow b (c.toList.take ((β id).o+off*zb.1)++zs++c.toList.drop ((β id).o+off*zb.1+zs.length)).toArray).cell? ⟨b,j,none⟩)=if(β id).o+off*zb.1≤j∧j<(β id).o+off*zb.1+zs.length then zs[j-((β id).o+off*zb.1)]? else w.cell? ⟨b,j,none⟩:=by
    intro j;rw[cell_setRow_same w b j c _ e2 fr h6,cell_of_row w b j c e2 fr h6];rw[List.getElem?_toArray,seg_get _ _ _ _ hfc2];simp
   split at hr'
   ·rename_i hio;obtain⟨q1,q2⟩:=hzero (i'-off) r' hr';refine⟨q1,?_⟩;rw[RepS_iff];intro j p' hp';obtain⟨v,q3,q4,q5⟩:=q2 j p' hp';have hjz:j<zb.1:=(by rw[← q1];exact(List.getElem?_eq_some_iff.1 hp').1);have k1:off*zb.1≤i'*zb.1:=Nat.mul_le_mul_right _ hio.1;have k2:(i'+1)*zb.1≤(off+(m+1))*zb.1:=Nat.mul_le_mul_right _ hio.2;rw[Nat.succ_mul]at k2;have k3:(i'-off)*zb.1=i'*zb.1-off*zb.1:=Nat.sub_mul _ _ _;refine⟨v,?_,q4,Rep.mv mv p' v q5⟩;rw[hcell,if_pos (by omega), ← hzg, ← q3];congr 1;omega
   ·rename_i hio;have hri2:=(RepR_iff.1 h10) i' r' hr';refine⟨hri2.1,?_⟩;rw[RepS_iff];intro j p' hp';have hjz:j<zb.1:=(by rw[← hri2.1];exact(List.getElem?_eq_some_iff.1 hp').1);have hout:¬ ((β id).o+off*zb.1≤(β id).o+i'*zb.1+j∧(β id).o+i'*zb.1+j<(β id).o+off*zb.1+zs.length):=by
     rcases Nat.lt_or_ge i' off with g|g
     ·have k1:(i'+1)*zb.1≤off*zb.1:=Nat.mul_le_mul_right _ g;rw[Nat.succ_mul]at k1;omega
     ·have g2:off+(m+1)≤i':=(by omega);have k1:(off+(m+1))*zb.1≤i'*zb.1:=Nat.mul_le_mul_right _ g2;omega
    rw[hcell,if_neg hout];obtain⟨v,hv,hv1,hr⟩:=(RepS_iff.1 hri2.2) j p' hp';exact⟨v,hv,hv1,Rep.mv mv p' v hr⟩
 ·simp only[Option.some.injEq]at hc;subst hc;simp only[RepH,Rep]at hx;obtain⟨a,rfl⟩:=hx;exact⟨w,none_run _ _,sm,Ext.refl⟩
 ·simp only[Option.some.injEq]at hc;subst hc;simp only[RepH,Rep]at hx;subst hx;exact⟨w,none_run _ _,sm,Ext.refl⟩
 ·simp at hc
end
end Go.AM
namespace Go.AM
section
variable {P:Program}{β β':Env}{h h':Heap}{w w':World}{s:Slots}{a:Act}
theorem constPV_rep{n:Nat}{F:Nat→Prop}(v:Value):Rep β n F w (constPV v) v:=by
 cases v<;>simp only[constPV]<;>try simp only[Rep]
 split
 ·rename_i cs hc;simp only[Rep];exact⟨cs.toList,by simp,List.all_eq_true.1 hc,RepL.sc _⟩
 ·simp only[Rep]
theorem bytes_beq(a b:ByteArray):(a==b)=true↔a=b:=by
 obtain⟨x⟩:=a;obtain⟨y⟩:=b;rw[ByteArray.mk.injEq];show(x==y)=true↔x=y;exact beq_iff_eq
theorem keyEq_true{k k':Value}(he:keyEq k k'=some true):k=k':=by
 cases k<;>cases k'<;>simp only[keyEq,Option.some.injEq,reduceCtorEq]at he
 ·simp [beq_iff_eq.1 he]
 ·split at he<;>simp at he;simp[*]
 ·rw [(bytes_beq _ _).1 he]
def kdOk(kd:TypeDesc)(kt:Nat):Prop:=match kd with
 | .bool=>kt=1
 | .int _=>kt=2
 | .string=>kt=3
 |_=>False
theorem key_same'{kd:TypeDesc}{k k':Value}{b:Bool}{kt:Nat}(hk:keyKind kt k=true)(hd:kdOk kd kt)(he:keyEq k k'=some b):Instr.sameNow kd k k'=some b:=by
 cases k<;>cases k'<;>simp[keyEq]at he<;>simp[keyKind]at hk<;>subst hk<;>cases kd<;>simp[kdOk]at hd<;>simp[Instr.sameNow,he]
theorem mfind_none{n:Nat}{F:Nat→Prop}{kd:TypeDesc}{k:Value}{kt:Nat}(hk:keyKind kt k=true)(hd:kdOk kd kt): ∀ (es:List (Value × PV))(fs:List MapEntry)(i:Nat),RepM β n F w es fs→mfind k es=some none→Instr.findNow kd k fs i=some none
 |[],[],i,_,_=>by simp[Instr.findNow]
 |[],_::_,_,h,_=>by simp[RepM]at h
 |_::_,[],_,h,_=>by simp[RepM]at h
 |(k',p)::es,f::fs,i,h,hm=>by
  simp only[RepM]at h;simp only[mfind]at hm;split at hm
  ·simp at hm
  ·rename_i he;simp only[Instr.findNow,h.1.1,key_same' hk hd he];exact mfind_none hk hd es fs (i+1) h.2 hm
  ·simp at hm
theorem mfind_some{n:Nat}{F:Nat→Prop}{kd:TypeDesc}{k:Value}{v:PV}{kt:Nat}(hk:keyKind kt k=true)(hd:kdOk kd kt): ∀ (es:List (Value × PV))(fs:List MapEntry)(i:Nat),RepM β n F w es fs→mfind k es=some (some v)→
  ∃ j e,Instr.findNow kd k fs i=some (some (i+j,e.val))∧fs[j]? =some e∧Rep β n F w v e.val
 |[],[],i,_,hm=>by simp[mfind]at hm
 |[],_::_,_,h,_=>by simp[RepM]at h
 |_::_,[],_,h,_=>by simp[RepM]at h
 |(k',p)::es,f::fs,i,h,hm=>by
  simp only[RepM]at h;simp only[mfind]at hm;split at hm
  ·rename_i he;simp at hm;subst hm;exact⟨0,f,by simp only[Instr.findNow,h.1.1,key_same' hk hd he,Nat.add_zero],rfl,h.1.2⟩
  ·rename_i he;obtain⟨j,e,h1,h2,h3⟩:=mfind_some hk hd es fs (i+1) h.2 hm;refine⟨j+1,e,?_,by simpa using h2,h3⟩;simp only[Instr.findNow,h.1.1,key_same' hk hd he,h1];congr 3;omega
  ·simp at hm
theorem mput_rep{n:Nat}{F:Nat→Prop}{kd:TypeDesc}{k:Value}{v:PV}{x:Value}{kt:Nat}(hk:keyKind kt k=true)(hd:kdOk kd kt)(hx:Rep β n F w v x): ∀ (es es':List (Value × PV))(fs:List MapEntry)(i:Nat),RepM β n F w es fs→mput k v es=some es'→
  (Instr.findNow kd k fs i=some none∧ ∀ born,RepM β n F w es' (fs++[⟨k,x,born⟩]))∨
  (∃ j e,Instr.findNow kd k fs i=some (some (i+j,e.val))∧fs[j]? =some e∧e.key=k∧RepM β n F w es' (fs.set j {e with key:=k,val:=x}))
 |[],es',[],i,_,hm=>by
  simp[mput]at hm;subst hm;exact .inl ⟨by simp[Instr.findNow],fun born=>by simp only[List.nil_append,RepM];exact⟨⟨trivial,hx⟩,trivial⟩⟩
 |[],_,_::_,_,h,_=>by simp[RepM]at h
 |_::_,_,[],_,h,_=>by simp[RepM]at h
 |(k',p)::es,es',f::fs,i,h,hm=>by
  simp only[RepM]at h;simp only[mput]at hm;split at hm
  ·rename_i he;simp at hm;subst hm;refine .inr ⟨0,f,by simp only[Instr.findNow,h.1.1,key_same' hk hd he,Nat.add_zero],rfl,by rw[h.1.1,keyEq_true he],?_⟩;simp only[List.set_cons_zero,RepM];exact⟨⟨trivial,hx⟩,h.2⟩
  ·rename_i he;cases hm2:mput k v es with
   |none=>simp[hm2]at hm
   |some es2=>
    simp[hm2]at hm;subst hm;rcases mput_rep hk hd hx es es2 fs (i+1) h.2 hm2 with⟨h1,h2⟩|⟨j,e,h1,h2,h3,h4⟩
    ·refine .inl ⟨by simp only[Instr.findNow,h.1.1,key_same' hk hd he,h1],fun born=>?_⟩;simp only[List.cons_append,RepM];exact⟨h.1,h2 born⟩
    ·refine .inr ⟨j+1,e,?_,by simpa using h2,h3,?_⟩
     ·simp only[Instr.findNow,h.1.1,key_same' hk hd he,h1];congr 3;omega
     ·simp only[List.set_cons_succ,RepM];exact⟨h.1,h4⟩
  ·simp at hm
theorem mapT_info{t:Nat}{m:Nat × Value}(hm:mapT P t=some m): ∃ k e i,P.underlying t=some (.map k e)∧P.info? e=some i∧i.zero=some m.2∧kT P k=m.1:=by
 unfold mapT at hm;split at hm
 ·rename_i k e hu;unfold zvT at hm;cases hi:P.info? e with
  |none=>simp[hi]at hm
  |some i=>
   cases hz:i.zero with
   |none=>simp[hi,hz]at hm
   |some z=>simp[hi,hz]at hm;subst hm;exact⟨k,e,i,hu,hi,hz,rfl⟩
 ·simp at hm
theorem kdOk_of{k:Nat}{kv:Value}{kt:Nat}(hk:keyKind kt kv=true)(hkt:kT P k=kt): ∃ kd,P.underlying k=some kd∧kdOk kd kt:=by
 subst hkt;cases hu:P.underlying k with
 |none=>simp only[kT,hu]at hk;cases kv<;>simp[keyKind]at hk
 |some kd=>
  refine⟨kd,rfl,?_⟩;simp only[kT,hu]at hk⊢;cases kd<;>simp only[kdOk]<;>cases kv<;>simp[keyKind]at hk
theorem run_checkKey1{b:Bool}{k n:Nat}{kv:Value}{kd:TypeDesc}{kt:Nat}(hu:P.underlying k=some kd)(hd:kdOk kd kt)(w:World):(Instr.checkKey b (n+1) k kv).run P w= .ok () w:=by
 cases kd<;>simp[kdOk]at hd<;>simp[Instr.checkKey,run_underlying hu]
theorem run_checkKey{b:Bool}{k:Nat}{kv:Value}{kd:TypeDesc}{kt:Nat}(hu:P.underlying k=some kd)(hd:kdOk kd kt)(w:World):(Instr.checkKey b 10000 k kv).run P w= .ok () w:=run_checkKey1 (n:=9999) hu hd w
theorem run_getMap{r:Nat}{fs:Array MapEntry}{cl:Nat}(hr:w.heap[r]? =some (.map fs cl)):(getObj r).run P w= .ok (.map fs cl) w:=by
 simp only[getObj,Sem.run,hr]
theorem mview_sound(sm:Sim β h w){p:PV}{x:Value}{es:List (Value × PV)}(hv:mview h p=some es)(hx:RepH β h w p x):
  (x= .map none∧es=[])∨ ∃ r fs cl,x= .map (some r)∧w.heap[r]? =some (.map fs cl)∧RepM β h.next (Fz β h w) w es fs.toList:=by
 unfold mview at hv;split at hv
 ·simp at hv;subst hv;simp only[RepH,Rep]at hx;exact .inl ⟨hx,rfl⟩
 ·rename_i id;split at hv
  ·rename_i es' hob;simp at hv;subst hv;have hok:=sm.ok id _ hob;simp only[ObjOk]at hok;obtain⟨b,fs,cl,h1,h2,h3,_⟩:=hok;simp only[RepH,Rep]at hx;obtain⟨_,b',hb',rfl⟩:=hx;rw[h1]at hb';simp at hb';subst hb';exact .inr ⟨b,fs,cl,rfl,h2,h3⟩
  ·simp at hv
 ·simp at hv
theorem lookup_sound(sm:Sim β h w){t:Nat}{m:Nat × Value}{p:PV}{kv x:Value}{es:List (Value × PV)}{r:Option PV}{ok:Bool}(hm:mapT P t=some m)(hv:mview h p=some es)(hk:keyKind m.1 kv=true)
  (hf:mfind kv es=some r)(hx:RepH β h w p x):
  ∃ v,(Instr.lookup t x kv ok).run P w= .ok v w∧RepH β h w (lkV ok m.2 r) v:=by
 obtain⟨k,e,i,hu,hi,hz,hkt⟩:=mapT_info hm;obtain⟨kd,hkd,hd⟩:=kdOk_of (P:=P) hk hkt;have hfin: ∀ (fs:Array MapEntry),RepM β h.next (Fz β h w) w es fs.toList→(Instr.lookup t x kv ok).run P w=(do
   let (v,ok') ← match ← Instr.findKey k kv fs.toList with
    |some (_,v)=>pure (v,true)
    |none=>pure (← zeroValue e,false)
   pure (if ok then .tuple #[v,.bool ok']else v):Sem Value).run P w→ ∃ v,(Instr.lookup t x kv ok).run P w= .ok v w∧RepH β h w (lkV ok m.2 r) v:=by
  intro fs hrep hrun;rw[hrun];cases r with
  |none=>
   have h1:=mfind_none hk hd es fs.toList 0 hrep hf;have h2:(Instr.findKey k kv fs.toList).run P w= .ok none w:=(by simp[Instr.findKey,run_underlying hkd,h1]);have h3:(zeroValue e).run P w= .ok m.2 w:=(by simp[zeroValue,typeInfo,hi,hz]);refine⟨if ok then .tuple #[m.2,.bool false]else m.2,by simp[h2,h3],?_⟩;cases ok with
   |true=>simp only[lkV,if_true,RepH,Rep];exact⟨[m.2,.bool false],rfl,by simp only[RepL,Rep];exact⟨constPV_rep _,trivial,trivial⟩⟩
   |false=>simp only[lkV,Bool.false_eq_true,if_false];exact constPV_rep _
  |some v=>
   obtain⟨j,en,h1,h2,h3⟩:=mfind_some hk hd es fs.toList 0 hrep hf;have h4:(Instr.findKey k kv fs.toList).run P w= .ok (some (0+j,en.val)) w:=(by simp[Instr.findKey,run_underlying hkd,h1]);refine⟨if ok then .tuple #[en.val,.bool true]else en.val,by simp[h4],?_⟩;cases ok with
   |true=>simp only[lkV,if_true,RepH,Rep];exact⟨[en.val,.bool true],rfl,by simp only[RepL,Rep];exact⟨h3,trivial,trivial⟩⟩
   |false=>simp only[lkV,Bool.false_eq_true,if_false];exact h3
 rcases mview_sound sm hv hx with⟨rfl,rfl⟩|⟨rr,fs,cl,rfl,h2,h3⟩
 ·refine hfin #[] (by simp[RepM]) ?_;simp only[Instr.lookup,Sem.run_bind,run_underlying hu,Result.andThen_ok,Sem.run_pure,run_checkKey hkd hd];rfl
 ·refine hfin fs h3 ?_;simp only[Instr.lookup,Sem.run_bind,run_underlying hu,Result.andThen_ok,Sem.run_pure,run_checkKey hkd hd,run_getMap h2];rfl
theorem sameBits_key1{k:Value}{kt n:Nat}(hk:keyKind kt k=true):Instr.sameBits n k k=true:=by
 cases k<;>simp[keyKind]at hk<;>simp[Instr.sameBits,bytes_beq]
theorem sameBits_key{k:Value}{kt:Nat}(hk:keyKind kt k=true):Instr.sameBits 10000 k k=true:=sameBits_key1 hk
theorem run_setMap{r:Nat}{fs:Array MapEntry}{cl:Nat}(o:Obj)(hr:w.heap[r]? =some (.map fs cl)):(setObj r o).run P w= .ok () {w with heap:=w.heap.setIfInBounds r o}:=by
 simp only[setObj,Sem.run,hr]
theorem StB.push{fs:Array MapEntry}{cl:Nat}(h:StB fs cl)(k x:Value):StB (fs.push ⟨k,x,cl⟩) (cl+1):=by
 unfold StB at h⊢;refine⟨fun e he=>?_,?_⟩
 ·rw [Array.toList_push]at he;rcases List.mem_append.1 he with he|he
  ·have:=h.1 e he;omega
  ·rw [List.mem_singleton]at he;rw[he];exact Nat.lt_succ_self _
 ·rw [Array.toList_push,List.map_append,List.nodup_append];refine⟨h.2,by simp,fun a ha b hb=>?_⟩;simp only[List.map_cons,List.map_nil,List.mem_singleton]at hb;obtain⟨e,he,rfl⟩:=List.mem_map.1 ha;have:=h.1 e he;omega
theorem Sim.setMap(sm:Sim β h w){id b cl cl':Nat}{es es':List (Value × PV)}{fs fs':Array MapEntry}(hob:h.obj id=some (.map es))(hb:(β id).b=some b)(hw:w.heap[b]? =some (.map fs cl))
  (hrep:RepM β h.next (Fz β h w) w es' fs'.toList)(hst:StB fs' cl'):
  Sim β (h.set id (.map es')) {w with heap:=w.heap.setIfInBounds b (.map fs' cl')}∧Ext β h w β (h.set id (.map es')) {w with heap:=w.heap.setIfInBounds b (.map fs' cl')}:=by
 have hlt:b<w.heap.size:=(Array.getElem?_eq_some_iff.1 hw).1;refine Sim.step sm id (.map es') rfl rfl rfl (by simp) (by simp[Heap.set]) (fun _ _=>rfl) (by simp[Heap.set]) (sm.lt id (by rw[hob];try rfl)) (fun id' hne=> .inr (by simp[Heap.set,hne])) (fun b' hb'=> .inr ⟨id,by rw[hob];try rfl,hb',.inl rfl⟩) (fun b' _ hb'=>?_) (fun m=>?_)
 ·have:b≠b':=fun e=>hb' (by rw[← e];exact hb);simp[Array.getElem?_setIfInBounds_ne this]
 ·simp only[ObjOk];exact⟨b,fs',cl',hb,by simp[hlt],RepM.mv m _ _ hrep,hst⟩
theorem mapUpdate_sound(sm:Sim β h w){t id:Nat}{m:Nat × Value}{kv x y:Value}{q:PV}{es es':List (Value × PV)}(hm:mapT P t=some m)(hob:h.obj id=some (.map es))(hk:keyKind m.1 kv=true)
  (hp:mput kv q es=some es')(hx:RepH β h w (.mp id) x)(hy:RepH β h w q y):
  ∃ w',(Instr.mapUpdate t x kv y).run P w= .ok () w'∧Sim β (h.set id (.map es')) w'∧Ext β h w β (h.set id (.map es')) w':=by
 obtain⟨k,e,i,hu,hi,hz,hkt⟩:=mapT_info hm;obtain⟨kd,hkd,hd⟩:=kdOk_of (P:=P) hk hkt;have hok:=sm.ok id _ hob;simp only[ObjOk]at hok;obtain⟨b,fs,cl,h1,h2,h3,hst⟩:=hok;simp only[RepH,Rep]at hx;obtain⟨_,b',hb',rfl⟩:=hx;rw[h1]at hb';simp at hb';subst hb';rcases mput_rep hk hd hy es es' fs.toList 0 h3 hp with⟨g1,g2⟩|⟨j,en,g1,g2,g3,g4⟩
 ·have h4:(Instr.findKey k kv fs.toList).run P w= .ok none w:=by simp[Instr.findKey,run_underlying hkd,g1]
  have:=Sim.setMap sm (cl':=cl+1) (fs':=fs.push ⟨kv,y,cl⟩) hob h1 h2 (by simpa using g2 cl) (hst.push kv y);refine⟨_,?_,this⟩;simp only[Instr.mapUpdate,Sem.run_bind,run_underlying hu,Result.andThen_ok,run_checkKey hkd hd,run_getMap h2,h4,run_setMap _ h2]
 ·have h4:(Instr.findKey k kv fs.toList).run P w= .ok (some (0+j,en.val)) w:=by simp[Instr.findKey,run_underlying hkd,g1]
  have hfs:fs[j]? =some en:=by rw[← Array.getElem?_toList];exact g2
  have hkk:(((fs[0+j]?).map (·.key)).getD kv)=kv:=by simp[hfs,g3]
  have hmod:(fs.modify (0+j) fun e=>{e with key:=kv,val:=y}).toList=fs.toList.set j {en with key:=kv,val:=y}:=by
   rw[Nat.zero_add];apply List.ext_getElem?;intro n;rw[Array.getElem?_toList,Array.getElem?_modify,List.getElem?_set];by_cases hn:j=n
   ·subst hn;have hjl:j<fs.toList.length:=(List.getElem?_eq_some_iff.1 g2).1;rw[if_pos rfl,if_pos rfl,if_pos hjl,hfs];try rfl
   ·rw [if_neg hn,if_neg hn];simp
  have:=Sim.setMap sm (cl':=cl) (fs':=fs.modify (0+j) fun e=>{e with key:=kv,val:=y}) hob h1 h2 (by rw[hmod];exact g4) (by
   unfold StB at hst⊢;rw[hmod];have hjl:j<fs.toList.length:=(List.getElem?_eq_some_iff.1 g2).1;have hen:fs.toList[j]=en:=(List.getElem?_eq_some_iff.1 g2).2;have hmem:en∈fs.toList:=List.mem_of_getElem? g2;refine⟨fun x hx=>?_,?_⟩
   ·rcases List.mem_or_eq_of_mem_set hx with hx|hx
    ·exact hst.1 x hx
    ·rw [hx];exact hst.1 en hmem
   ·have:((fs.toList.set j {en with key:=kv,val:=y}).map (·.born))=fs.toList.map (·.born):=by
     rw[List.map_set];apply List.ext_getElem?;intro n;rw[List.getElem?_set];split
     ·rename_i hn;subst hn;rw[if_pos (by simpa using hjl),List.getElem?_map,g2];try rfl
     ·rfl
    rw[this];exact hst.2)
  refine⟨_,?_,this⟩;have hks:(Instr.keyThatStays kv kv).run P w= .ok kv w:=by simp[Instr.keyThatStays,sameBits_key hk]
  simp only[Instr.mapUpdate,Sem.run_bind,run_underlying hu,Result.andThen_ok,run_checkKey hkd hd,run_getMap h2,h4,hkk,hks,run_setMap _ h2]
theorem makeMap_sound(sm:Sim β h w)(t:Nat): ∃ v w' β',(Instr.makeMap t none).run P w= .ok v w'∧Sim β' (h.new (.map [])) w'∧Ext β h w β' (h.new (.map [])) w'∧RepH β' (h.new (.map [])) w' (.mp h.next) v:=by
 have:=Sim.step (h':=h.new (.map [])) (β':=⟨fun id=>if id=h.next then⟨some w.heap.size,0,0,0⟩else β id,β.X⟩) (w':=w.alloc (.map #[] 0)) sm h.next (.map []) rfl rfl rfl (by simp) (by simp[Heap.new]) (fun id hid=>by simp;intro e;omega) (by simp[Heap.new]) (by simp[Heap.new]) (fun id hne=> .inr (by simp[Heap.new,hne])) (fun b hb=> .inl (by simp at hb;omega)) (fun b hb _=>heap_alloc_old w _ hb) (fun m=>by
  simp only[ObjOk,if_true];exact⟨w.heap.size, #[],0,rfl,heap_alloc_new w _,by simp[RepM],by simp[StB]⟩)
 refine⟨.map (some w.heap.size),_,_,by simp[Instr.makeMap],this.1,this.2,?_⟩;simp[RepH,Rep,Heap.new]
theorem u8T_info{t:Nat}(hu:u8T P t=true): ∃ e,P.underlying t=some (.slice e)∧P.underlying e=some (.int .u8):=by
 unfold u8T at hu;split at hu
 ·rename_i e he;split at hu
  ·rename_i h2;exact⟨e,he,h2⟩
  ·simp at hu
 ·simp at hu
theorem bytesR_at(s:ByteArray)(cap n:Nat)(F:Nat→Prop):RowsAt β n F w 1 (bytesR s.data.toList) (bytesRow s cap):=by
 intro i r hr;simp only[bytesR,List.getElem?_map]at hr;cases hi:s.data.toList[i]? with
 |none=>simp[hi]at hr
 |some b=>
  simp[hi]at hr;subst hr;refine⟨rfl,fun j p hp=>?_⟩;cases j with
  |succ j=>simp at hp
  |zero=>
   simp at hp;subst hp;rw[Array.getElem?_toList]at hi;have hlt:i<s.data.size:=(Array.getElem?_eq_some_iff.1 hi).1;refine⟨.int .u8 b.toNat,?_,by simp[Value.oneCell'],by simp only[Rep]⟩;rw[Nat.mul_one,Nat.add_zero,bytesRow,Array.getElem?_append_left (by simpa using hlt)];simp[hi]
theorem bytesRow_size(s:ByteArray){cap:Nat}(h:s.size≤cap):(bytesRow s cap).size=cap:=by
 simp[bytesRow];have:s.data.size=s.size:=rfl;omega
theorem Sim.newRowsF(sm:Sim β h w)(z:Nat)(rows:List (List PV))(c:Array Value)(e:TypeId)(fr:Nat × Nat)(hfr: ∀ i,i<c.size→¬ (fr.1≤i∧i<fr.2))(hr:RowsAt β h.next (Fz β h w) w z rows c)(hlen:rows.length*z≤c.size):
  Sim ⟨fun id=>if id=h.next then⟨some w.heap.size,0,z,c.size⟩else β id,β.X⟩ (h.new (.arr z rows)) (w.alloc (.cells c e fr))∧
  Ext β h w ⟨fun id=>if id=h.next then⟨some w.heap.size,0,z,c.size⟩else β id,β.X⟩ (h.new (.arr z rows)) (w.alloc (.cells c e fr)):=by
 refine Sim.step sm h.next (.arr z rows) rfl rfl rfl (by simp) (by simp[Heap.new]) (fun id hid=>by simp;intro e;omega) (by simp[Heap.new]) (by simp[Heap.new]) (fun id hne=> .inr (by simp[Heap.new,hne])) (fun b hb=> .inl (by simp at hb;omega)) (fun b hb _=>heap_alloc_old w _ hb) (fun m=>?_)
 simp only[ObjOk,if_true];exact⟨trivial,.inr ⟨w.heap.size,c,e,fr,rfl,heap_alloc_new w _,rfl,by omega,hfr,hr.rep m (heap_alloc_new w _)⟩⟩
theorem strBytes_sound(sm:Sim β h w){src dst:Nat}{s:ByteArray}{ow:Bool}{r:PV}(hs:P.underlying src=some .string)(hu:u8T P dst=true)(hn:s.size≤140737488355328)
  (he:(if ow then some (PV.own h.next 0 s.data.toList.length,h.new (.arr 1 (bytesR s.data.toList)))else some (.imm 1 (bytesR s.data.toList),h))=some (r,h')):
  ∃ v w' β',(convert src dst (.string s)).run P w= .ok v w'∧Sim β' h' w'∧Ext β h w β' h' w'∧RepH β' h' w' r v:=by
 obtain⟨e,h1,h2⟩:=u8T_info hu;have hge:=grownCap_ge w s.size 0 e;have hm:grownCap w s.size 0 e≤maxLen:=grownCap_le_maxLen w _ _ e (by simp only[maxLen];omega);have hsz:=bytesRow_size s hge;have hlen:s.data.toList.length=s.size:=by rw[Array.length_toList];try rfl
 have hbl:(bytesR s.data.toList).length=s.size:=by simp[bytesR]
 obtain⟨d1,d2⟩:=sm.drew;cases ow with
 |true=>
  simp at he;obtain⟨rfl,rfl⟩:=he;obtain⟨a1,a2⟩:=Sim.newRowsF d1 1 (bytesR s.data.toList) (bytesRow s (grownCap w s.size 0 e)) e ((bytesRow s (grownCap w s.size 0 e)).size,(bytesRow s (grownCap w s.size 0 e)).size+1) (fun i hi=>by simp only;omega) (bytesR_at s _ _ _) (by rw[hbl,hsz];omega);refine⟨_,_,_,run_bytes_of_string w src dst e s hs h1 h2,a1,d2.trans a2,?_⟩;simp only[RepH,Rep];refine⟨by simp[Heap.new],some ⟨w.heap.size,0,none⟩,grownCap w s.size 0 e,?_,?_,hm,.inr ⟨w.heap.size,?_,?_,?_⟩⟩
  ·simp
  ·simpa using hge
  ·simp
  ·simp
  ·simp [hsz]
 |false=>
  simp at he;obtain⟨rfl,rfl⟩:=he;obtain⟨a1,a2,a3⟩:=d1.junk (.cells (bytesRow s (grownCap w s.size 0 e)) e ((bytesRow s (grownCap w s.size 0 e)).size,(bytesRow s (grownCap w s.size 0 e)).size+1));refine⟨_,_,β,run_bytes_of_string w src dst e s hs h1 h2,a1,d2.trans a2,?_⟩;simp only[RepH,Rep];refine⟨some ⟨w.heap.size,0,none⟩,grownCap w s.size 0 e,by rw[hbl],by rw[hbl];exact hge,hm,.inr ⟨w.heap.size,0,a3,rfl,?_⟩⟩;exact(bytesR_at s _ _ _).rep a2.mv (heap_alloc_new w.drew _)
theorem byteRow_vals{n:Nat}{F:Nat→Prop}: ∀ {rows:List (List PV)}{l:List UInt8}{xs:List Value},byteRow rows=some l→RepL β n F w rows.flatten xs→ ∃ ns:List Int,xs=ns.map (Value.int .u8)∧ns.map (fun n=>UInt8.ofNat n.toNat)=l:=by
 intro rows
 induction rows with
 |nil=>intro l xs hb hx;simp[byteRow]at hb;subst hb;cases xs<;>simp[RepL]at hx;exact⟨[],rfl,rfl⟩
 |cons r rows ih=>
  intro l xs hb hx;unfold byteRow at hb;split at hb
  ·simp_all
  ·rename_i n' rest heq;simp only[List.cons.injEq]at heq;obtain⟨rfl,rfl⟩:=heq;cases hr:byteRow rows with
   |none=>simp[hr]at hb
   |some l'=>
    simp[hr]at hb;subst hb;cases xs with
    |nil=>simp[RepL]at hx
    |cons x xs=>
     simp only[List.flatten_cons,List.cons_append,List.nil_append,RepL,Rep]at hx;obtain⟨ns,h1,h2⟩:=ih hr hx.2;exact⟨n'::ns,by simp[hx.1,h1],by simp[h2]⟩
  ·simp at hb
theorem foldl_push(ns:List Int)(s:ByteArray):ns.foldl (fun r n=>r.push (UInt8.ofNat n.toNat)) s=⟨(s.data.toList++ns.map fun n=>UInt8.ofNat n.toNat).toArray⟩:=by
 induction ns generalizing s with
 |nil=>simp
 |cons n ns ih=>rw[List.foldl_cons,ih];simp[ByteArray.push]
theorem bytesStr_sound(sm:Sim β h w){src dst:Nat}{y:PV}{rows:List (List PV)}{l:List UInt8}{x:Value}(hu:u8T P src=true)(hd:P.underlying dst=some .string)(hz:zOk h 1 y=true)(hv:view h y=some rows)(hb:byteRow rows=some l)
  (hx:RepH β h w y x):(convert src dst x).run P w= .ok (.string ⟨l.toArray⟩) w:=by
 obtain⟨e,h1,h2⟩:=u8T_info hu;obtain⟨aa,cap,rfl,hle,h3⟩:=view_sound sm hv hz hx;rw[run_convert_bytes_string w src dst e aa _ _ h1 h2 hd];have hz1: ∀ r∈rows,r.length=1:=by
  rcases h3 with rfl|⟨b,o,_,h4⟩
  ·simp
  ·exact h4.lens
 obtain⟨ys,hyr,hyl,hy1,hyn⟩:=firstCells_sound (P:=P) (w:=w) (cap:=cap) hz1 h3;obtain⟨ns,rfl,hns⟩:=byteRow_vals hb hyl;cases aa with
 |none=>
  rcases h3 with rfl|⟨b,o,h4,_⟩
  ·simp [byteRow]at hb;subst hb;simp[Conv.bytesToString];rfl
  ·simp at h4
 |some aa=>
  have hld:(loadCells aa rows.length).run P w= .ok (ns.map (Value.int .u8)).toArray w:=by
   rcases h3 with rfl|⟨b,o,h4,h5⟩
   ·have:ns=[]:=(by simpa using hyn);subst this;simp[loadCells,loadCellsFrom]
   ·simpa [Builtin.firstCells]using hyr
  rw[run_bytesToString w aa _ cap ns hld,foldl_push,hns];simp
theorem kT_bool{t:Nat}(hk:kT P t=1):P.underlying t=some .bool:=by unfold kT at hk;split at hk<;>first|assumption|(simp at hk)
theorem kT_ptr{t:Nat}(hk:kT P t=4): ∃ e,P.underlying t=some (.pointer e):=by unfold kT at hk;split at hk<;>first|exact⟨_, ‹_›⟩|(simp at hk)
theorem kT_map{t:Nat}(hk:kT P t=6): ∃ k e,P.underlying t=some (.map k e):=by unfold kT at hk;split at hk<;>first|exact⟨_,_, ‹_›⟩|(simp at hk)
theorem kT_slc{t:Nat}(hk:kT P t=5): ∃ e,P.underlying t=some (.slice e):=by unfold kT at hk;split at hk<;>first|exact⟨_, ‹_›⟩|(simp at hk)
theorem kT_iface{t:Nat}(hk:kT P t=7): ∃ ms,P.underlying t=some (.interface ms):=by unfold kT at hk;split at hk<;>first|exact⟨_, ‹_›⟩|(simp at hk)
theorem peq_sound{n:Nat}{F:Nat→Prop}{t d:Nat}{p q:PV}{x y:Value}{b:Bool}{c:Bool}(he:peq (kT P t) c p q=some b)(hx:Rep β n F w p x)(hy:Rep β n F w q y):
  (Op.equalIn (d+1) t x y).run P w= .ok b w∧ ∀ (op:BinOp)(u v:Operand),c=(isConstB u||isConstB v)→(eqGuard op t u v x y).run P w= .ok () w:=by
 unfold peq at he;split at he<;>(try(simp at he;done))<;>(split at he<;>(try(simp at he;done)))<;>rename_i hk<;>simp at he<;>subst he
 ·simp only[Rep]at hx hy;subst hx;subst hy;refine⟨by simp[Op.equalIn,run_underlying (kT_bool hk)],fun op u v _=>by cases op<;>rfl⟩
 ·obtain ⟨ms,hu⟩:=kT_iface hk.1;simp only[Rep]at hx hy;subst hx;subst hy;refine⟨by simp[Op.equalIn,run_underlying hu],fun op u v hc=>?_⟩;rw[hk.2]at hc;have hor:isConstB u=true∨isConstB v=true:=(Bool.or_eq_true _ _).mp hc.symm;rcases hor with h1|h1
  ·cases u<;>simp[isConstB]at h1;cases op<;>rfl
  ·cases v<;>simp[isConstB]at h1;cases op<;>cases u<;>rfl
 ·obtain ⟨ms,hu⟩:=kT_iface hk;simp only[Rep]at hx hy;subst hx;subst hy;exact⟨by simp[Op.equalIn,run_underlying hu],fun op u v _=>by cases op<;>rfl⟩
 ·obtain ⟨ms,hu⟩:=kT_iface hk;simp only[Rep]at hx hy;subst hx;subst hy;exact⟨by simp[Op.equalIn,run_underlying hu],fun op u v _=>by cases op<;>rfl⟩
 ·obtain ⟨e,hu⟩:=kT_ptr hk;simp only[Rep]at hx hy;subst hx;subst hy;exact⟨by simp[Op.equalIn,run_underlying hu],fun op u v _=>by cases op<;>rfl⟩
 ·obtain ⟨e,hu⟩:=kT_ptr hk;simp only[Rep]at hx hy;obtain⟨_,b,_,rfl⟩:=hx;subst hy;exact⟨by simp[Op.equalIn,run_underlying hu],fun op u v _=>by cases op<;>rfl⟩
 ·obtain ⟨e,hu⟩:=kT_ptr hk;simp only[Rep]at hx hy;obtain⟨_,b,_,rfl⟩:=hy;subst hx;exact⟨by simp[Op.equalIn,run_underlying hu],fun op u v _=>by cases op<;>rfl⟩
 ·obtain ⟨e,hu⟩:=kT_ptr hk;simp only[Rep]at hx hy;obtain⟨b,o,_,rfl,_⟩:=hx;subst hy;exact⟨by simp[Op.equalIn,run_underlying hu],fun op u v _=>by cases op<;>rfl⟩
 ·obtain ⟨e,hu⟩:=kT_ptr hk;simp only[Rep]at hx hy;obtain⟨b,o,_,rfl,_⟩:=hy;subst hx;exact⟨by simp[Op.equalIn,run_underlying hu],fun op u v _=>by cases op<;>rfl⟩
 ·obtain ⟨k,e,hu⟩:=kT_map hk;simp only[Rep]at hx hy;obtain⟨_,b,_,rfl⟩:=hx;subst hy;exact⟨by simp[Op.equalIn,run_underlying hu],fun op u v _=>by cases op<;>rfl⟩
 ·obtain ⟨k,e,hu⟩:=kT_map hk;simp only[Rep]at hx hy;subst hx;subst hy;exact⟨by simp[Op.equalIn,run_underlying hu],fun op u v _=>by cases op<;>rfl⟩
 ·obtain ⟨e,hu⟩:=kT_slc hk;simp only[Rep]at hx hy;subst hx;subst hy;exact⟨by simp[Op.equalIn,run_underlying hu],fun op u v _=>by cases op<;>rfl⟩
 ·obtain ⟨e,hu⟩:=kT_slc hk;simp only[Rep]at hx hy;subst hx;subst hy;exact⟨by simp[Op.equalIn,run_underlying hu],fun op u v _=>by cases op<;>rfl⟩
 ·obtain ⟨e,hu⟩:=kT_slc hk.1;simp only[Rep]at hx hy;obtain⟨a,cap,rfl,_,_,hr⟩:=hx;subst hy;rcases hr with rfl|⟨b,o,_,rfl,_⟩
  ·simp at hk
  ·exact ⟨by simp[Op.equalIn,run_underlying hu],fun op u v _=>by cases op<;>rfl⟩
 ·obtain ⟨e,hu⟩:=kT_slc hk.1;simp only[Rep]at hx hy;obtain⟨_,a,cap,rfl,hlc,_,hr⟩:=hx;subst hy;rcases hr with rfl|⟨b,_,rfl,_⟩
  ·omega
  ·exact ⟨by simp[Op.equalIn,run_underlying hu],fun op u v _=>by cases op<;>rfl⟩
theorem int_int_sound{op:BinOp}{t:Nat}{k k':IntKind}{a b:Int}{v:Value}(hv:(if isShift op then pshift op k a b else if k=k' then pint op k a b else none)=some v)(u1 u2:Operand):
    (do eqGuard op t u1 u2 (.int k a) (.int k' b);binOp op t (.int k a) (.int k' b):Sem Value).run P w= .ok v w:=by
  have hg:eqGuard op t u1 u2 (.int k a) (.int k' b)=pure ():=by cases op<;>rfl
  rw[hg];simp only[pure_bind];cases op<;>simp only[isShift,Bool.false_eq_true,if_false,if_true]at hv;all_goals first
    | (simp only [pshift] at hv
       split at hv
       · simp at hv
       · rename_i hb;simp at hv;subst hv;simp[binOp,Op.shift,hb];done)
    | (split at hv
       · rename_i hk;subst hk;simp only[pint]at hv;first
           |(simp at hv;done)
           |(simp at hv;subst hv;simp[binOp,Op.intArith,Op.intBits,Op.intCmp,andK,orK,xorK,andnK];done)
           | (split at hv
              · simp at hv
              · rename_i hb;simp at hv;subst hv;simp[binOp,Op.intDiv,hb])
       · simp at hv)
theorem str_str_sound{op:BinOp}{t:Nat}{a b:ByteArray}{v:Value}(hv:pstr op a b=some v)(u1 u2:Operand):
    (do eqGuard op t u1 u2 (.string a) (.string b);binOp op t (.string a) (.string b):Sem Value).run P w= .ok v w:=by
  have hg:eqGuard op t u1 u2 (.string a) (.string b)=pure ():=by cases op<;>rfl
  rw[hg];simp only[pure_bind];cases op<;>simp only[pstr]at hv<;>first
    |(simp at hv;done)
    |(simp at hv;subst hv;simp[binOp,Op.stringOp,ByteArray.toList_eq];done)
    | (split at hv
       · simp at hv
       · rename_i hb;simp at hv;subst hv;simp only[binOp,Op.stringOp,hb,if_false];rfl)
theorem pabL_sound{n:Nat}{F:Nat→Prop}{op:BinOp}{t:Nat}{k k':IntKind}{lo hi m r0 c:Int}{r:PV}{x:Value}(u1 u2:Operand)(hv:pabL op k lo hi m r0 k' c=some r)(hx:Rep β n F w (.ab k lo hi m r0) x):
  ∃ v,(do eqGuard op t u1 u2 x (.int k' c);binOp op t x (.int k' c):Sem Value).run P w= .ok v w∧Rep β n F w r v:=by
 simp only[Rep]at hx;obtain⟨i,i1,i2,i3,rfl⟩:=hx;unfold pabL at hv;split at hv
 case isFalse=>simp at hv
 rename_i hk;subst hk;have key: ∀ v,pint op k i c=some v→isShift op=false→ ∃ v',(do eqGuard op t u1 u2 (.int k i) (.int k c);binOp op t (.int k i) (.int k c):Sem Value).run P w= .ok v' w∧Rep β n F w (.sc v) v':=by
  intro v hpv hns;exact⟨v,int_int_sound (by rw[hns,if_neg (by simp),if_pos rfl];exact hpv) u1 u2,by simp only[Rep]⟩
 split at hv
 ·split at hv
  ·rename_i hc;simp at hv;subst hv;obtain⟨rfl,hm⟩:=hc;have hpi:pint .rem k i c=some (.int k r0):=(by unfold pint;simp only;rw[if_neg (by omega),i3]);exact key _ hpi rfl
  ·simp at hv
 ·split at hv
  ·rename_i hc;obtain⟨rfl,hc1,hc2⟩:=hc;rw[Option.some.injEq]at hv;subst hv;refine⟨.int .i64 (IntKind.i64.wrap (i-c)),int_int_sound (by rfl) u1 u2,?_⟩;rw[IntWalk.i64_in _ ⟨by omega,by omega⟩];simp only[Rep];exact⟨i-c,by omega,by omega,Int.tmod_one _,rfl⟩
  ·simp at hv
 ·rename_i hop hop2;cases hc:cmpL op lo hi c with
  |none=>simp[hc]at hv
  |some b=>
   simp[hc]at hv;subst hv;have h1:pint op k i c=some (.bool b)∧isShift op=false:=by
    unfold cmpL at hc;split at hc<;>(try(simp at hc;done))<;>(refine⟨?_,rfl⟩)<;>simp only[pint,Option.some.injEq,Value.bool.injEq];all_goals(split at hc<;>(try(split at hc))<;>(try(simp at hc;done))<;>(simp at hc;subst hc;simp;omega))
   exact key _ h1.1 h1.2
theorem pabR_sound{n:Nat}{F:Nat→Prop}{op:BinOp}{t:Nat}{k k':IntKind}{lo hi m r0 c:Int}{r:PV}{y:Value}(u1 u2:Operand)(hv:pabR op k lo hi k' c=some r)(hy:Rep β n F w (.ab k lo hi m r0) y):
  ∃ v,(do eqGuard op t u1 u2 (.int k' c) y;binOp op t (.int k' c) y:Sem Value).run P w= .ok v w∧Rep β n F w r v:=by
 simp only[Rep]at hy;obtain⟨i,i1,i2,i3,rfl⟩:=hy;unfold pabR at hv;split at hv
 case isFalse=>simp at hv
 rename_i hk;subst hk;have key: ∀ v,pint op k c i=some v→isShift op=false→ ∃ v',(do eqGuard op t u1 u2 (.int k c) (.int k i);binOp op t (.int k c) (.int k i):Sem Value).run P w= .ok v' w∧Rep β n F w (.sc v) v':=by
  intro v hpv hns;exact⟨v,int_int_sound (by rw[hns,if_neg (by simp),if_pos rfl];exact hpv) u1 u2,by simp only[Rep]⟩
 split at hv
 ·split at hv
  ·rename_i hc;obtain⟨rfl,hc1,hc2⟩:=hc;rw[Option.some.injEq]at hv;subst hv;refine⟨.int .i64 (IntKind.i64.wrap (c-i)),int_int_sound (by rfl) u1 u2,?_⟩;rw[IntWalk.i64_in _ ⟨by omega,by omega⟩];simp only[Rep];exact⟨c-i,by omega,by omega,Int.tmod_one _,rfl⟩
  ·simp at hv
 ·rename_i hop;cases hc:cmpL (flipO op) lo hi c with
  |none=>simp[hc]at hv
  |some b=>
   simp[hc]at hv;subst hv;have h1:pint op k c i=some (.bool b)∧isShift op=false:=by
    unfold cmpL flipO at hc;cases op<;>simp only at hc<;>(try(simp at hc;done))<;>(refine⟨?_,rfl⟩)<;>simp only[pint,Option.some.injEq,Value.bool.injEq];all_goals(split at hc<;>(try(split at hc))<;>(try(simp at hc;done))<;>(simp at hc;subst hc;simp;omega))
   exact key _ h1.1 h1.2
theorem pbin_sound{n:Nat}{F:Nat→Prop}{op:BinOp}{t:Nat}{p q r:PV}{x y:Value}(u1 u2:Operand)(hv:pbin op (kT P t) (isConstB u1||isConstB u2) p q=some r)(hx:Rep β n F w p x)(hy:Rep β n F w q y):
  ∃ v,(do eqGuard op t u1 u2 x y;binOp op t x y:Sem Value).run P w= .ok v w∧Rep β n F w r v:=by
 unfold pbin at hv;split at hv
 ·rename_i k a k' b;simp only[Rep]at hx hy;subst hx;subst hy;cases hh:(if isShift op then pshift op k a b else if k=k' then pint op k a b else none)with
  |none=>simp[hh]at hv
  |some v=>
   rw[hh]at hv;simp at hv;subst hv;exact⟨v,int_int_sound hh u1 u2,by simp only[Rep]⟩
 ·simp only[Rep]at hx hy;subst hx;subst hy;rename_i a b;cases hh:pstr op a b with
  |none=>simp[hh]at hv
  |some v=>
   simp[hh]at hv;subst hv;exact⟨v,str_str_sound hh u1 u2,by simp only[Rep]⟩
 ·simp only[Rep]at hy;subst hy;exact pabL_sound u1 u2 hv hx
 ·simp only[Rep]at hx;subst hx;exact pabR_sound u1 u2 hv hy
 ·simp only[Rep]at hx hy;subst hy;obtain⟨i,_,_,i3,i4,rfl⟩:=hx;exact pabL_sound u1 u2 hv (by simp only[Rep];exact⟨_,i3,i4,Int.tmod_one _,rfl⟩)
 ·simp only[Rep]at hx hy;subst hx;obtain⟨i,_,_,i3,i4,rfl⟩:=hy;exact pabR_sound (m:=1) (r0:=0) u1 u2 hv (by simp only[Rep];exact⟨_,i3,i4,Int.tmod_one _,rfl⟩)
 ·simp only[Rep]at hx hy;obtain⟨i,a1,a2,_,_,rfl⟩:=hx;obtain⟨j,c1,c2,_,_,rfl⟩:=hy;have key: ∀ v,pint op .i64 (β.X.T+i) (β.X.T+j)=some v→isShift op=false→(do eqGuard op t u1 u2 (.int .i64 (β.X.T+i)) (.int .i64 (β.X.T+j));binOp op t (.int .i64 (β.X.T+i)) (.int .i64 (β.X.T+j)):Sem Value).run P w= .ok v w:=fun v hpv hns=>
   int_int_sound (by rw[hns,if_neg (by simp),if_pos rfl];exact hpv) u1 u2
  unfold plin at hv;split at hv
  ·have e: ∀ b,decide (β.X.T+i>β.X.T+j)=b→pint .gtr .i64 (β.X.T+i) (β.X.T+j)=some (.bool b):=fun b hb=>(by unfold pint;simp only;rw[hb]);split at hv
   ·rw [Option.some.injEq]at hv;subst hv;exact⟨_,key _ (e true (by simp;omega)) rfl,by simp only[Rep]⟩
   ·split at hv
    ·rw [Option.some.injEq]at hv;subst hv;exact⟨_,key _ (e false (by simp;omega)) rfl,by simp only[Rep]⟩
    ·cases hv
  ·split at hv
   ·rename_i hb;rw[Option.some.injEq]at hv;subst hv;refine⟨_,key (.int .i64 (IntKind.i64.wrap ((β.X.T+i)-(β.X.T+j)))) rfl rfl,?_⟩;have e1:(β.X.T+i)-(β.X.T+j)=i-j:=(by omega);rw[e1,IntWalk.i64_in _ ⟨by omega,by omega⟩];simp only[Rep];exact⟨i-j,by omega,by omega,Int.tmod_one _,rfl⟩
   ·cases hv
  ·cases hv
 ·rename_i hni hns hn1 hn2;have hgen: ∀ b,peq (kT P t) (isConstB u1||isConstB u2) p q=some b→binOp .eql t x y=(do pure (.bool (← Op.equal t x y)))∧binOp .neq t x y=(do pure (.bool (!(← Op.equal t x y)))):=by
   intro b hb;unfold peq at hb;split at hb<;>(try(simp at hb;done))<;>simp only[Rep]at hx hy;all_goals first
    |(subst hx;subst hy;exact⟨rfl,rfl⟩)
    |(obtain⟨_,_,_,rfl⟩:=hx;subst hy;exact⟨rfl,rfl⟩)
    |(obtain⟨_,_,_,rfl⟩:=hy;subst hx;exact⟨rfl,rfl⟩)
    |(obtain⟨_,_,_,rfl,_⟩:=hx;subst hy;exact⟨rfl,rfl⟩)
    |(obtain⟨_,_,_,rfl,_⟩:=hy;subst hx;exact⟨rfl,rfl⟩)
    |(obtain⟨_,_,rfl,_⟩:=hx;subst hy;exact⟨rfl,rfl⟩)
  split at hv
  ·cases hb:peq (kT P t) (isConstB u1||isConstB u2) p q with
   |none=>simp[hb]at hv
   |some b=>
    simp[hb]at hv;subst hv;obtain⟨h1,h2⟩:=peq_sound (d:=9999) hb hx hy;refine⟨.bool b,?_,by simp only[Rep]⟩;simp only[Sem.run_bind,h2 .eql u1 u2 rfl,Result.andThen_ok,(hgen b hb).1];show((Op.equalIn (9999+1) t x y).run P w).andThen _=_;rw[h1];try rfl
  ·cases hb:peq (kT P t) (isConstB u1||isConstB u2) p q with
   |none=>simp[hb]at hv
   |some b=>
    simp[hb]at hv;subst hv;obtain⟨h1,h2⟩:=peq_sound (d:=9999) hb hx hy;refine⟨.bool (!b),?_,by simp only[Rep]⟩;simp only[Sem.run_bind,h2 .neq u1 u2 rfl,Result.andThen_ok,(hgen b hb).2];show((Op.equalIn (9999+1) t x y).run P w).andThen _=_;rw[h1];try rfl
  ·simp at hv
theorem run_part_str{t i:Nat}(hk:kT P t=3){xs:Array Value}{v:Value}(hv:xs[i]? =some v):(part t xs i).run P w= .ok v w:=by
 have hu:P.underlying t=some .string:=by unfold kT at hk;split at hk<;>first|assumption|(simp at hk)
 have ha:aggB P t=false:=by simp[aggB,hk]
 simp[part,run_isAgg hu,ha,hv]
theorem eqFields_strs{n d:Nat}{F:Nat→Prop}{xs ys:List Value}: ∀ (fs:List Field)(i:Nat)(a b:List PV){e:Bool},sfOk P i fs=true→strsEq a b=some e→a.length=fs.length→
  RepL β n F w a (xs.drop i)→RepL β n F w b (ys.drop i)→(Op.eqFields (d+1) xs.toArray ys.toArray fs).run P w= .ok e w
 |[],i,a,b,e,_,he,hl,_,_=>by
  have:a=[]:=List.length_eq_zero_iff.1 hl;subst this;cases b with
  |nil=>simp[strsEq]at he;subst he;simp[Op.eqFields]
  |cons=>simp[strsEq]at he
 |f::fs,i,[],b,e,_,_,hl,_,_=>by simp at hl
 |f::fs,i,p::a,b,e,hs,he,hl,ha,hb=>by
  match p,b,he,ha,hb with
  | .sc (.string s),.sc (.string s')::m,he1,ha1,hb1=>
   simp only[strsEq,Option.map_eq_some_iff]at he1;obtain⟨r,he2,rfl⟩:=he1;simp only[sfOk,Bool.and_eq_true,decide_eq_true_eq,beq_iff_eq]at hs;obtain⟨⟨⟨hn,ho⟩,hk⟩,hs⟩:=hs;have hu:P.underlying f.type=some .string:=(by unfold kT at hk;split at hk<;>first|assumption|(simp at hk));have get: ∀ (zs:List Value)(s:ByteArray)(l:List PV),RepL β n F w (.sc (.string s)::l) (zs.drop i)→zs[i]? =some (.string s)∧RepL β n F w l (zs.drop (i+1)):=by
    intro zs s l hz;have hd: ∀ u us,zs.drop i=u::us→zs[i]? =some u∧zs.drop (i+1)=us:=by
     intro u us hu2;have e1:(zs.drop i)[0]? =some u:=(by rw[hu2];try rfl);rw[List.getElem?_drop]at e1;refine⟨by simpa using e1,?_⟩;have e2:=congrArg (List.drop 1) hu2;rw[List.drop_drop]at e2;simpa using e2
    cases hc:zs.drop i with
    |nil=>rw[hc]at hz;simp[RepL]at hz
    |cons u us=>
     rw[hc]at hz;simp only[RepL,Rep]at hz;obtain⟨g1,g2⟩:=hd u us hc;rw[g1,hz.1,g2];exact⟨rfl,hz.2⟩
   obtain⟨x1,x2⟩:=get xs s a ha1;obtain⟨y1,y2⟩:=get ys s' m hb1;have ih:=eqFields_strs (d:=d) fs (i+1) a m hs he2 (by simpa using hl) x2 y2;have q1:=run_part_str (P:=P) (w:=w) hk (xs:=xs.toArray) (by simpa using x1);have q2:=run_part_str (P:=P) (w:=w) hk (xs:=ys.toArray) (by simpa using y1);simp only[Op.eqFields,hn,ne_eq,not_false_eq_true,if_true,Sem.run_bind,ho,q1,q2,Result.andThen_ok,run_equalIn_string w d f.type s s' hu,ByteArray.toList_eq];cases hc:(s.data.toList==s'.data.toList)
   ·simp
   ·simpa using ih
theorem sbin_sound{n:Nat}{F:Nat→Prop}{op:BinOp}{t:Nat}{p q r:PV}{x y:Value}(u1 u2:Operand)(hv:sbin op (strsT P t) p q=some r)(hx:Rep β n F w p x)(hy:Rep β n F w q y):
  ∃ v,(do eqGuard op t u1 u2 x y;binOp op t x y:Sem Value).run P w= .ok v w∧Rep β n F w r v:=by
 unfold sbin at hv;split at hv
 ·rename_i a b;split at hv
  ·rename_i hn;unfold strsT at hn;split at hn
   ·rename_i fs hu;split at hn
    ·rename_i hc;obtain⟨hs,hg,hf⟩:=hc;simp only[Option.some.injEq]at hn;simp only[Rep]at hx hy;obtain⟨xs,rfl,_,hx⟩:=hx;obtain⟨ys,rfl,_,hy⟩:=hy;have hfo:P.fieldsOf t=fs:=(by unfold Program.fieldsOf;rw[hu]);have key: ∀ e,strsEq a b=some e→(Op.equalIn 10000 t (.agg xs.toArray) (.agg ys.toArray)).run P w= .ok e w:=by
      intro e he;show(Op.equalIn (9999+1) t _ _).run P w=_;rw[run_equalIn_struct w 9999 t _ _ (by rw[hu,hfo]) hs,hfo];exact eqFields_strs (d:=9998) fs.toList 0 a b hf he (by rw[← hn];simp) (by simpa using hx) (by simpa using hy)
     cases op<;>simp only[]at hv<;>(try(simp at hv;done))
     ·simp only[Option.map_eq_some_iff]at hv;obtain⟨e,he,rfl⟩:=hv;refine⟨.bool e,?_,by simp only[Rep]⟩;rw[Sem.run_bind,run_eqGuard_agg w _ t u1 u2 _ _ hg,Result.andThen_ok,run_eql_struct,key e he];try rfl
     ·simp only[Option.map_eq_some_iff]at hv;obtain⟨e,he,rfl⟩:=hv;refine⟨.bool !e,?_,by simp only[Rep]⟩;rw[Sem.run_bind,run_eqGuard_agg w _ t u1 u2 _ _ hg,Result.andThen_ok,run_neq_struct,key e he];try rfl
    ·simp at hn
   ·simp at hn
  ·simp at hv
 ·simp at hv
end
end Go.AM
namespace Go.AM
section
variable {P:Program}{β:Env}{h h':Heap}{w:World}{s:Slots}{a:Act}
theorem kT_slice{t:Nat}(hk:kT P t=5): ∃ e,P.underlying t=some (.slice e):=by unfold kT at hk;split at hk<;>first|exact⟨_, ‹_›⟩|(simp at hk)
theorem kT_str{t:Nat}(hk:kT P t=3):P.underlying t=some .string:=by unfold kT at hk;split at hk<;>first|assumption|(simp at hk)
theorem len_sound(sm:Sim β h w){t n:Nat}{p:PV}{x:Value}(ty:TypeId)(hk:lenK (kT P t) p=true)(hl:lenP h p=some n)(hx:RepH β h w p x):(Builtin.len_ #[t] ty #[x]).run P w= .ok (.int .i64 (n:Int)) w:=by
 unfold lenP at hl;split at hl
 ·simp [lenK]at hk;obtain⟨e,hu⟩:=kT_slice hk;simp at hl;subst hl;simp only[RepH,Rep]at hx;obtain⟨aa,cap,rfl,_⟩:=hx;simp[Builtin.len_,run_underlying hu,goInt]
 ·simp [lenK]at hk;obtain⟨e,hu⟩:=kT_slice hk;simp at hl;subst hl;simp only[RepH,Rep]at hx;obtain⟨aa,rfl⟩:=hx;simp[Builtin.len_,run_underlying hu,goInt]
 ·simp [lenK]at hk;obtain⟨e,hu⟩:=kT_slice hk;simp at hl;subst hl;simp only[RepH,Rep]at hx;subst hx;simp[Builtin.len_,run_underlying hu,goInt]
 ·simp [lenK]at hk;obtain⟨e,hu⟩:=kT_slice hk;simp at hl;subst hl;simp only[RepH,Rep]at hx;obtain⟨_,aa,cap,rfl,_⟩:=hx;simp[Builtin.len_,run_underlying hu,goInt]
 ·simp [lenK]at hk;have hu:=kT_str hk;simp at hl;subst hl;simp only[RepH,Rep]at hx;subst hx;simp[Builtin.len_,run_underlying hu,goInt]
 ·simp [lenK]at hk;obtain⟨k,e,hu⟩:=kT_map hk;simp at hl;subst hl;simp only[RepH,Rep]at hx;subst hx;simp[Builtin.len_,run_underlying hu,goInt]
 ·simp [lenK]at hk;obtain⟨k,e,hu⟩:=kT_map hk;rename_i id;split at hl
  ·rename_i es hob;simp at hl;subst hl;have hok:=sm.ok id _ hob;simp only[ObjOk]at hok;obtain⟨b,fs,cl,h1,h2,h3,_⟩:=hok;simp only[RepH,Rep]at hx;obtain⟨_,b',hb',rfl⟩:=hx;rw[h1]at hb';simp at hb';subst hb';have hlen: ∀ (es:List (Value × PV))(fs:List MapEntry),RepM β h.next (Fz β h w) w es fs→es.length=fs.length:=by
    intro es
    induction es with
    |nil=>intro fs;cases fs<;>simp[RepM]
    |cons e es ih=>intro fs;cases fs with
     |nil=>simp[RepM]
     |cons f fs=>simp only[RepM,List.length_cons];intro hh;rw[ih fs hh.2]
   have hh:=hlen es fs.toList h3;simp[Builtin.len_,run_underlying hu,run_getMap h2,goInt,hh]
  ·simp at hl
 ·simp at hl
def Ran(P:Program)(a:Act)(o:Oper)(β:Env)(h:Heap)(w:World)(r:PV)(h':Heap):Prop:=
 ∃ n v w' β',(execOp a.eval o).run P w= .ok n w'∧(n= .value v∨(n= .skip∧v=undef))∧Sim β' h' w'∧Ext β h w β' h' w'∧RepH β' h' w' r v
theorem Ran.pure(sm:Sim β h w){o:Oper}{r:PV}{v:Value}(he:(execOp a.eval o).run P w= .ok (.value v) w)(hr:RepH β h w r v):Ran P a o β h w r h:=
 ⟨_,v,w,β,he,.inl rfl,sm,Ext.refl,hr⟩
theorem eff_sound(sm:Sim β h w)(hs: ∀ t,RepH β h w (s t) (a.tmps.getD t undef)){ow:Bool}{r:PV}(o:Oper)(he:eff P ow o.op (pev s) h=some (r,h')):Ran P a o β h w r h':=by
 obtain⟨dst,op,type,pos,after,guard⟩:=o;have rep:=pev_rep hs;simp only at he;cases op
 case move x=>
  simp only[eff,Option.some.injEq,Prod.mk.injEq]at he;obtain⟨rfl,rfl⟩:=he;exact Ran.pure sm rfl (rep x)
 case assign x=>
  simp only[eff,Option.some.injEq,Prod.mk.injEq]at he;obtain⟨rfl,rfl⟩:=he;exact Ran.pure sm rfl (rep x)
 case pick c x y=>
  simp only[eff]at he;split at he
  ·rename_i t hc;simp only[Option.some.injEq,Prod.mk.injEq]at he;obtain⟨rfl,rfl⟩:=he;have h1:=rep c;rw[hc]at h1;simp only[RepH,Rep]at h1;refine Ran.pure (v:=if t then a.eval x else a.eval y) sm (by cases t<;>simp[execOp,h1,asBool]) ?_;cases t
   ·exact rep y
   ·exact rep x
  ·simp at he
 case alloc t=>
  simp only[eff]at he;cases hz:zeroT P t with
  |none=>simp[hz]at he
  |some z=>
   simp only[hz,Option.bind_some]at he;split at he
   ·rename_i hpos;simp only[Option.some.injEq,Prod.mk.injEq]at he;obtain⟨rfl,rfl⟩:=he;obtain⟨i,v,h1,h2,h3,h4⟩:=zeroT_info hz;obtain⟨β',g1,g2,g3⟩:=newVar_sound sm t v (z.map .sc) (by rw[h3];exact RepL.sc z) (by rw[h3];exact h4);rw[List.length_map]at g1 g2 g3;exact⟨_,_,_,β',by simp[execOp,Instr.alloc,zeroValue,typeInfo,h1,h2,run_newVar],.inl rfl,g1,g2,g3⟩
   ·simp at he
 case box t x=>
  simp only[eff]at he;split at he
  ·simp at he
  ·rename_i hall;simp only[Bool.not_eq_false]at hall;obtain⟨hl,h1⟩:=Rep.cells hall (rep x);split at he
   ·split at he
    ·simp only[Option.some.injEq,Prod.mk.injEq]at he;obtain⟨rfl,rfl⟩:=he;obtain⟨β',g1,g2,g3⟩:=newVar_sound sm t (a.eval x) _ hl h1;exact⟨_,_,_,β',by simp[execOp,Instr.box,run_newVar],.inl rfl,g1,g2,g3⟩
    ·simp at he
   ·simp only[Option.some.injEq,Prod.mk.injEq]at he;obtain⟨rfl,rfl⟩:=he;obtain⟨g1,g2,g3⟩:=newConst_sound sm t (a.eval x) _ hl h1;exact⟨_,_,_,β,by simp[execOp,Instr.box,run_newVar],.inl rfl,g1,g2,g3⟩
 case build t parts=>
  simp only[eff]at he;split at he
  ·cases hz:zeroT P t with
   |none=>simp[hz]at he
   |some z=>
    cases hp:fieldsT P t with
    |none=>simp[hz,hp]at he
    |some places=>
     simp only[hz,hp,Option.bind_some]at he;cases hl:lay (fun i=>places[i]?) (z.map .sc) (parts.toList.map fun p=>(p.1,pev s p.2))with
     |none=>simp[hl]at he
     |some cs=>
      simp only[hl,Option.map_some,Option.some.injEq,Prod.mk.injEq]at he;obtain⟨rfl,rfl⟩:=he;obtain⟨v,g1,g2⟩:=build_struct_sound hs hz hp hl;exact Ran.pure sm (by simp only[execOp,Sem.run_bind,g1,Result.andThen_ok];rfl) g2
  ·split at he
   ·cases hz:zeroT P t with
    |none=>simp[hz]at he
    |some z=>
     cases hp:arT P t with
     |none=>simp[hz,hp]at he
     |some na=>
      simp only[hz,hp,Option.bind_some]at he;cases hl:lay (fun i=>some (i*na.2,na.2)) (z.map .sc) (parts.toList.map fun p=>(p.1,pev s p.2))with
      |none=>simp[hl]at he
      |some cs=>
       simp only[hl,Option.map_some,Option.some.injEq,Prod.mk.injEq]at he;obtain⟨rfl,rfl⟩:=he;obtain⟨v,g1,g2⟩:=build_array_sound hs hz hp hl;exact Ran.pure sm (by simp only[execOp,Sem.run_bind,g1,Result.andThen_ok];rfl) g2
   ·simp at he
 case buildSlice t len parts=>
  simp only[eff]at he;cases hz:elT P t with
  |none=>simp[hz]at he
  |some zb=>
   cases hzz:elZ P t with
   |none=>simp[hz,hzz]at he
   |some z=>
    simp only[hz,hzz,Option.bind_some]at he;split at he
    case isFalse=>simp at he
    rename_i hc;cases hl:rowsOf zb.1 (List.replicate len (z.map .sc)) (parts.toList.map fun p=>(p.1,pev s p.2))with
    |none=>simp[hl]at he
    |some rows=>
     simp only[hl,Option.bind_some]at he;obtain⟨v,w',β',g1,g2,g3,g4⟩:=buildSlice_sound sm hs hz hzz hc hl he;exact⟨_,v,w',β',by simp only[execOp,Sem.run_bind,g1,Result.andThen_ok];rfl,.inl rfl,g2,g3,g4⟩
 case load t x=>
  simp only[eff]at he;cases hz:szT P t with
  |none=>simp[hz]at he
  |some n=>
   cases hr:rd h (pev s x)with
   |none=>simp[hz,hr]at he
   |some cs=>
    simp only[hz,hr,Option.bind_some]at he;cases hv:mkV (aggB P t) n cs with
    |none=>simp[hv]at he
    |some v=>
     simp only[hv,Option.map_some,Option.some.injEq,Prod.mk.injEq]at he;obtain⟨rfl,rfl⟩:=he;obtain⟨b,o,g1,g2⟩:=rd_sound sm hr (rep x);obtain⟨xv,g3,g4⟩:=loadVar_sound (P:=P) hz hv g2;exact Ran.pure sm (by simp[execOp,Instr.loadAt,g1,Instr.sureAddr,g3]) g4
 case store t x y=>
  simp only[eff]at he;cases hz:szT P t with
  |none=>simp[hz]at he
  |some n=>
   simp only[hz,Option.bind_some]at he;split at he
   case isFalse=>simp at he
   rename_i hc;cases hw:wr h (pev s y).cells (pev s x)with
   |none=>simp[hw]at he
   |some h2=>
    simp only[hw,Option.map_some,Option.some.injEq,Prod.mk.injEq]at he;obtain⟨rfl,rfl⟩:=he;obtain⟨w',g1,g2,g3⟩:=store_sound sm hz hc.1 hc.2 hw (rep x) (rep y);exact⟨.skip,undef,w',β,by simp[execOp,g1],.inr ⟨rfl,rfl⟩,g2,g3,by simp only[RepH,Rep]⟩
 case nilCheck x=>
  simp only[eff]at he;have h1:=rep x;split at he
  ·rename_i id i f hx;simp only[Option.some.injEq,Prod.mk.injEq]at he;obtain⟨rfl,rfl⟩:=he;rw[hx]at h1;have h2:=h1;simp only[RepH,Rep]at h2;obtain⟨_,b,_,hv⟩:=h2;exact Ran.pure (v:=a.eval x) sm (by simp[execOp,hv]) h1
  ·rename_i cs hx;simp only[Option.some.injEq,Prod.mk.injEq]at he;obtain⟨rfl,rfl⟩:=he;rw[hx]at h1;have h2:=h1;simp only[RepH,Rep]at h2;obtain⟨b,o,_,hv,_⟩:=h2;exact Ran.pure (v:=a.eval x) sm (by simp[execOp,hv]) h1
  ·simp at he
 case binOp op t x y t2=>
  simp only[eff]at he;cases hv:(if kT P t=8 then sbin op (strsT P t) (pev s x) (pev s y)else pbin op (kT P t) (isConstB x||isConstB y) (pev s x) (pev s y))with
  |none=>simp[hv]at he
  |some v=>
   simp only[hv,Option.map_some,Option.some.injEq,Prod.mk.injEq]at he;obtain⟨rfl,rfl⟩:=he;obtain⟨u,g1,g2⟩: ∃ u,(do eqGuard op t x y (a.eval x) (a.eval y);binOp op t (a.eval x) (a.eval y):Sem Value).run P w= .ok u w∧RepH β h w v u:=by
    split at hv
    ·exact sbin_sound (P:=P) (w:=w) x y hv (rep x) (rep y)
    ·exact pbin_sound (P:=P) (w:=w) x y hv (rep x) (rep y)
   refine Ran.pure (v:=u) sm ?_ g2;simp only[Sem.run_bind]at g1;simp only[execOp,Sem.run_bind,g1,Result.andThen_ok];rfl
 case unOp op t x=>
  simp only[eff]at he;cases hv:pun op (pev s x)with
  |none=>simp[hv]at he
  |some v=>
   simp only[hv,Option.map_some,Option.some.injEq,Prod.mk.injEq]at he;obtain⟨rfl,rfl⟩:=he;have h1:=rep x;unfold pun at hv;split at hv
   ·rename_i b hx;simp only[Option.some.injEq]at hv;subst hv;rw[hx]at h1;simp only[RepH,Rep]at h1;exact Ran.pure (v:= .bool (!b)) sm (by simp[execOp,h1,Op.unary]) (by simp only[RepH,Rep])
   ·rename_i k n hx;simp only[Option.some.injEq]at hv;subst hv;rw[hx]at h1;simp only[RepH,Rep]at h1;exact Ran.pure (v:= .int k (k.wrap (0-n))) sm (by simp only[execOp,h1,Op.unary,Op.intArith];rfl) (by simp only[RepH,Rep])
   ·rename_i k n hx;simp only[Option.some.injEq]at hv;subst hv;rw[hx]at h1;simp only[RepH,Rep]at h1;exact Ran.pure (v:= .int k _) sm (by simp only[execOp,h1,Op.unary,Op.intBits];rfl) (by simp only[RepH,Rep])
   ·simp at hv
 case convert src dst' x=>
  simp only[eff]at he;have h1:=rep x;split at he
  ·rename_i s hx;rw[hx]at h1;simp only[RepH,Rep]at h1;split at he
   ·rename_i hk;split at he
    ·rename_i hk2;simp only[Option.some.injEq,Prod.mk.injEq]at he;obtain⟨rfl,rfl⟩:=he;exact Ran.pure (v:= .string s) sm (by simp[execOp,convert,run_underlying (kT_str hk),run_underlying (kT_str hk2),h1]) (by simp only[RepH,Rep])
    ·simp at he
   ·split at he
    ·rename_i hc;obtain⟨v,w',β',g1,g2,g3,g4⟩:=strBytes_sound (P:=P) sm (kT_str hc.1) hc.2.1 hc.2.2 he;exact⟨_,v,w',β',by simp only[execOp,h1,Sem.run_bind,g1,Result.andThen_ok];rfl,.inl rfl,g2,g3,g4⟩
    ·simp at he
  ·split at he
   ·rename_i hk;split at he
    ·rename_i hc;cases hv:view h (pev s x)with
     |none=>simp[hv]at he
     |some rows=>
      cases hb:byteRow rows with
      |none=>simp[hv,hb]at he
      |some l=>
       simp only[hv,hb,Option.bind_some,Option.map_some,Option.some.injEq,Prod.mk.injEq]at he;obtain⟨rfl,rfl⟩:=he;have g1:=bytesStr_sound (P:=P) sm hc.1 (kT_str hk) hc.2 hv hb h1;exact Ran.pure sm (by simp only[execOp,Sem.run_bind,g1,Result.andThen_ok];rfl) (by simp only[RepH,Rep])
    ·simp at he
   ·cases hv:pconv (intT P src) (intT P dst') (pev s x)with
    |none=>simp[hv]at he
    |some v=>
     simp only[hv,Option.map_some,Option.some.injEq,Prod.mk.injEq]at he;obtain⟨rfl,rfl⟩:=he;unfold pconv at hv;split at hv
     ·rename_i k1 k2 k3 n e1 e2 hx;simp at hv;subst hv;rw[hx]at h1;simp only[RepH,Rep]at h1;have hu1:P.underlying src=some (.int k1):=(by unfold intT at e1;split at e1<;>simp_all);have hu2:P.underlying dst'=some (.int k2):=(by unfold intT at e2;split at e2<;>simp_all);exact Ran.pure (v:= .int k2 (k2.wrap n)) sm (by simp[execOp,convert,run_underlying hu1,run_underlying hu2,h1,Conv.intToInt]) (by simp only[RepH,Rep])
     ·rename_i k1 k2 k3 lo hi m r e1 e2 hx;split at hv
      case isFalse=>simp at hv
      rename_i hk;obtain⟨rfl,g1,g2⟩:=hk;simp at hv;subst hv;rw[hx]at h1;simp only[RepH,Rep]at h1;obtain⟨i,i1,i2,i3,hi⟩:=h1;have hu1:P.underlying src=some (.int k1):=(by unfold intT at e1;split at e1<;>simp_all);have hu2:P.underlying dst'=some (.int .i64):=(by unfold intT at e2;split at e2<;>simp_all);have hw:IntKind.i64.wrap i=i:=IntWalk.i64_in _ ⟨by omega,by omega⟩;exact Ran.pure (v:= .int .i64 i) sm (by simp[execOp,convert,run_underlying hu1,run_underlying hu2,hi,Conv.intToInt,hw]) (by simp only[RepH,Rep];exact⟨i,i1,i2,i3,rfl⟩)
     ·simp at hv
 case makeInterface t x=>
  simp only[eff]at he;split at he
  ·simp at he
  ·rename_i hk;split at he
   ·rename_i v hx;simp only[Option.some.injEq,Prod.mk.injEq]at he;obtain⟨rfl,rfl⟩:=he;have h1:=rep x;rw[hx]at h1;simp only[RepH,Rep]at h1;obtain⟨d,hd⟩:=kT_some (P:=P) (t:=t) (fun e=>hk (.inr e));have hni: ∀ ms,d≠ .interface ms:=fun ms e=>hk (.inl (by simp[kT,hd,e]));refine Ran.pure (v:= .iface t v) sm ?_ (by simp only[RepH,Rep]);simp only[execOp,Instr.makeInterface,Sem.run_bind,run_underlying hd,Result.andThen_ok,h1];cases d<;>first|rfl|exact absurd rfl (hni _)
   ·simp at he
 case makeMap t rv=>
  cases rv with
  |some x=>simp[eff]at he
  |none=>
   simp only[eff,Option.some.injEq,Prod.mk.injEq]at he;obtain⟨rfl,rfl⟩:=he;obtain⟨v,w',β',g1,g2,g3,g4⟩:=makeMap_sound (P:=P) sm t;exact⟨_,v,w',β',by simp only[execOp,Option.map_none,Sem.run_bind,g1,Result.andThen_ok];rfl,.inl rfl,g2,g3,g4⟩
 case makeSlice t l c=>
  simp only[eff]at he;cases hz:elT P t with
  |none=>simp[hz]at he
  |some zb=>
   cases hzz:elZ P t with
   |none=>simp[hz,hzz]at he
   |some z=>
    cases hl:intP (pev s l)with
    |none=>simp[hz,hzz,hl]at he
    |some n=>
     cases hcc:intP (pev s c)with
     |none=>simp[hz,hzz,hl,hcc]at he
     |some m=>
      simp only[hz,hzz,hl,hcc,Option.bind_some]at he;split at he
      case isFalse=>simp at he
      rename_i hc;simp only[Option.some.injEq,Prod.mk.injEq]at he;obtain⟨rfl,rfl⟩:=he;obtain⟨k1,e1⟩:=intP_rep hl (rep l);obtain⟨k2,e2⟩:=intP_rep hcc (rep c);obtain⟨v,w',β',g1,g2,g3,g4⟩:=makeSlice_sound (P:=P) sm (k1:=k1) (k2:=k2) hz hzz hc;exact⟨_,v,w',β',by simp only[execOp,e1,e2,Sem.run_bind,g1,Result.andThen_ok];rfl,.inl rfl,g2,g3,g4⟩
 case slice t x lo hi mx=>
  cases mx with
  |none=>
   simp only[eff]at he;cases ha:oInt (pev s) lo with
   |none=>simp[ha]at he
   |some al=>
    cases hb:oInt (pev s) hi with
    |none=>simp[ha,hb]at he
    |some bl=>
     simp only[ha,hb,Option.bind_some]at he;have q1:=oInt_rep hs ha;have q2:=oInt_rep hs hb;split at he
     ·cases hz:elT P t with
      |none=>simp[hz]at he
      |some zb=>
       simp only[hz,Option.bind_some]at he;cases hq:subL zb.1 (pev s x) h al bl with
       |none=>simp[hq]at he
       |some q=>
        simp only[hq,Option.map_some,Option.some.injEq,Prod.mk.injEq]at he;obtain⟨rfl,rfl⟩:=he;obtain⟨v,g1,g2⟩:=slice_sound (P:=P) sm hz q1 q2 hq (rep x);exact Ran.pure sm (by simp only[execOp,Option.map_none,Sem.run_bind,g1,Result.andThen_ok];rfl) g2
     ·split at he
      ·rename_i hk;cases hq:subS (pev s x) al bl with
       |none=>simp[hq]at he
       |some q=>
        simp only[hq,Option.map_some,Option.some.injEq,Prod.mk.injEq]at he;obtain⟨rfl,rfl⟩:=he;obtain⟨v,g1,g2⟩:=sliceS_sound (P:=P) hk q1 q2 hq (rep x);exact Ran.pure sm (by simp only[execOp,Option.map_none,Sem.run_bind,g1,Result.andThen_ok];rfl) g2
      ·simp at he
  |some mx=>
   cases lo with
   |some lo=>simp[eff]at he
   |none=>
    cases hi with
    |none=>simp[eff]at he
    |some hi=>
     simp only[eff]at he;cases hz:elT P t with
     |none=>simp[hz]at he
     |some zb=>
      simp only[hz,Option.bind_some]at he;split at he
      case isFalse=>
       cases hb:intP (pev s hi)with
       |none=>simp[hb]at he
       |some b=>
        cases hcc:intP (pev s mx)with
        |none=>simp[hb,hcc]at he
        |some c=>
         simp only[hb,hcc,Option.bind_some]at he;cases hq:capP b c (pev s x)with
         |none=>simp[hq]at he
         |some q=>
          simp only[hq,Option.map_some,Option.some.injEq,Prod.mk.injEq]at he;obtain⟨rfl,rfl⟩:=he;obtain⟨k1,e1⟩:=intP_rep hb (rep hi);obtain⟨k2,e2⟩:=intP_rep hcc (rep mx);obtain⟨v,g1,g2⟩:=sliceC_sound (P:=P) (w:=w) hz e1 e2 hq (rep x);exact Ran.pure sm (by simp only[execOp,Option.map_none,Option.map_some,Sem.run_bind,g1,Result.andThen_ok];rfl) g2
      rename_i hc;simp only[Option.some.injEq,Prod.mk.injEq]at he;obtain⟨rfl,rfl⟩:=he;have zero: ∀ y,isZeroInt (pev s) (some y)=true→ ∃ k,a.eval y= .int k 0:=by
       intro y hy;simp only[isZeroInt]at hy;split at hy
       ·rename_i k n hk;have hn:n=0:=of_decide_eq_true hy;subst hn;have h1:=rep y;rw[hk]at h1;simp only[RepH,Rep]at h1;exact⟨k,h1⟩
       ·simp at hy
      obtain⟨k1,e1⟩:=zero hi hc.1;obtain⟨k2,e2⟩:=zero mx hc.2.1;obtain⟨v,g1,g2⟩:=sliceZ_sound (P:=P) (w:=w) hz e1 e2 hc.2.2 (rep x);exact Ran.pure sm (by simp only[execOp,Option.map_none,Option.map_some,Sem.run_bind,g1,Result.andThen_ok];rfl) g2
 case fieldAddr t x f=>
  simp only[eff]at he;cases ho:fldT P t f with
  |none=>simp[ho]at he
  |some o=>
   simp only[ho,Option.bind_some]at he;cases hf:fldP o.1 o.2.1 (pev s x)with
   |none=>simp[hf]at he
   |some q=>
    simp only[hf,Option.map_some,Option.some.injEq,Prod.mk.injEq]at he;obtain⟨rfl,rfl⟩:=he;obtain⟨v,g1,g2⟩:=fld_sound (P:=P) ho hf (rep x);exact Ran.pure sm (by simp only[execOp,Sem.run_bind,g1,Result.andThen_ok];rfl) g2
 case field t x f=>
  simp only[eff]at he;split at he
  ·rename_i cs hx;cases ho:fldT P t f with
   |none=>simp[ho]at he
   |some o=>
    simp only[ho,Option.bind_some]at he;split at he
    case isFalse=>simp at he
    cases hf:mkV o.2.2 o.2.1 (cs.drop o.1)with
    |none=>simp[hf]at he
    |some q=>
     simp only[hf,Option.map_some,Option.some.injEq,Prod.mk.injEq]at he;obtain⟨rfl,rfl⟩:=he;have h1:=rep x;rw[hx]at h1;obtain⟨v,g1,g2⟩:=field_sound (P:=P) ho hf h1;exact Ran.pure sm (by simp only[execOp,Sem.run_bind,g1,Result.andThen_ok];rfl) g2
  ·simp at he
 case indexAddr t x i=>
  simp only[eff]at he;cases hn:intP (pev s i)with
  |none=>simp[hn]at he
  |some n=>
   simp only[hn,Option.bind_some]at he;obtain⟨k,hk⟩:=intP_rep hn (rep i);split at he
   ·cases hz:elT P t with
    |none=>simp[hz]at he
    |some zb=>
     simp only[hz,Option.bind_some]at he;cases hi:idx h zb.1 (pev s x) n with
     |none=>simp[hi]at he
     |some q=>
      simp only[hi,Option.map_some,Option.some.injEq,Prod.mk.injEq]at he;obtain⟨rfl,rfl⟩:=he;obtain⟨v,g1,g2⟩:=idx_sound (P:=P) (k:=k) sm hz hi (rep x);exact Ran.pure sm (by simp only[execOp,hk,Sem.run_bind,g1,Result.andThen_ok];rfl) g2
   ·cases hz:arT P t with
    |none=>simp[hz]at he
    |some na=>
     simp only[hz,Option.bind_some]at he;cases hi:idxA na.1 na.2 (pev s x) n with
     |none=>simp[hi]at he
     |some q=>
      simp only[hi,Option.map_some,Option.some.injEq,Prod.mk.injEq]at he;obtain⟨rfl,rfl⟩:=he;obtain⟨v,g1,g2⟩:=idxA_sound (P:=P) (w:=w) (k:=k) hz hi (rep x);exact Ran.pure sm (by simp only[execOp,hk,Sem.run_bind,g1,Result.andThen_ok];rfl) g2
 case index t x i=>
  simp only[eff]at he;cases hn:intP (pev s i)with
  |none=>simp[hn]at he
  |some n=>
   simp only[hn,Option.bind_some]at he;obtain⟨k,hk⟩:=intP_rep hn (rep i);split at he
   ·rename_i st hx;split at he
    case isFalse=>simp at he
    rename_i hc;cases hb:st[n.toNat]? with
    |none=>simp[hb]at he
    |some b=>
     simp only[hb,Option.map_some,Option.some.injEq,Prod.mk.injEq]at he;obtain⟨rfl,rfl⟩:=he;have h1:=rep x;rw[hx]at h1;simp only[RepH,Rep]at h1;have hu:P.underlying t=some .string:=by
      have hk3:=hc.1;unfold kT at hk3;split at hk3<;>first|assumption|(simp at hk3)
     exact Ran.pure (v:= .int .u8 b.toNat) sm (by simp[execOp,hk,h1,Instr.index,asIntOf,run_underlying hu,hc.2,hb]) (by simp only[RepH,Rep])
   ·rename_i cs hx;cases ho:arE P t with
    |none=>simp[ho]at he
    |some na=>
     simp only[ho,Option.bind_some]at he;split at he
     case isFalse=>simp at he
     rename_i h0;cases hf:mkV na.2.2 na.2.1 (cs.drop (n.toNat*na.2.1))with
     |none=>simp[hf]at he
     |some q=>
      simp only[hf,Option.map_some,Option.some.injEq,Prod.mk.injEq]at he;obtain⟨rfl,rfl⟩:=he;have h1:=rep x;rw[hx]at h1;obtain⟨v,g1,g2⟩:=indexV_sound (P:=P) (k:=k) ho h0 hf h1;exact Ran.pure sm (by simp only[execOp,hk,Sem.run_bind,g1,Result.andThen_ok];rfl) g2
   ·simp at he
 case lookup t x k ok=>
  simp only[eff]at he;cases hm:mapT P t with
  |none=>simp[hm]at he
  |some m=>
   simp only[hm,Option.bind_some]at he;split at he
   ·rename_i kv es hkv hes;split at he
    case isFalse=>simp at he
    rename_i hk;cases hf:mfind kv es with
    |none=>simp[hf]at he
    |some rr=>
     simp only[hf,Option.map_some,Option.some.injEq,Prod.mk.injEq]at he;obtain⟨rfl,rfl⟩:=he;have h1:=rep k;rw[hkv]at h1;simp only[RepH,Rep]at h1;obtain⟨v,g1,g2⟩:=lookup_sound (P:=P) (ok:=ok) sm hm hes hk hf (rep x);exact Ran.pure (v:=v) sm (by simp only[execOp,h1,Sem.run_bind,g1,Result.andThen_ok];rfl) g2
   ·simp at he
 case mapUpdate t x k y=>
  simp only[eff]at he;cases hm:mapT P t with
  |none=>simp[hm]at he
  |some m=>
   simp only[hm,Option.bind_some]at he;split at he
   ·rename_i kv id hkv hid;split at he
    ·rename_i es hob;split at he
     case isFalse=>simp at he
     rename_i hk;cases hp:mput kv (pev s y) es with
     |none=>simp[hp]at he
     |some es'=>
      simp only[hp,Option.map_some,Option.some.injEq,Prod.mk.injEq]at he;obtain⟨rfl,rfl⟩:=he;have h1:=rep k;rw[hkv]at h1;simp only[RepH,Rep]at h1;have h2:=rep x;rw[hid]at h2;obtain⟨w',g1,g2,g3⟩:=mapUpdate_sound (P:=P) sm hm hob hk hp h2 (rep y);exact⟨.skip,undef,w',β,by simp[execOp,h1,g1],.inr ⟨rfl,rfl⟩,g2,g3,by simp only[RepH,Rep]⟩
    ·simp at he
   ·simp at he
 case typeAssert x t1 t ok=>
  cases ok with
  |false=>simp[eff]at he
  |true=>
   simp only[eff]at he;split at he
   ·simp at he
   ·rename_i hk;obtain⟨d,hd⟩:=kT_some (P:=P) (t:=t) (fun e=>hk (.inr e));have hni: ∀ ms,d≠ .interface ms:=fun ms e=>hk (.inl (by simp[kT,hd,e]));have h1:=rep x;split at he
    ·rename_i u v hx;rw[hx]at h1;simp only[RepH,Rep]at h1;split at he
     ·rename_i hut;simp only[Option.some.injEq,Prod.mk.injEq]at he;obtain⟨rfl,rfl⟩:=he;refine Ran.pure (v:= .tuple #[v,.bool true]) sm ?_ (by simp only[RepH,Rep];exact⟨[v,.bool true],rfl,by simp[RepL,Rep]⟩);simp only[execOp,h1,Instr.typeAssert,Sem.run_bind,run_underlying hd,Result.andThen_ok,hut];cases d<;>first|exact absurd rfl (hni _)|simp
     ·rename_i hut;unfold zvT at he;cases hi:P.info? t with
      |none=>simp[hi]at he
      |some i=>
       cases hz:i.zero with
       |none=>simp[hi,hz]at he
       |some z=>
        simp[hi,hz]at he;obtain⟨rfl,rfl⟩:=he;refine Ran.pure (v:= .tuple #[z,.bool false]) sm ?_ (by simp only[RepH,Rep];exact⟨[z,.bool false],rfl,by simp only[RepL,Rep];exact⟨constPV_rep _,trivial,trivial⟩⟩);simp only[execOp,h1,Instr.typeAssert,Sem.run_bind,run_underlying hd,Result.andThen_ok];cases d<;>first|exact absurd rfl (hni _)|simp[hut,zeroValue,typeInfo,hi,hz]
    ·rename_i hx;rw[hx]at h1;simp only[RepH,Rep]at h1;unfold zvT at he;cases hi:P.info? t with
     |none=>simp[hi]at he
     |some i=>
      cases hz:i.zero with
      |none=>simp[hi,hz]at he
      |some z=>
       simp[hi,hz]at he;obtain⟨rfl,rfl⟩:=he;refine Ran.pure (v:= .tuple #[z,.bool false]) sm ?_ (by simp only[RepH,Rep];exact⟨[z,.bool false],rfl,by simp only[RepL,Rep];exact⟨constPV_rep _,trivial,trivial⟩⟩);simp only[execOp,h1,Instr.typeAssert,Sem.run_bind,run_underlying hd,Result.andThen_ok];cases d<;>first|exact absurd rfl (hni _)|simp[zeroValue,typeInfo,hi,hz]
    ·simp at he
 case extract x i=>
  simp only[eff]at he;split at he
  ·rename_i vs hx;cases hv:vs[i]? with
   |none=>simp[hv]at he
   |some v=>
    simp only[hv,Option.map_some,Option.some.injEq,Prod.mk.injEq]at he;obtain⟨rfl,rfl⟩:=he;have h1:=rep x;rw[hx]at h1;simp only[RepH,Rep]at h1;obtain⟨xs,e1,e2⟩:=h1;obtain⟨u,g1,g2⟩:=e2.get hv;exact Ran.pure (v:=u) sm (by simp[execOp,e1,Instr.extract,g1]) g2
  ·simp at he
 case call c=>
  obtain⟨callee,args,ts⟩:=c;cases callee with
  |value f=>simp[eff]at he
  |invoke x m=>simp[eff]at he
  |builtin b=>
   cases b
   case len=>
    obtain⟨args⟩:=args;obtain⟨ts⟩:=ts;simp only[eff]at he;split at he
    case h_2=>simp at he
    rename_i x t;split at he
    case isFalse=>simp at he
    rename_i hk;cases hl:lenP h (pev s x)with
    |none=>simp[hl]at he
    |some n=>
     simp only[hl,Option.map_some,Option.some.injEq,Prod.mk.injEq]at he;obtain⟨rfl,rfl⟩:=he;have h1:=rep x;refine Ran.pure (v:= .int .i64 (n:Int)) sm ?_ (by simp only[RepH,Rep]);have hlen:=len_sound (P:=P) sm type hk hl h1;simp only[execOp,resolve,invoke,builtin,Sem.run_bind,Sem.run_pure,Result.andThen_ok,List.map_toArray,List.map_cons,List.map_nil];rw[hlen];try rfl
   case append=>
    obtain⟨args⟩:=args;obtain⟨ts⟩:=ts;simp only[eff]at he;split at he
    case h_2=>simp at he
    rename_i x y t u;split at he
    case isFalse=>simp at he
    rename_i htu;subst htu;cases hz:elT P t with
    |none=>simp[hz]at he
    |some zb=>
     simp only[hz,Option.bind_some]at he;obtain⟨v,w',β',g1,g2,g3,g4⟩:=append_sound (P:=P) sm type hz he (rep x) (rep y);exact⟨.value v,v,w',β',by simp only[execOp,resolve,invoke,builtin,Sem.run_bind,Sem.run_pure,Result.andThen_ok,List.map_toArray,List.map_cons,List.map_nil,g1],.inl rfl,g2,g3,g4⟩
   case clear=>
    obtain⟨args⟩:=args;obtain⟨ts⟩:=ts;simp only[eff]at he;split at he
    case h_2=>simp at he
    rename_i x t;cases hz:elT P t with
    |none=>simp[hz]at he
    |some zb=>
     cases hz2:elZ P t with
     |none=>simp[hz,hz2]at he
     |some z=>
      simp only[hz,hz2,Option.bind_some]at he;split at he
      case isFalse=>simp at he
      rename_i hzl;cases hc:clr h zb.1 (z.map .sc) (pev s x)with
      |none=>simp[hc]at he
      |some h2=>
       simp only[hc,Option.map_some,Option.some.injEq,Prod.mk.injEq]at he;obtain⟨rfl,rfl⟩:=he;obtain⟨w',g1,g2,g3⟩:=clear_sound (P:=P) sm type hz hz2 hzl.1 hzl.2 hc (rep x);exact⟨.value (.tuple #[]),.tuple #[],w',β,by simp only[execOp,resolve,invoke,builtin,Sem.run_bind,Sem.run_pure,Result.andThen_ok,List.map_toArray,List.map_cons,List.map_nil,g1],.inl rfl,g2,g3,by simp only[RepH,Rep];exact⟨[],rfl,by simp only[RepL]⟩⟩
   case min=>
    obtain⟨args⟩:=args;simp only[eff]at he;split at he
    case h_2=>simp at he
    rename_i x y;cases hp:pmin (pev s x) (pev s y)with
    |none=>simp[hp]at he
    |some v=>
     simp only[hp,Option.map_some,Option.some.injEq,Prod.mk.injEq]at he;obtain⟨rfl,rfl⟩:=he;have h1:=rep x;have h2:=rep y;unfold pmin at hp;split at hp
     ·rename_i k c k' d hx hy;rw[hx]at h1;rw[hy]at h2;simp only[RepH,Rep]at h1 h2;split at hp
      case isFalse=>simp at hp
      rename_i hk;subst hk;simp at hp;subst hp;refine Ran.pure (v:= .int k (if d<c then d else c)) sm ?_ (by simp only[RepH,Rep]);simp only[execOp,resolve,invoke,builtin,Sem.run_bind,Sem.run_pure,Result.andThen_ok,List.map_toArray,List.map_cons,List.map_nil,h1,h2];simp[Builtin.min_,Builtin.min2]
     ·rename_i k lo hi m r k' c hx hy;rw[hx]at h1;rw[hy]at h2;simp only[RepH,Rep]at h1 h2;obtain⟨i,i1,i2,i3,i4⟩:=h1;split at hp
      case isFalse=>simp at hp
      rename_i hk;subst hk;split at hp
      ·simp at hp;subst hp;refine Ran.pure (v:= .int k i) sm ?_ (by simp only[RepH,Rep];exact⟨i,i1,i2,i3,rfl⟩);have hb:(if c<i then c else i)=i:=(by split<;>omega);simp only[execOp,resolve,invoke,builtin,Sem.run_bind,Sem.run_pure,Result.andThen_ok,List.map_toArray,List.map_cons,List.map_nil,i4,h2];simp[Builtin.min_,Builtin.min2];try omega
      ·split at hp
       ·simp at hp;subst hp;refine Ran.pure (v:= .int k c) sm ?_ (by simp only[RepH,Rep]);have hb:(if c<i then c else i)=c:=(by split<;>omega);simp only[execOp,resolve,invoke,builtin,Sem.run_bind,Sem.run_pure,Result.andThen_ok,List.map_toArray,List.map_cons,List.map_nil,i4,h2];simp[Builtin.min_,Builtin.min2];try omega
       ·simp at hp
     ·rename_i a0 b0 lo hi k' c hx hy;rw[hx]at h1;rw[hy]at h2;simp only[RepH,Rep]at h1 h2;obtain⟨i0,i1,i2,i3,i5,i4⟩:=h1;generalize hi0:β.X.T+i0=i at i3 i4 i5;split at hp
      case isFalse=>simp at hp
      rename_i hk;subst hk;split at hp
      ·simp at hp;subst hp;refine Ran.pure (v:= .int .i64 i) sm ?_ (by simp only[RepH,Rep];exact⟨i0,i1,i2,by omega,by omega,by rw[hi0]⟩);have hb:(if c<i then c else i)=i:=(by split<;>omega);simp only[execOp,resolve,invoke,builtin,Sem.run_bind,Sem.run_pure,Result.andThen_ok,List.map_toArray,List.map_cons,List.map_nil,i4,h2];simp[Builtin.min_,Builtin.min2];try omega
      ·split at hp
       ·simp at hp;subst hp;refine Ran.pure (v:= .int .i64 c) sm ?_ (by simp only[RepH,Rep]);have hb:(if c<i then c else i)=c:=(by split<;>omega);simp only[execOp,resolve,invoke,builtin,Sem.run_bind,Sem.run_pure,Result.andThen_ok,List.map_toArray,List.map_cons,List.map_nil,i4,h2];simp[Builtin.min_,Builtin.min2];try omega
       ·simp at hp
     ·simp at hp
   case max=>
    obtain⟨args⟩:=args;simp only[eff]at he;split at he
    case h_2=>simp at he
    rename_i x y;cases hp:pmax (pev s x) (pev s y)with
    |none=>simp[hp]at he
    |some v=>
     simp only[hp,Option.map_some,Option.some.injEq,Prod.mk.injEq]at he;obtain⟨rfl,rfl⟩:=he;have h1:=rep x;have h2:=rep y;unfold pmax at hp;split at hp
     ·rename_i k c k' d hx hy;rw[hx]at h1;rw[hy]at h2;simp only[RepH,Rep]at h1 h2;split at hp
      case isFalse=>simp at hp
      rename_i hk;subst hk;simp at hp;subst hp;refine Ran.pure (v:= .int k (if d>c then d else c)) sm ?_ (by simp only[RepH,Rep]);simp only[execOp,resolve,invoke,builtin,Sem.run_bind,Sem.run_pure,Result.andThen_ok,List.map_toArray,List.map_cons,List.map_nil,h1,h2];simp[Builtin.max_,Builtin.max2]
     ·rename_i k' c k lo hi m r hx hy;rw[hx]at h1;rw[hy]at h2;simp only[RepH,Rep]at h1 h2;obtain⟨i,i1,i2,i3,i4⟩:=h2;split at hp
      case isFalse=>simp at hp
      rename_i hk;subst hk;split at hp
      ·simp at hp;subst hp;refine Ran.pure (v:= .int k i) sm ?_ (by simp only[RepH,Rep];exact⟨i,i1,i2,i3,rfl⟩);have hb:(if i>c then i else c)=i:=(by split<;>omega);simp only[execOp,resolve,invoke,builtin,Sem.run_bind,Sem.run_pure,Result.andThen_ok,List.map_toArray,List.map_cons,List.map_nil,i4,h1];simp[Builtin.max_,Builtin.max2];try omega
      ·split at hp
       ·simp at hp;subst hp;refine Ran.pure (v:= .int k c) sm ?_ (by simp only[RepH,Rep]);have hb:(if i>c then i else c)=c:=(by split<;>omega);simp only[execOp,resolve,invoke,builtin,Sem.run_bind,Sem.run_pure,Result.andThen_ok,List.map_toArray,List.map_cons,List.map_nil,i4,h1];simp[Builtin.max_,Builtin.max2];try omega
       ·simp at hp
     ·rename_i k' c a0 b0 lo hi hx hy;rw[hx]at h1;rw[hy]at h2;simp only[RepH,Rep]at h1 h2;obtain⟨i0,i1,i2,i3,i5,i4⟩:=h2;generalize hi0:β.X.T+i0=i at i3 i4 i5;split at hp
      case isFalse=>simp at hp
      rename_i hk;subst hk;split at hp
      ·simp at hp;subst hp;refine Ran.pure (v:= .int .i64 i) sm ?_ (by simp only[RepH,Rep];exact⟨i0,i1,i2,by omega,by omega,by rw[hi0]⟩);have hb:(if i>c then i else c)=i:=(by split<;>omega);simp only[execOp,resolve,invoke,builtin,Sem.run_bind,Sem.run_pure,Result.andThen_ok,List.map_toArray,List.map_cons,List.map_nil,i4,h1];simp[Builtin.max_,Builtin.max2];try omega
      ·split at hp
       ·simp at hp;subst hp;refine Ran.pure (v:= .int .i64 c) sm ?_ (by simp only[RepH,Rep]);have hb:(if i>c then i else c)=c:=(by split<;>omega);simp only[execOp,resolve,invoke,builtin,Sem.run_bind,Sem.run_pure,Result.andThen_ok,List.map_toArray,List.map_cons,List.map_nil,i4,h1];simp[Builtin.max_,Builtin.max2];try omega
       ·simp at hp
     ·simp at hp
   all_goals simp[eff]at he
 case makeFunc fn first caps=>
  cases fn<;>(try(simp[eff]at he;done));simp only[eff,Option.some.injEq,Prod.mk.injEq]at he;obtain⟨rfl,rfl⟩:=he;have hl: ∀ l:List Operand,RepL β h.next (Fz β h w) w (l.map (pev s)) (l.map a.eval):=fun l=>by
   rw[RepL_iff];refine⟨by simp,fun j p v hp hv=>?_⟩;rw[List.getElem?_map]at hp hv;cases hj:l[j]? with
   |none=>simp[hj]at hp
   |some x=>
    simp[hj]at hp hv;subst hp;subst hv;exact rep x
  rename_i f;obtain⟨first⟩:=first
  obtain⟨caps⟩:=caps;refine Ran.pure (v:= .func (.func f) (first.map a.eval).toArray (caps.map a.eval).toArray) sm ?_ (by simp only[RepH,Rep];exact⟨_,_,rfl,hl _,hl _⟩);simp only[execOp,Instr.makeFunc,Sem.run_bind,Sem.run_pure,Result.andThen_ok,List.map_toArray]
 all_goals simp[eff]at he
end
end Go.AM
namespace Go.AM
section
variable {P:Program}{ow:Nat→Bool}{wf:FuncId→Bool}{β:Env}{h:Heap}{w:World}{s:Slots}{a:Act}{n:Nat}
structure St(n:Nat)(β:Env)(s:Slots)(h:Heap)(a:Act)(w:World):Prop where
 sim:Sim β h w
 rep: ∀ t,RepH β h w (s t) (a.tmps.getD t undef)
 size:a.tmps.size=n
 defers:a.defers=[]
def To(n:Nat)(β:Env)(h:Heap)(w:World)(K:Slots→Heap→Prop)(a':Act)(w':World):Prop:=
 ∃ s' h' β',K s' h'∧St n β' s' h' a' w'∧Ext β h w β' h' w'
theorem To.mono{β':Env}{h':Heap}{w':World}{K K':Slots→Heap→Prop}(e:Ext β h w β' h' w')(hk: ∀ s h,K s h→K' s h){a'':Act}{w'':World}(t:To n β' h' w' K a'' w''):To n β h w K' a'' w'':=by
 obtain⟨s,h2,β2,k,st,e2⟩:=t;exact⟨s,h2,β2,hk _ _ k,st,e.trans e2⟩
theorem St.put{β':Env}{h':Heap}{w':World}(st:St n β s h a w)(sm:Sim β' h' w')(e:Ext β h w β' h' w'){d:Option Nat}(hd:d.all (fun d=>decide (d<n))=true){r:PV}{v:Value}(hr:RepH β' h' w' r v):
  St n β' (updO s d r) h' (a.put d v) w':=by
 refine⟨sm,fun t=>?_,?_,?_⟩
 ·cases d with
  |none=>simp only[updO,Act.put];exact e.rep (st.rep t)
  |some d=>
   simp at hd;simp only[updO,upd,Act.put];by_cases ht:t=d
   ·subst ht;rw[if_pos rfl];have:t<a.tmps.size:=(by rw[st.size];exact hd);simpa[Array.getD_eq_getD_getElem?,this]using hr
   ·rw [if_neg ht];have:=e.rep (st.rep t);simpa[Array.getD_eq_getD_getElem?,Array.getElem?_setIfInBounds_ne (Ne.symm ht)]using this
 ·cases d with
  |none=>exact st.size
  |some d=>simp[Act.put,st.size]
 ·cases d with
  |none=>exact st.defers
  |some d=>simp[Act.put,st.defers]
theorem Ran.wp(st:St n β s h a w){o:Oper}{r:PV}{h':Heap}(hd:o.dst.all (fun d=>decide (d<n))=true)(hr:Ran P a o β h w r h'){K:Act→World→Prop}{Q:Exit→Act→World→Prop}
  (hk: ∀ a' w',To n β h w (fun s' h2=>s'=updO s o.dst r∧h2=h') a' w'→K a' w'):o.wp P a w K Q:=by
 obtain⟨nx,v,w',β',h1,h2,sm,e,hv⟩:=hr;unfold Oper.wp;rw[h1];have st':=st.put sm e hd hv;rcases h2 with rfl|⟨rfl,rfl⟩
 ·exact hk _ _ ⟨_,_,β',⟨rfl,rfl⟩,st',e⟩
 ·exact hk _ _ ⟨_,_,β',⟨rfl,rfl⟩,st',e⟩
theorem callee_run{ρ:Operand→PV}{op:Op}{f:FuncId}{args:List PV}(hc:callee ρ op=some (f,args)):
  ∃ fo as ts,op= .call {callee:= .value fo,args:=as,argTypes:=ts}∧((args=as.toList.map ρ∧ρ fo= .sc (.func (.func f) #[] #[]))∨ ∃ first caps,ρ fo= .fn f first caps∧args=first++(as.toList.map ρ++caps)):=by
 unfold callee at hc;split at hc
 ·rename_i fo as ts;split at hc
  ·rename_i g first captured hf
   split at hc
   ·rename_i hfc;simp only[Option.some.injEq,Prod.mk.injEq]at hc;obtain⟨rfl,rfl⟩:=hc;obtain⟨rfl,rfl⟩:=hfc;exact⟨fo,as,ts,rfl,.inl ⟨rfl,hf⟩⟩
   ·simp at hc
  ·rename_i g first caps hf
   simp only[Option.some.injEq,Prod.mk.injEq]at hc;obtain⟨rfl,rfl⟩:=hc;exact⟨fo,as,ts,rfl,.inr ⟨first,caps,hf,rfl⟩⟩
  ·simp at hc
 ·simp at hc
theorem callee_vals(st:St n β s h a w){op:Op}{f:FuncId}{args:List PV}(hc:callee (pev s) op=some (f,args)):
  ∃ fo as ts, ∃ xs ys:List Value,op= .call {callee:= .value fo,args:=as,argTypes:=ts}∧a.eval fo= .func (.func f) xs.toArray ys.toArray∧RepL β h.next (Fz β h w) w args (xs++(as.toList.map a.eval++ys)):=by
 obtain⟨fo,as,ts,hop,hh⟩:=callee_run hc;have hl: ∀ l:List Operand,RepL β h.next (Fz β h w) w (l.map (pev s)) (l.map a.eval):=fun l=>by
  rw[RepL_iff];refine⟨by simp,fun j p v hp hv=>?_⟩;rw[List.getElem?_map]at hp hv;cases hj:l[j]? with
  |none=>simp[hj]at hp
  |some x=>
   simp[hj]at hp hv;subst hp;subst hv;exact pev_rep st.rep x
 have app: ∀ (l:List PV)(l':List Value)(m:List PV)(m':List Value),RepL β h.next (Fz β h w) w l l'→RepL β h.next (Fz β h w) w m m'→RepL β h.next (Fz β h w) w (l++m) (l'++m'):=by
  intro l
  induction l with
  |nil=>intro l' m m' h1 h2;cases l' with|nil=>exact h2|cons=>simp[RepL]at h1
  |cons p l ih=>
   intro l' m m' h1 h2;cases l' with
   |nil=>simp[RepL]at h1
   |cons q l'=>
    simp only[RepL]at h1;simp only[List.cons_append,RepL];exact⟨h1.1,ih l' m m' h1.2 h2⟩
 have h1:=pev_rep st.rep fo;rcases hh with⟨rfl,hf⟩|⟨first,caps,hf,rfl⟩
 ·rw [hf]at h1;simp only[RepH,Rep]at h1;exact⟨fo,as,ts,[],[],hop,h1,by simpa using hl as.toList⟩
 ·rw [hf]at h1;simp only[RepH,Rep]at h1;obtain⟨xs,ys,g1,g2,g3⟩:=h1;exact⟨fo,as,ts,xs,ys,hop,g1,app _ _ _ _ g2 (app _ _ _ _ (hl as.toList) g3)⟩
theorem PCall.wp{o:Oper}{f:FuncId}{args:List PV}(st:St n β s h a w)(hd:o.dst.all (fun d=>decide (d<n))=true)(hc:callee (pev s) o.op=some (f,args)){K':PV→Heap→Prop}
  (hp:PCall P f args h K'){K:Act→World→Prop}{Q:Exit→Act→World→Prop}
  (hk: ∀ a' w',To n β h w (fun s' h2=> ∃ r,K' r h2∧s'=updO s o.dst r) a' w'→K a' w'):o.wp P a w K Q:=by
 obtain⟨fo,as,ts,xs,ys,hop,h1,hrep⟩:=callee_vals st hc;rcases hp β w _ st.sim hrep with⟨hb,hcl⟩|⟨v,w',hrun,r,h',β',v',hv,hK,sm,hr,e⟩
 case inr=>
  simp only[Ending.returned.injEq]at hv;subst hv;refine Ran.wp st hd ⟨.value v,v,w',β',?_,.inl rfl,sm,e,hr⟩ (fun a' w2 ht=>hk _ _ (ht.mono Ext.refl ?_))
  ·simp only[execOp,hop,resolve,h1,Deferred.ofValue,Sem.run_bind,Sem.run_pure,Result.andThen_ok,invoke];obtain⟨as⟩:=as;simpa[List.append_assoc]using hrun
  ·rintro s' h2 ⟨rfl,rfl⟩;exact⟨r,hK,rfl⟩
 unfold hasBody at hb;cases hfn:P.funcs[f]? with
 |none=>simp[hfn]at hb
 |some fn=>
  simp[hfn]at hb;have hbody:fn.body.isNone=false:=by cases hbb:fn.body<;>simp[hbb]at hb⊢
  have hrun:(execOp a.eval o).run P w= .ok (.enter f (xs++(as.toList.map a.eval++ys)).toArray) w:=by
   simp only[execOp,hop,resolve,h1,Deferred.ofValue,Sem.run_bind,Sem.run_pure,Result.andThen_ok,invoke,callFunc,run_program,hfn];obtain⟨as⟩:=as;simp[hbody,hb.1]
  unfold Oper.wp;rw[hrun];simp only[Oper.upon];refine Calls.mono hcl (fun e w' hq=>?_);obtain⟨r,h',β',v,rfl,hK,sm,hr,e⟩:=hq;exact hk _ _ ⟨_,h',β',⟨r,hK,rfl⟩,st.put sm e hd hr,e⟩
theorem owp_sound{o:Oper}{K':Slots→Heap→Prop}(st:St n β s h a w)(hd:o.dst.all (fun d=>decide (d<n))=true)(ho:owp P ow o K' s h){K:Act→World→Prop}{Q:Exit→Act→World→Prop}
  (hk: ∀ a' w',To n β h w K' a' w'→K a' w'):o.wp P a w K Q:=by
 unfold owp at ho;split at ho
 ·rename_i f args hc;refine PCall.wp st hd hc ho (fun a' w' ht=>hk a' w' (ht.mono Ext.refl ?_));rintro s' h' ⟨r,hr,rfl⟩;exact hr
 ·split at ho
  ·rename_i r h' he;refine Ran.wp st hd (eff_sound st.sim st.rep o he) (fun a' w' ht=>hk a' w' (ht.mono Ext.refl ?_));rintro s' h2 ⟨rfl,rfl⟩;exact ho
  ·exact ho.elim
theorem slot_get(st:St n β s h a w){t:Nat}{v:Value}(hv:s t= .sc v)(hne:v≠undef):a.tmps[t]? =some v:=by
 have h1:=st.rep t;rw[hv]at h1;simp only[RepH,Rep]at h1;cases ht:a.tmps[t]? with
 |none=>rw[Array.getD_eq_getD_getElem?,ht]at h1;simp at h1;exact absurd h1.symm hne
 |some u=>rw[Array.getD_eq_getD_getElem?,ht]at h1;simp at h1;rw[h1]
theorem wanted_sound(st:St n β s h a w){ops:List Oper}{o:Oper}{b:Bool}(hw:wantedB ops s o=some b):Region.wanted o (yielded ops.toArray a.tmps)=b:=by
 unfold wantedB at hw;unfold Region.wanted;cases hg:o.guard with
 |none=>simp[hg]at hw;simp[hw]
 |some gw=>
  obtain⟨g,want⟩:=gw;simp only[hg]at hw;cases ht:(ops[g]?).bind (·.dst)with
  |none=>simp[ht]at hw
  |some t=>
   simp only[ht]at hw;have hy:yielded ops.toArray a.tmps g=match a.tmps[t]? with|some (.bool b)=>some b|_=>none:=by
    simp only[yielded,List.getElem?_toArray,ht,Option.bind_some];rfl
   simp only[hy];split at hw
   ·rename_i b' hs;simp at hw;rw[slot_get st hs (by simp[undef])];subst hw;cases b'<;>cases want<;>rfl
   ·rename_i vs hs;simp at hw;subst hw;have h1:=st.rep t;rw[hs]at h1;simp only[RepH,Rep]at h1;cases hte:a.tmps[t]? with
    |none=>rfl
    |some u=>rw[Array.getD_eq_getD_getElem?,hte]at h1;simp at h1;subst h1;rfl
   ·simp at hw
theorem St.undef(st:St n β s h a w){d:Option Nat}(hd:d.all (fun d=>decide (d<n))=true):St n β (updO s d (.sc Go.undef)) h (a.put d Go.undef) w:=
 st.put st.sim Ext.refl hd (by simp only[RepH,Rep])
theorem lwp_sound{ops:List Oper}{Q:Exit→Act→World→Prop}: ∀ (l:List Oper){K':Slots→Heap→Prop}{β:Env}{s:Slots}{h:Heap}{a:Act}{w:World},St n β s h a w→lwp P ow n ops l K' s h→
  (∀ a' w',To n β h w K' a' w'→Q .normal a' w')→wpList P ops.toArray Q l a w
 |[],K',β,s,h,a,w,st,hl,hk=>hk a w ⟨s,h,β,hl,st,Ext.refl⟩
 |o::rest,K',β,s,h,a,w,st,hl,hk=>by
  simp only[lwp]at hl;obtain⟨hd,hl⟩:=hl;split at hl
  ·exact hl.elim
  ·rename_i b hb;have hwd:=wanted_sound st hb;unfold wpList;rw[hwd];cases b with
   |true=>
    simp only[if_true]at hl⊢;refine .inl (owp_sound st hd hl (fun a' w' ht=>?_));obtain⟨s',h',β',hk',st',e⟩:=ht;exact lwp_sound rest st' hk' (fun a'' w'' ht'=>hk a'' w'' (ht'.mono e (fun _ _ x=>x)))
   |false=>
    simp only[Bool.false_eq_true,if_false]at hl⊢;exact lwp_sound rest (st.undef hd) hl hk
end
end Go.AM
namespace Go.AM
section
variable {P:Program}{ow:Nat→Bool}{wf:FuncId→Bool}{n:Nat}
theorem eff_congr{w:Bool}{op:Op}{s s':Slots}{h:Heap}(hs: ∀ t,.tmp t∈op.operands→s t=s' t):eff P w op (pev s) h=eff P w op (pev s') h:=by
  have hp: ∀ x∈op.operands,pev s x=pev s' x:=by
    intro x hx;cases x<;>first|rfl|exact hs _ hx
  have pairs: ∀ ps:Array (Nat × Operand),(∀ x∈(ps.toList.map (·.2)),pev s x=pev s' x)→(ps.toList.map fun p=>(p.1,pev s p.2))=(ps.toList.map fun p=>(p.1,pev s' p.2)):=fun ps hh=>
    List.map_congr_left fun p hm=>by rw[hh p.2 (List.mem_map.2 ⟨p,hm,rfl⟩)]
  have opt: ∀ x:Option Operand,(∀ y,x=some y→pev s y=pev s' y)→oInt (pev s) x=oInt (pev s') x:=by
    intro x hh;cases x with
    |none=>rfl
    |some y=>simp only[oInt,hh y rfl]
  have optz: ∀ x:Option Operand,(∀ y,x=some y→pev s y=pev s' y)→isZeroInt (pev s) x=isZeroInt (pev s') x:=by
    intro x hh;cases x with
    |none=>rfl
    |some y=>simp only[isZeroInt,hh y rfl]
  cases op
  case build t ps=>simp only[eff,pairs ps fun x hx=>hp x (by simpa[Op.operands]using hx)]
  case buildSlice t l ps=>simp only[eff,pairs ps fun x hx=>hp x (by simpa[Op.operands]using hx)]
  case slice t x lo hi mx=>
    have e0:pev s x=pev s' x:=hp x (by simp[Op.operands]);have e1: ∀ y,lo=some y→pev s y=pev s' y:=fun y hy=>hp y (by simp[Op.operands,hy]);have e2: ∀ y,hi=some y→pev s y=pev s' y:=fun y hy=>hp y (by simp[Op.operands,hy]);have e3: ∀ y,mx=some y→pev s y=pev s' y:=fun y hy=>hp y (by simp[Op.operands,hy]);cases mx with
    |none=>simp only[eff,e0,opt lo e1,opt hi e2]
    |some m=>
      cases lo with
      |some l=>rfl
      |none=>
        cases hi with
        |none=>rfl
        |some hh=>simp only[eff,e0,optz _ e2,optz _ e3,e2 hh rfl,e3 m rfl]
  case makeMap t r=>cases r<;>rfl
  case typeAssert x t1 t2 ok=>
    have e0:pev s x=pev s' x:=hp x (by simp[Op.operands]);cases ok<;>simp only[eff,e0]
  case call c=>
    obtain⟨cl,⟨args⟩,⟨ts⟩⟩:=c;cases cl with
    |value f=>rfl
    |invoke f m=>rfl
    |builtin b=>
      have ha: ∀ x∈args,pev s x=pev s' x:=fun x hx=>hp x (by simp[Op.operands,Call.operands,hx]);cases b<;>try rfl
      · match args,ts,ha with
        |[x,y],[t,u],ha=>simp only[eff,ha x (by simp),ha y (by simp)]
        |[],_,_=>rfl
        |[_],_,_=>rfl
        |_::_::_::_,_,_=>rfl
        |[_,_],[],_=>rfl
        |[_,_],[_],_=>rfl
        |[_,_],_::_::_::_,_=>rfl
      · match args,ts,ha with
        |[x],[t],ha=>simp only[eff,ha x (by simp)]
        |[],_,_=>rfl
        |_::_::_,_,_=>rfl
        |[_],[],_=>rfl
        |[_],_::_::_,_=>rfl
      · match args,ts,ha with
        |[x],[t],ha=>simp only[eff,ha x (by simp)]
        |[],_,_=>rfl
        |_::_::_,_,_=>rfl
        |[_],[],_=>rfl
        |[_],_::_::_,_=>rfl
      all_goals
        match args,ha with
        |[x,y],ha=>simp only[eff,ha x (by simp),ha y (by simp)]
        |[],_=>rfl
        |[_],_=>rfl
        |_::_::_::_,_=>rfl
  case makeFunc fn first caps=>
    have e1:first.toList.map (pev s)=first.toList.map (pev s'):=List.map_congr_left fun x hx=>hp x (by simp only[Op.operands,Array.mem_append];exact .inl (Array.mem_toList_iff.1 hx))
    have e2:caps.toList.map (pev s)=caps.toList.map (pev s'):=List.map_congr_left fun x hx=>hp x (by simp only[Op.operands,Array.mem_append];exact .inr (Array.mem_toList_iff.1 hx));cases fn<;>first|rfl|simp only[eff,e1,e2]
  all_goals first
    |rfl
    | (simp only [Op.operands] at hp
       simp only[eff]
       simp_all)
theorem callee_congr{op:Op}{s s':Slots}(hs: ∀ t,.tmp t∈op.operands→s t=s' t):callee (pev s) op=callee (pev s') op:=by
 cases op<;>try rfl
 case call c=>
  obtain⟨cl,as,ts⟩:=c;cases cl with
  |value f=>
   have hf:pev s f=pev s' f:=(by cases f<;>first|rfl|exact hs _ (by simp[Op.operands,Call.operands]));have ha:as.toList.map (pev s)=as.toList.map (pev s'):=List.map_congr_left fun x hx=>by
    cases x<;>first|rfl|exact hs _ (by simp only[Op.operands,Call.operands,Array.mem_append];right;exact Array.mem_toList_iff.1 hx)
   simp only[callee,hf,ha]
  |invoke f m=>rfl
  |builtin b=>rfl
theorem Does_congr{o:Oper}{s s':Slots}{h h':Heap}{v:PV}(hs: ∀ t,.tmp t∈o.op.operands→s t=s' t)(hd:Does P ow o (pev s) h v h'):Does P ow o (pev s') h v h':=by
 unfold Does at hd⊢;rw[← callee_congr hs, ← eff_congr hs];cases hc:callee (pev s) o.op with
 |none=>rw[hc]at hd;exact hd
 |some fa=>
  obtain⟨f,args⟩:=fa;rw[hc]at hd;exact hd
theorem before_go(f:Array Nat→Oper→Array Nat)(g:(Nat→Nat)→Oper→Nat)(hf: ∀ acc o,f acc o=acc.push (g (fun m=>acc.getD m 0) o)): ∀ (l:List Oper)(acc:Array Nat),
  (l.foldl f acc).size=acc.size+l.length∧(∀ j,j<acc.size→(l.foldl f acc).getD j 0=acc.getD j 0)∧
  ∀ (j:Nat)(o:Oper),l[j]? =some o→(l.foldl f acc).getD (acc.size+j) 0=g (fun m=>if m<acc.size+j then(l.foldl f acc).getD m 0 else 0) o
 |[],acc=>by simp
 |o::l,acc=>by
  obtain⟨h1,h2,h3⟩:=before_go f g hf l (f acc o);have hsz:(f acc o).size=acc.size+1:=by rw[hf];simp
  have hlow: ∀ j,j<acc.size→(l.foldl f (f acc o)).getD j 0=acc.getD j 0:=by
   intro j hj;rw[h2 j (by omega),hf];rw[Array.getD_eq_getD_getElem?,Array.getD_eq_getD_getElem?,Array.getElem?_push_lt hj,Array.getElem?_eq_getElem hj]
  refine⟨by simp only[List.foldl_cons,h1,hsz,List.length_cons];omega,fun j hj=>by simpa only[List.foldl_cons]using hlow j hj,fun j q hq=>?_⟩;cases j with
  |zero=>
   simp at hq;subst hq;simp only[List.foldl_cons,Nat.add_zero];rw[h2 _ (by omega),hf];have e1:(acc.push (g (fun m=>acc.getD m 0) o)).getD acc.size 0=g (fun m=>acc.getD m 0) o:=(by simp[Array.getD_eq_getD_getElem?]);rw[e1];congr 1;funext m;by_cases hm:m<acc.size
   ·rw [if_pos hm, ← hlow m hm,hf]
   ·rw [if_neg hm,Array.getD_eq_getD_getElem?,Array.getElem?_eq_none (by omega)];try rfl
  |succ j=>
   have:=h3 j q (by simpa using hq);rw[hsz]at this;simp only[List.foldl_cons];rw[show acc.size+(j+1)=acc.size+1+j by omega];exact this
theorem after_fold(b:Nat→Nat): ∀ (l:List Edge)(s i:Nat),(l.foldl (fun s e=>if Region.binds .any e then s|||2 ^ e.on|||b e.on else s) s).testBit i=true→
  s.testBit i=true∨ ∃ e∈l,Region.binds .any e=true∧(i=e.on∨(b e.on).testBit i=true)
 |[],s,i,h=> .inl h
 |e::l,s,i,h=>by
  simp only[List.foldl_cons]at h;rcases after_fold b l _ i h with h1|⟨e',h1,h2,h3⟩
  ·split at h1
   ·rename_i hb;simp only[Nat.testBit_or,Bool.or_eq_true]at h1;rcases h1 with(h1|h1)|h1
    ·exact .inl h1
    ·refine .inr ⟨e,by simp,hb,.inl ?_⟩;rw[Nat.testBit_two_pow]at h1;exact(of_decide_eq_true h1).symm
    ·exact .inr ⟨e,by simp,hb,.inr h1⟩
   ·exact .inl h1
  ·exact .inr ⟨e',by simp[h1],h2,h3⟩
theorem pre_spec{ops:List Oper}{i j:Nat}{o:Oper}(ho:ops[j]? =some o)(hp:pre ops i j=true):
  ∃ e∈o.after.toList,Region.binds .any e=true∧(i=e.on∨(e.on<j∧pre ops i e.on=true)):=by
 unfold pre at hp⊢;have hb:Region.before ops.toArray=ops.foldl (fun acc o=>acc.push (o.after.foldl (fun s e=>if Region.binds .any e then s|||2 ^ e.on|||acc.getD e.on 0 else s) 0)) #[]:=by
  unfold Region.before;rw[← Array.foldl_toList]
 have h3:=(before_go (fun acc o=>acc.push (o.after.foldl (fun s e=>if Region.binds .any e then s|||2 ^ e.on|||acc.getD e.on 0 else s) 0))
  (fun b o=>o.after.toList.foldl (fun s e=>if Region.binds .any e then s|||2 ^ e.on|||b e.on else s) 0) (fun acc o=>by rw[← Array.foldl_toList]) ops #[]).2.2 j o ho
 simp only[List.size_toArray,List.length_nil,Nat.zero_add]at h3;rw[← hb]at h3;rw[h3]at hp;rcases after_fold (fun m=>if m<j then(Region.before ops.toArray).getD m 0 else 0) _ _ _ hp with h1|⟨e,h1,h2,h4⟩
 ·simp at h1
 ·refine ⟨e,h1,h2,h4.imp id (fun h5=>?_)⟩;by_cases hj:e.on<j
  ·rw [if_pos hj]at h5;exact⟨hj,h5⟩
  ·rw [if_neg hj]at h5;simp at h5
structure DOk(ow:Nat→Bool)(wf:FuncId→Bool)(ops:List Oper):Prop where
 back: ∀ (j:Nat)(o:Oper),ops[j]? =some o→ ∀ e∈o.after.toList,Region.binds .any e=true→e.on<j
 nosel: ∀ (j:Nat)(o:Oper),ops[j]? =some o→ ∀ cs b,o.op≠ .select cs b
 slot: ∀ (i j:Nat)(q o:Oper),i≠j→ops[i]? =some q→ops[j]? =some o→ ∀ d,q.dst=some d→d∈looks ops o→pre ops i j=true∨pre ops j i=true
 ww: ∀ (i j:Nat)(q o:Oper),i≠j→ops[i]? =some q→ops[j]? =some o→isW ow wf q=true→isW ow wf o=true→pre ops i j=true∨pre ops j i=true
theorem DOk.of{ops:List Oper}(h:dOk ow wf ops=true):DOk ow wf ops:=by
 unfold dOk at h;rw[List.all_eq_true]at h;have hm: ∀ (j:Nat)(o:Oper),ops[j]? =some o→_:=fun j o ho=>h (o,j) (List.mem_zipIdx_iff_getElem?.2 ho);refine⟨fun j o ho e he hb=>?_,fun j o ho cs b hsel=>?_,fun i j q o hij hq ho d hd hl=>?_,fun i j q o hij hq ho h1 h2=>?_⟩
 ·have h0:=hm j o ho;simp only[Bool.and_eq_true,List.all_eq_true]at h0;have:=h0.1.1 e he;simpa[hb]using this
 ·have h0:=hm j o ho;simp only[Bool.and_eq_true]at h0;have:=h0.1.2;rw[hsel]at this;simp at this
 ·have h0:=hm j o ho;simp only[Bool.and_eq_true,List.all_eq_true]at h0;have:=h0.2 (q,i) (List.mem_zipIdx_iff_getElem?.2 hq);simp only[Bool.or_eq_true,Bool.and_eq_true,beq_iff_eq,hd,Bool.not_eq_true']at this;rcases this with h1|⟨h1,_⟩
  ·exact absurd h1 hij
  ·rcases h1 with(h1|h1)|h1
   ·rw [List.contains_iff_mem.2 hl]at h1;simp at h1
   ·exact .inl h1
   ·exact .inr h1
 ·have h0:=hm j o ho;simp only[Bool.and_eq_true,List.all_eq_true]at h0;have:=h0.2 (q,i) (List.mem_zipIdx_iff_getElem?.2 hq);simp only[Bool.or_eq_true,Bool.and_eq_true,beq_iff_eq,h1,h2,Bool.not_eq_true',Bool.and_self,Bool.true_eq_false,false_or]at this;rcases this with h3|⟨_,h3⟩
  ·exact absurd h3 hij
  ·exact h3
theorem pre_lt{ops:List Oper}(hd:DOk ow wf ops): ∀ (j i:Nat),j<ops.length→pre ops i j=true→i<j:=by
 intro j
 induction j using Nat.strongRecOn with
 |_ j ih=>
  intro i hj hp;obtain⟨e,h1,h2,h3⟩:=pre_spec (List.getElem?_eq_getElem hj) hp;have hlt:=hd.back j _ (List.getElem?_eq_getElem hj) e h1 h2;rcases h3 with rfl|⟨h4,h5⟩
  ·exact hlt
  ·exact Nat.lt_trans (ih e.on h4 i (by omega) h5) h4
def Closed(ops:List Oper)(S:Nat→Bool):Prop:= ∀ (j:Nat)(o:Oper),ops[j]? =some o→S j=true→ ∀ e∈o.after.toList,Region.binds .any e=true→S e.on=true
theorem Closed.pre{ops:List Oper}{S:Nat→Bool}(hc:Closed ops S): ∀ (j i:Nat),j<ops.length→S j=true→pre ops i j=true→S i=true:=by
 intro j
 induction j using Nat.strongRecOn with
 |_ j ih=>
  intro i hj hs hp;obtain⟨e,h1,h2,h3⟩:=pre_spec (List.getElem?_eq_getElem hj) hp;have hse:=hc j _ (List.getElem?_eq_getElem hj) hs e h1 h2;rcases h3 with rfl|⟨h4,h5⟩
  ·exact hse
  ·exact ih e.on h4 i (by omega) hse h5
end
end Go.AM
namespace Go.AM
section
variable {P:Program}{ow:Nat→Bool}{wf:FuncId→Bool}{n:Nat}{ops:List Oper}
def Wd(ow:Nat→Bool)(wf:FuncId→Bool)(ops:List Oper)(sk:Nat→Slots)(j:Nat):Prop:= ∃ o,ops[j]? =some o∧isW ow wf o=true∧wantedB ops (sk j) o=some true
def Nd(ow:Nat→Bool)(wf:FuncId→Bool)(ops:List Oper)(sk:Nat→Slots)(j:Nat)(o:Oper):Prop:=ops[j]? =some o∧isW ow wf o=false∧wantedB ops (sk j) o=some true
structure Tr(P:Program)(ow:Nat→Bool)(wf:FuncId→Bool)(n:Nat)(ops:List Oper)(k:Nat)(sk:Nat→Slots)(hk:Nat→Heap)(vk:Nat→PV):Prop where
 step: ∀ (j:Nat)(o:Oper),k≤j→ops[j]? =some o→o.dst.all (fun d=>decide (d<n))=true∧ ∃ b,wantedB ops (sk j) o=some b∧
  (b=false→sk (j+1)=updO (sk j) o.dst (.sc undef)∧hk (j+1)=hk j)∧
  (b=true→sk (j+1)=updO (sk j) o.dst (vk j)∧Does P ow o (pev (sk j)) (hk j) (vk j) (hk (j+1))∧(isW ow wf o=false→hk (j+1)=hk j))
 apart: ∀ (i j:Nat)(o:Oper),k≤i→k≤j→Nd ow wf ops sk i o→Wd ow wf ops sk j→
  (i<j→pre ops i j=true∨Does P ow o (pev (sk i)) (hk (j+1)) (vk i) (hk (j+1)))∧(j<i→pre ops j i=true∨Does P ow o (pev (sk i)) (hk j) (vk i) (hk j))
def atk{α:Type}(k:Nat)(x:α)(f:Nat→α):Nat→α:=fun j=>if j=k then x else f j
theorem atk_self{α:Type}{k:Nat}{x:α}{f:Nat→α}:atk k x f k=x:=if_pos rfl
theorem atk_ne{α:Type}{k j:Nat}{x:α}{f:Nat→α}(h:j≠k):atk k x f j=f j:=if_neg h
theorem drun_tr{K:Slots→Heap→Prop}: ∀ (l:List Oper)(k:Nat)(past:List (Nat × (Heap→Prop)))(hist:List (Nat × Heap))(s:Slots)(h:Heap),l=ops.drop k→drun P ow wf n ops k l past hist K s h→
  ∃ sk hk vk,sk k=s∧hk k=h∧(K (sk (k+l.length)) (hk (k+l.length)))∧Tr P ow wf n ops k sk hk vk∧
   (∀ x∈past, ∀ j,k≤j→Wd ow wf ops sk j→pre ops x.1 j=true∨x.2 (hk (j+1)))∧
   (∀ x∈hist, ∀ i o,k≤i→Nd ow wf ops sk i o→pre ops x.1 i=true∨Does P ow o (pev (sk i)) x.2 (vk i) x.2)
 |[],k,past,hist,s,h,hl,hd=>by
  simp only[drun]at hd;have hk:ops.length≤k:=by
   have:=congrArg List.length hl;simp at this;omega
  have hno: ∀ (j:Nat)(o:Oper),k≤j→ops[j]? =some o→False:=fun j o hj ho=>by
   have:=(List.getElem?_eq_some_iff.1 ho).1;omega
  refine⟨fun _=>s,fun _=>h,fun _=> .emp,rfl,rfl,hd,⟨fun j o hj ho=>(hno j o hj ho).elim,fun i j o hi _ hn _=>(hno i o hi hn.1).elim⟩,fun x _ j hj hw=>?_,fun x _ i o hi hn=>(hno i o hi hn.1).elim⟩;obtain⟨o,ho,_⟩:=hw;exact(hno j o hj ho).elim
 |o::rest,k,past,hist,s,h,hl,hd=>by
  have hok:ops[k]? =some o:=by
   have:(ops.drop k)[0]? =some o:=(by rw[← hl];try rfl);simpa using this
  have hrest:rest=ops.drop (k+1):=by
   have:=congrArg List.tail hl;simpa using this
  simp only[drun]at hd;obtain⟨hdst,hd⟩:=hd;have ext: ∀ {sk':Nat→Slots}{j:Nat},k+1≤j→(atk k s sk') j=sk' j:=fun hj=>atk_ne (by omega);have exth: ∀ {hk':Nat→Heap}{j:Nat},k+1≤j→(atk k h hk') j=hk' j:=fun hj=>atk_ne (by omega);split at hd
  ·exact hd.elim
  ·rename_i b hb;cases b with
   |false=>
    simp only[Bool.false_eq_true,if_false]at hd;obtain⟨sk',hk',vk',e1,e2,e3,tr,hp,hh⟩:=drun_tr rest (k+1) past hist _ _ hrest hd;have hnW:¬ Wd ow wf ops (atk k s sk') k:=by
     rintro⟨q,hq,_,hw⟩;rw[hok]at hq;simp at hq;subst hq;rw[atk_self,hb]at hw;simp at hw
    have hnN: ∀ q,¬ Nd ow wf ops (atk k s sk') k q:=by
     rintro q ⟨hq,_,hw⟩;rw[hok]at hq;simp at hq;subst hq;rw[atk_self,hb]at hw;simp at hw
    have wdE: ∀ j,k+1≤j→Wd ow wf ops (atk k s sk') j→Wd ow wf ops sk' j:=by
     intro j hj hw;unfold Wd at hw⊢;rw[ext hj]at hw;exact hw
    have ndE: ∀ j q,k+1≤j→Nd ow wf ops (atk k s sk') j q→Nd ow wf ops sk' j q:=by
     intro j q hj hw;unfold Nd at hw⊢;rw[ext hj]at hw;exact hw
    have gt: ∀ j,k≤j→Wd ow wf ops (atk k s sk') j→k+1≤j:=by
     intro j hj hw;rcases Nat.lt_or_ge k j with h1|h1
     ·exact h1
     ·have:j=k:=(by omega);subst this;exact(hnW hw).elim
    have gtn: ∀ j q,k≤j→Nd ow wf ops (atk k s sk') j q→k+1≤j:=by
     intro j q hj hw;rcases Nat.lt_or_ge k j with h1|h1
     ·exact h1
     ·have:j=k:=(by omega);subst this;exact(hnN q hw).elim
    refine⟨atk k s sk',atk k h hk',vk',atk_self,atk_self,?_,⟨fun j q hj hq=>?_,fun i j q hi hj hn hw=>?_⟩,fun x hx j hj hw=>?_,fun x hx i q hi hn=>?_⟩
    ·rw [atk_ne (by simp),atk_ne (by simp)];rw[show k+(o::rest).length=k+1+rest.length by simp;omega];exact e3
    ·rcases Nat.lt_or_ge k j with h1|h1
     ·obtain ⟨t1,t2⟩:=tr.step j q h1 hq;refine⟨t1,?_⟩;rw[ext (sk':=sk') h1,ext (sk':=sk') (by omega:k+1≤j+1),exth (hk':=hk') h1,exth (hk':=hk') (by omega:k+1≤j+1)];exact t2
     ·have hjk:j=k:=(by omega);subst hjk;rw[hok]at hq;simp at hq;subst hq;refine⟨hdst,false,by rw[atk_self];exact hb,fun _=>?_,fun hc=>by cases hc⟩;rw[ext (sk':=sk') (Nat.le_refl _),exth (hk':=hk') (Nat.le_refl _)];simp[e1,e2,atk_self]
    ·have hi':=gtn i q hi hn;have hj':=gt j hj hw;have:=tr.apart i j q hi' hj' (ndE i q hi' hn) (wdE j hj' hw);rw[ext (sk':=sk') hi',exth (hk':=hk') (by omega:k+1≤j+1),exth (hk':=hk') hj'];exact this
    ·have hj':=gt j hj hw;have:=hp x hx j hj' (wdE j hj' hw);rw[exth (hk':=hk') (by omega:k+1≤j+1)];exact this
    ·have hi':=gtn i q hi hn;have:=hh x hx i q hi' (ndE i q hi' hn);rw[ext (sk':=sk') hi'];exact this
   |true=>
    simp only[if_true]at hd;split at hd
    ·rename_i hw;obtain⟨v,h',hdo,hpast,hd⟩:=hd;obtain⟨sk',hk',vk',e1,e2,e3,tr,hp,hh⟩:=drun_tr rest (k+1) past ((k,h)::hist) _ _ hrest hd;have hnN: ∀ q,¬ Nd ow wf ops (atk k s sk') k q:=by
      rintro q ⟨hq,hq2,_⟩;rw[hok]at hq;simp at hq;subst hq;rw[hw]at hq2;simp at hq2
     have wdE: ∀ j,k+1≤j→Wd ow wf ops (atk k s sk') j→Wd ow wf ops sk' j:=by
      intro j hj hw;unfold Wd at hw⊢;rw[ext hj]at hw;exact hw
     have ndE: ∀ j q,k+1≤j→Nd ow wf ops (atk k s sk') j q→Nd ow wf ops sk' j q:=by
      intro j q hj hw;unfold Nd at hw⊢;rw[ext hj]at hw;exact hw
     have gtn: ∀ j q,k≤j→Nd ow wf ops (atk k s sk') j q→k+1≤j:=by
      intro j q hj hw;rcases Nat.lt_or_ge k j with h1|h1
      ·exact h1
      ·have:j=k:=(by omega);subst this;exact(hnN q hw).elim
     have vkE: ∀ {j},k+1≤j→(atk k v vk') j=vk' j:=fun hj=>atk_ne (by omega);refine⟨atk k s sk',atk k h hk',atk k v vk',atk_self,atk_self,?_,⟨fun j q hj hq=>?_,fun i j q hi hj hn hwd=>?_⟩,fun x hx j hj hwd=>?_,fun x hx i q hi hn=>?_⟩
     ·rw [atk_ne (by simp),atk_ne (by simp)];rw[show k+(o::rest).length=k+1+rest.length by simp;omega];exact e3
     ·rcases Nat.lt_or_ge k j with h1|h1
      ·obtain ⟨t1,t2⟩:=tr.step j q h1 hq;refine⟨t1,?_⟩;rw[ext (sk':=sk') h1,ext (sk':=sk') (by omega:k+1≤j+1),exth (hk':=hk') h1,exth (hk':=hk') (by omega:k+1≤j+1),vkE h1];exact t2
      ·have hjk:j=k:=(by omega);subst hjk;rw[hok]at hq;simp at hq;subst hq;refine⟨hdst,true,by rw[atk_self];exact hb,(fun hc=>by cases hc),fun _=>?_⟩;rw[ext (sk':=sk') (Nat.le_refl _),exth (hk':=hk') (Nat.le_refl _)];simp only[atk_self,e1,e2];exact⟨trivial,hdo,fun hc=>by rw[hw]at hc;simp at hc⟩
     ·have hi':=gtn i q hi hn;rw[ext (sk':=sk') hi',exth (hk':=hk') (by omega:k+1≤j+1),vkE hi'];rcases Nat.lt_or_ge k j with h1|h1
      ·have:=tr.apart i j q hi' h1 (ndE i q hi' hn) (wdE j h1 hwd);rw[exth (hk':=hk') h1];exact this
      ·have hjk:j=k:=(by omega);subst hjk;refine⟨fun hlt=>by omega,fun _=>?_⟩;rw[atk_self];exact hh (j,h) (by simp) i q hi' (ndE i q hi' hn)
     ·rcases Nat.lt_or_ge k j with h1|h1
      ·rw [exth (hk':=hk') (by omega:k+1≤j+1)];exact hp x hx j h1 (wdE j h1 hwd)
      ·have hjk:j=k:=(by omega);subst hjk;rw[exth (hk':=hk') (Nat.le_refl _),e2];exact hpast x hx
     ·have hi':=gtn i q hi hn;rw[ext (sk':=sk') hi',vkE hi'];exact hh x (by simp[hx]) i q hi' (ndE i q hi' hn)
    ·rename_i hw;obtain⟨v,hdo,hhist,hd⟩:=hd;have hw':isW ow wf o=false:=(by simpa using hw);obtain⟨sk',hk',vk',e1,e2,e3,tr,hp,hh⟩:=drun_tr rest (k+1) ((k,fun h'=>Does P ow o (pev s) h' v h')::past) hist _ _ hrest hd;have hnW:¬ Wd ow wf ops (atk k s sk') k:=by
      rintro⟨q,hq,hq2,_⟩;rw[hok]at hq;simp at hq;subst hq;exact hw hq2
     have wdE: ∀ j,k+1≤j→Wd ow wf ops (atk k s sk') j→Wd ow wf ops sk' j:=by
      intro j hj hw;unfold Wd at hw⊢;rw[ext hj]at hw;exact hw
     have ndE: ∀ j q,k+1≤j→Nd ow wf ops (atk k s sk') j q→Nd ow wf ops sk' j q:=by
      intro j q hj hw;unfold Nd at hw⊢;rw[ext hj]at hw;exact hw
     have gt: ∀ j,k≤j→Wd ow wf ops (atk k s sk') j→k+1≤j:=by
      intro j hj hw;rcases Nat.lt_or_ge k j with h1|h1
      ·exact h1
      ·have:j=k:=(by omega);subst this;exact(hnW hw).elim
     have vkE: ∀ {j},k+1≤j→(atk k v vk') j=vk' j:=fun hj=>atk_ne (by omega);refine⟨atk k s sk',atk k h hk',atk k v vk',atk_self,atk_self,?_,⟨fun j q hj hq=>?_,fun i j q hi hj hn hwd=>?_⟩,fun x hx j hj hwd=>?_,fun x hx i q hi hn=>?_⟩
     ·rw [atk_ne (by simp),atk_ne (by simp)];rw[show k+(o::rest).length=k+1+rest.length by simp;omega];exact e3
     ·rcases Nat.lt_or_ge k j with h1|h1
      ·obtain ⟨t1,t2⟩:=tr.step j q h1 hq;refine⟨t1,?_⟩;rw[ext (sk':=sk') h1,ext (sk':=sk') (by omega:k+1≤j+1),exth (hk':=hk') h1,exth (hk':=hk') (by omega:k+1≤j+1),vkE h1];exact t2
      ·have hjk:j=k:=(by omega);subst hjk;rw[hok]at hq;simp at hq;subst hq;refine⟨hdst,true,by rw[atk_self];exact hb,(fun hc=>by cases hc),fun _=>?_⟩;rw[ext (sk':=sk') (Nat.le_refl _),exth (hk':=hk') (Nat.le_refl _)];simp only[atk_self,e1,e2];exact⟨trivial,hdo,fun _=>trivial⟩
     ·have hj':=gt j hj hwd;rw[exth (hk':=hk') (by omega:k+1≤j+1),exth (hk':=hk') hj'];rcases Nat.lt_or_ge k i with h1|h1
      ·rw [ext (sk':=sk') h1,vkE h1];exact tr.apart i j q h1 hj' (ndE i q h1 hn) (wdE j hj' hwd)
      ·have hik:i=k:=(by omega);subst hik;have hq:=hn.1;rw[hok]at hq;simp at hq;subst hq;refine⟨fun _=>?_,fun hlt=>by omega⟩;simp only[atk_self];exact hp _ (List.mem_cons_self ..) j hj' (wdE j hj' hwd)
     ·have hj':=gt j hj hwd;rw[exth (hk':=hk') (by omega:k+1≤j+1)];exact hp x (by simp[hx]) j hj' (wdE j hj' hwd)
     ·rcases Nat.lt_or_ge k i with h1|h1
      ·rw [ext (sk':=sk') h1,vkE h1];exact hh x hx i q h1 (ndE i q h1 hn)
      ·have hik:i=k:=(by omega);subst hik;have hq:=hn.1;rw[hok]at hq;simp at hq;subst hq;simp only[atk_self];exact hhist x hx
end
end Go.AM
