/- The abstract machine: values whose immutable parts are plain lists, a heap of named objects, and what each operation and each form of code does to them. No program is in sight. -/
import Derived.WalkKit
set_option linter.unusedVariables false
set_option linter.unusedSimpArgs false
set_option linter.unusedSectionVars false
namespace Go.AM

inductive PV where
  | sc (v : Value)
  | ptr (id i f : Nat)
  | cptr (cells : List PV)
  | own (id off len : Nat)
  | imm (z : Nat) (rows : List (List PV))
  | emp
  | mp (id : Nat)
  | agg (cells : List PV)
  | tup (vs : List PV)
  | fn (f : FuncId) (first caps : List PV)
  | ab (k : IntKind) (lo hi m r : Int)

inductive AObj where
  | arr (z : Nat) (rows : List (List PV))
  | map (es : List (Value × PV))
  | glb (g : Nat) (lo hi : Int)

structure Heap where
  next : Nat
  obj : Nat → Option AObj

def Heap.nil : Heap := ⟨0, fun _ => none⟩
def Heap.new (h : Heap) (o : AObj) : Heap := ⟨h.next + 1, fun i => if i = h.next then some o else h.obj i⟩
def Heap.set (h : Heap) (id : Nat) (o : AObj) : Heap := ⟨h.next, fun i => if i = id then some o else h.obj i⟩
def Heap.kill (h : Heap) (id : Nat) : Heap := ⟨h.next, fun i => if i = id then none else h.obj i⟩

def PV.cells : PV → List PV
  | .agg l => l
  | p => [p]
def oneC : PV → Bool
  | .sc v => v.oneCell'
  | .agg _ => false
  | .tup _ => false
  | _ => true

abbrev Slots := Nat → PV
def upd (s : Slots) (d : Nat) (v : PV) : Slots := fun t => if t = d then v else s t
def updO (s : Slots) (d : Option Nat) (v : PV) : Slots := match d with | some d => upd s d v | none => s

def constPV : Value → PV
  | .agg cs => if cs.toList.all Value.oneCell' = true then .agg (cs.toList.map .sc) else .sc (.agg cs)
  | v => .sc v
def pev (s : Slots) : Operand → PV
  | .tmp t => s t
  | .const v => constPV v
  | .global g => .sc (.pointer (some ⟨g, 0, none⟩))
  | .func f => .sc (.func (.func f) #[] #[])

/-! What is asked of the program's table of types. -/
def kT (P : Program) (t : TypeId) : Nat :=
  match P.underlying t with
  | some .bool => 1 | some (.int _) => 2 | some .string => 3 | some (.pointer _) => 4 | some (.slice _) => 5 | some (.map _ _) => 6
  | some (.interface _) => 7 | some (.struct _) => 8 | some (.array _ _) => 9 | some (.func _ _ _) => 10 | some _ => 11 | none => 0
def intT (P : Program) (t : TypeId) : Option IntKind := match P.underlying t with | some (.int k) => some k | _ => none
def szT (P : Program) (t : TypeId) : Option Nat := match P.underlying t with | some _ => (P.info? t).map (·.size) | none => none
/-- the number of cells of a slice's element, and its bytes -/
def elT (P : Program) (t : TypeId) : Option (Nat × Nat) := match P.underlying t with | some (.slice e) => (P.info? e).bind fun i => i.zero.bind fun zv => if zv.cells.size = i.size then some (i.size, i.bytes) else none | _ => none
/-- an array's length and the number of cells of its element -/
def arT (P : Program) (t : TypeId) : Option (Nat × Nat) := match P.underlying t with | some (.array n e) => (P.info? e).map fun i => (n, i.size) | _ => none
/-- an array's length, its element's number of cells, and whether that is a struct or an array -/
def arE (P : Program) (t : TypeId) : Option (Nat × Nat × Bool) := match P.underlying t with | some (.array n e) => (szT P e).map fun z => (n, z, kT P e == 8 || kT P e == 9) | _ => none
def zeroT (P : Program) (t : TypeId) : Option (List Value) := (P.info? t).bind fun i => i.zero.bind fun z => if z.cells.toList.all Value.oneCell' = true then some z.cells.toList else none
def elZ (P : Program) (t : TypeId) : Option (List Value) := match P.underlying t with | some (.slice e) => zeroT P e | _ => none
/-- a field's offset, its number of cells, and whether it is a struct or an array -/
def fldT (P : Program) (t : TypeId) (f : Nat) : Option (Nat × Nat × Bool) :=
  match P.underlying t with
  | some (.struct fs) => (fs[f]?).bind fun f => (szT P f.type).map fun n => (f.offset, n, kT P f.type == 8 || kT P f.type == 9)
  | _ => none
/-- the places of all fields -/
def fieldsT (P : Program) (t : TypeId) : Option (List (Nat × Nat)) :=
  match P.underlying t with
  | some (.struct fs) => fs.toList.mapM fun f => (P.info? f.type).map fun i => (f.offset, i.size)
  | _ => none
def zvT (P : Program) (t : TypeId) : Option Value := (P.info? t).bind (·.zero)
/-- a map: its key's kind, its element's zero -/
def mapT (P : Program) (t : TypeId) : Option (Nat × Value) :=
  match P.underlying t with
  | some (.map k e) => (zvT P e).map fun z => (kT P k, z)
  | _ => none
def aggB (P : Program) (t : TypeId) : Bool := kT P t == 8 || kT P t == 9

def mkV (ag : Bool) (n : Nat) (cs : List PV) : Option PV :=
  if ag then (if n ≤ cs.length then some (.agg (cs.take n)) else none) else cs.head?

/-! Operations on values without references. -/
def andK (k : IntKind) (a b : Int) : Int := k.wrap (BitVec.ofInt k.bits a &&& BitVec.ofInt k.bits b).toNat
def orK (k : IntKind) (a b : Int) : Int := k.wrap (BitVec.ofInt k.bits a ||| BitVec.ofInt k.bits b).toNat
def xorK (k : IntKind) (a b : Int) : Int := k.wrap (BitVec.ofInt k.bits a ^^^ BitVec.ofInt k.bits b).toNat
def andnK (k : IntKind) (a b : Int) : Int := k.wrap (BitVec.ofInt k.bits a &&& ~~~ BitVec.ofInt k.bits b).toNat
def pint (op : BinOp) (k : IntKind) (a b : Int) : Option Value :=
  match op with
  | .add => some (.int k (k.wrap (a + b)))
  | .sub => some (.int k (k.wrap (a - b)))
  | .mul => some (.int k (k.wrap (a * b)))
  | .quo => if b = 0 then none else some (.int k (k.wrap (a.tdiv b)))
  | .rem => if b = 0 then none else some (.int k (a.tmod b))
  | .and => some (.int k (andK k a b))
  | .or => some (.int k (orK k a b))
  | .xor => some (.int k (xorK k a b))
  | .andNot => some (.int k (andnK k a b))
  | .eql => some (.bool (a == b))
  | .neq => some (.bool (a != b))
  | .lss => some (.bool (a < b))
  | .leq => some (.bool (a ≤ b))
  | .gtr => some (.bool (a > b))
  | .geq => some (.bool (a ≥ b))
  | _ => none
def pshift (op : BinOp) (k : IntKind) (a b : Int) : Option Value :=
  if b < 0 then none else match op with
  | .shl => some (.int k (k.wrap (a * 2 ^ (min b.toNat k.bits))))
  | .shr => some (.int k (a.fdiv (2 ^ (min b.toNat k.bits))))
  | _ => none
def pstr (op : BinOp) (a b : ByteArray) : Option Value :=
  match op with
  | .add => if ((a.size + b.size : Nat) : Int) > IntKind.i64.max then none else some (.string (a ++ b))
  | .eql => some (.bool (a.data.toList == b.data.toList))
  | .neq => some (.bool !(a.data.toList == b.data.toList))
  | .lss => some (.bool (Op.bytesLess a.data.toList b.data.toList))
  | .leq => some (.bool (Op.bytesLess a.data.toList b.data.toList || a.data.toList == b.data.toList))
  | .gtr => some (.bool !(Op.bytesLess a.data.toList b.data.toList || a.data.toList == b.data.toList))
  | .geq => some (.bool !(Op.bytesLess a.data.toList b.data.toList))
  | _ => none
def isShift : BinOp → Bool
  | .shl | .shr => true
  | _ => false
def isConstB : Operand → Bool
  | .const _ => true
  | _ => false
/-- equality of two values of a type of kind `kt`; `c`: one operand is a constant -/
def peq (kt : Nat) (c : Bool) (x y : PV) : Option Bool :=
  match x, y with
  | .sc (.bool a), .sc (.bool b) => if kt = 1 then some (a == b) else none
  | .sc .nilIface, .sc .nilIface => if kt = 7 ∧ c = true then some true else none
  | .sc .nilIface, .sc (.iface _ _) => if kt = 7 then some false else none
  | .sc (.iface _ _), .sc .nilIface => if kt = 7 then some false else none
  | .sc (.pointer none), .sc (.pointer none) => if kt = 4 then some true else none
  | .ptr _ _ _, .sc (.pointer none) => if kt = 4 then some false else none
  | .sc (.pointer none), .ptr _ _ _ => if kt = 4 then some false else none
  | .cptr _, .sc (.pointer none) => if kt = 4 then some false else none
  | .sc (.pointer none), .cptr _ => if kt = 4 then some false else none
  | .mp _, .sc (.map none) => if kt = 6 then some false else none
  | .sc (.map none), .sc (.map none) => if kt = 6 then some true else none
  | .sc (.slice none 0 0), .sc (.slice none 0 0) => if kt = 5 then some true else none
  | .imm _ rows, .sc (.slice none 0 0) => if kt = 5 ∧ 0 < rows.length then some false else none
  | .own _ _ len, .sc (.slice none 0 0) => if kt = 5 ∧ 0 < len then some false else none
  | _, _ => none
/-- an integer between lo and hi, compared with c -/
def cmpL (op : BinOp) (lo hi c : Int) : Option Bool :=
  match op with
  | .lss => if hi < c then some true else if c ≤ lo then some false else none
  | .leq => if hi ≤ c then some true else if c < lo then some false else none
  | .gtr => if c < lo then some true else if hi ≤ c then some false else none
  | .geq => if c ≤ lo then some true else if hi < c then some false else none
  | .eql => if hi < c ∨ c < lo then some false else none
  | .neq => if hi < c ∨ c < lo then some true else none
  | _ => none
def flipO : BinOp → BinOp
  | .lss => .gtr
  | .leq => .geq
  | .gtr => .lss
  | .geq => .leq
  | op => op
def pabL (op : BinOp) (k : IntKind) (lo hi m r : Int) (k' : IntKind) (c : Int) : Option PV :=
  if k = k' then (match op with
    | .rem => if c = m ∧ 0 < m then some (.sc (.int k r)) else none
    | op => (cmpL op lo hi c).map fun b => .sc (.bool b)) else none
def pabR (op : BinOp) (k : IntKind) (lo hi : Int) (k' : IntKind) (c : Int) : Option PV :=
  if k = k' then (cmpL (flipO op) lo hi c).map fun b => .sc (.bool b) else none
def pmin : PV → PV → Option PV
  | .sc (.int k a), .sc (.int k' b) => if k = k' then some (.sc (.int k (if b < a then b else a))) else none
  | .ab k lo hi m r, .sc (.int k' c) => if k = k' then (if hi ≤ c then some (.ab k lo hi m r) else if c ≤ lo then some (.sc (.int k c)) else none) else none
  | _, _ => none
def pmax : PV → PV → Option PV
  | .sc (.int k a), .sc (.int k' b) => if k = k' then some (.sc (.int k (if b > a then b else a))) else none
  | .sc (.int k' c), .ab k lo hi m r => if k = k' then (if c ≤ lo then some (.ab k lo hi m r) else if hi ≤ c then some (.sc (.int k c)) else none) else none
  | _, _ => none
def pbin (op : BinOp) (kt : Nat) (c : Bool) (x y : PV) : Option PV :=
  match x, y with
  | .sc (.int k a), .sc (.int k' b) => (if isShift op then pshift op k a b else if k = k' then pint op k a b else none).map .sc
  | .sc (.string a), .sc (.string b) => (pstr op a b).map .sc
  | .ab k lo hi m r, .sc (.int k' b) => pabL op k lo hi m r k' b
  | .sc (.int k' b), .ab k lo hi _ _ => pabR op k lo hi k' b
  | x, y =>
    match op with
    | .eql => (peq kt c x y).map fun b => .sc (.bool b)
    | .neq => (peq kt c x y).map fun b => .sc (.bool !b)
    | _ => none
/-- the fields of a struct: strings, one cell each, from cell i on -/
def sfOk (P : Program) : Nat → List Field → Bool
  | _, [] => true
  | i, f :: fs => decide (f.name ≠ "_") && f.offset == i && kT P f.type == 3 && sfOk P (i + 1) fs
/-- the number of fields of a struct of strings that may be compared -/
def strsT (P : Program) (t : TypeId) : Option Nat := match P.underlying t with
  | some (.struct fs) => if P.stoodInHeld t = false ∧ P.eqGuardType P.depth t = false ∧ sfOk P 0 fs.toList = true then some fs.size else none
  | _ => none
def strsEq : List PV → List PV → Option Bool
  | [], [] => some true
  | .sc (.string a) :: l, .sc (.string b) :: m => (strsEq l m).map fun r => (a.data.toList == b.data.toList) && r
  | _, _ => none
/-- structs of n strings compared -/
def sbin (op : BinOp) (n : Option Nat) (x y : PV) : Option PV :=
  match x, y with
  | .agg a, .agg b => if n = some a.length then (match op with
    | .eql => (strsEq a b).map fun r => .sc (.bool r)
    | .neq => (strsEq a b).map fun r => .sc (.bool !r)
    | _ => none) else none
  | _, _ => none
def pun (op : UnOp) (x : PV) : Option PV :=
  match op, x with
  | .not, .sc (.bool b) => some (.sc (.bool !b))
  | .neg, .sc (.int k n) => some (.sc (.int k (k.wrap (0 - n))))
  | .xor, .sc (.int k n) => some (.sc (.int k (k.wrap (BitVec.ofInt k.bits (if k.signed then -1 else k.max) ^^^ BitVec.ofInt k.bits n).toNat)))
  | _, _ => none
def pconv (ks kd : Option IntKind) (x : PV) : Option PV :=
  match ks, kd, x with
  | some _, some k, .sc (.int _ n) => some (.sc (.int k (k.wrap n)))
  | some _, some k, .ab _ lo hi m r => if k = .i64 ∧ -9223372036854775808 ≤ lo ∧ hi ≤ 9223372036854775807 then some (.ab .i64 lo hi m r) else none
  | _, _, _ => none

/-! Bytes. -/
def u8T (P : Program) (t : TypeId) : Bool := match P.underlying t with
  | some (.slice e) => (match P.underlying e with | some (.int .u8) => true | _ => false)
  | _ => false
def bytesR (l : List UInt8) : List (List PV) := l.map fun b => [.sc (.int .u8 b.toNat)]
def byteRow : List (List PV) → Option (List UInt8)
  | [] => some []
  | [.sc (.int .u8 n)] :: rest => (byteRow rest).map (UInt8.ofNat n.toNat :: ·)
  | _ => none
theorem byteRow_bytesR (l : List UInt8) : byteRow (bytesR l) = some l := by
  induction l with
  | nil => rfl
  | cons b l ih => simp only [bytesR, List.map_cons, byteRow] at ih ⊢; rw [ih]; simp

/-! Slices. -/
/-- the elements that a slice shows, with the number of cells of each -/
def view (h : Heap) : PV → Option (List (List PV))
  | .imm _ rows => some rows
  | .emp => some []
  | .sc (.slice none 0 0) => some []
  | .own id off len => match h.obj id with
    | some (.arr _ rows) => if off + len ≤ rows.length then some ((rows.drop off).take len) else none
    | _ => none
  | _ => none
def lenP (h : Heap) : PV → Option Nat
  | .imm _ rows => some rows.length
  | .emp => some 0
  | .sc (.slice none 0 0) => some 0
  | .own _ _ len => some len
  | .sc (.string s) => some s.size
  | .sc (.map none) => some 0
  | .mp id => match h.obj id with | some (.map es) => some es.length | _ => none
  | _ => none
def lenK (k : Nat) : PV → Bool
  | .imm _ _ => k == 5
  | .emp => k == 5
  | .own _ _ _ => k == 5
  | .sc (.slice none 0 0) => k == 5
  | .sc (.string _) => k == 3
  | .sc (.map none) => k == 6
  | .mp _ => k == 6
  | _ => false
def intP : PV → Option Int
  | .sc (.int _ n) => some n
  | _ => none
/-- the address of an element -/
def idx (h : Heap) (z : Nat) (x : PV) (i : Int) : Option PV :=
  if 0 ≤ i then
    match x with
    | .imm z' rows => if z' = z then (rows[i.toNat]?).map .cptr else none
    | .own id off len => match h.obj id with
      | some (.arr z' _) => if z' = z ∧ i.toNat < len then some (.ptr id (off + i.toNat) 0) else none
      | _ => none
    | _ => none
  else none
def idxA (n z : Nat) (x : PV) (i : Int) : Option PV :=
  if 0 ≤ i ∧ i < n then
    match x with
    | .ptr id r f => some (.ptr id r (f + i.toNat * z))
    | .cptr cs => if i.toNat * z + z ≤ cs.length then some (.cptr ((cs.drop (i.toNat * z)).take z)) else none
    | _ => none
  else none
def fldP (off n : Nat) : PV → Option PV
  | .ptr id i f => if 0 < n then some (.ptr id i (f + off)) else none
  | .cptr cs => if 0 < n ∧ off + n ≤ cs.length then some (.cptr ((cs.drop off).take n)) else none
  | _ => none
def rd (h : Heap) : PV → Option (List PV)
  | .ptr id i f => match h.obj id with
    | some (.arr _ rows) => (rows[i]?).map (·.drop f)
    | _ => none
  | .cptr cs => some cs
  | .sc (.pointer (some ⟨g, 0, none⟩)) => match h.obj g with
    | some (.glb g' lo hi) => if g' = g then some [.ab .i64 lo hi 1 0] else none
    | _ => none
  | _ => none
def putC (r : List PV) (f : Nat) (vc : List PV) : List PV := r.take f ++ vc ++ r.drop (f + vc.length)
def wr (h : Heap) (vc : List PV) : PV → Option Heap
  | .ptr id i f => match h.obj id with
    | some (.arr z rows) => match rows[i]? with
      | some r => if f + vc.length ≤ r.length then some (h.set id (.arr z (rows.set i (putC r f vc)))) else none
      | none => none
    | _ => none
  | _ => none
def isTail (h : Heap) : PV → Option (Heap × List (List PV))
  | .emp => some (h, [])
  | .sc (.slice none 0 0) => some (h, [])
  | .own id off len => match h.obj id with
    | some (.arr _ rows) => if off + len ≤ rows.length then some (h.kill id, (rows.drop off).take len) else none
    | _ => none
  | _ => none
def zP : PV → Option Nat
  | .imm z _ => some z
  | _ => none
def zOk (h : Heap) (z : Nat) : PV → Bool
  | .imm z' _ => z' == z
  | .own id _ _ => match h.obj id with | some (.arr z' _) => z' == z | _ => false
  | .emp => true
  | .sc (.slice none 0 0) => true
  | _ => false
def app (z bytes : Nat) (h : Heap) (x y : PV) : Option (PV × Heap) :=
  if zOk h z x && zOk h z y && decide (0 < z) && decide (0 < bytes) then
    match view h y, isTail h x with
    | some new, some (h', old) => if (old.length + new.length) * bytes ≤ 140737488355328 then some (.own h.next 0 (old.length + new.length), h'.new (.arr z (old ++ new))) else none
    | _, _ => none
  else none
def subL (z : Nat) (x : PV) (h : Heap) (lo hi : Option Int) : Option PV :=
  match lenP h x with
  | none => none
  | some n =>
    let a := lo.getD 0
    let b := hi.getD n
    if 0 ≤ a ∧ a ≤ b ∧ b ≤ n ∧ zOk h z x = true then
      match x with
      | .imm z rows => some (.imm z ((rows.drop a.toNat).take (b - a).toNat))
      | .own id off _ => match h.obj id with
        | some (.arr _ _) => some (.own id (off + a.toNat) (b - a).toNat)
        | _ => none
      | .emp => some .emp
      | .sc (.slice none 0 0) => some (.sc (.slice none 0 0))
      | _ => none
    else none
def subS (x : PV) (lo hi : Option Int) : Option PV :=
  match x with
  | .sc (.string s) => if 0 ≤ lo.getD 0 ∧ lo.getD 0 ≤ hi.getD s.size ∧ hi.getD s.size ≤ s.size then some (.sc (.string (s.extract (lo.getD 0).toNat (hi.getD s.size).toNat))) else none
  | _ => none
/-- the cells of a struct or of one element of a slice, its parts laid over the zero cells -/
def lay (place : Nat → Option (Nat × Nat)) (cells : List PV) : List (Nat × PV) → Option (List PV)
  | [] => some cells
  | (i, v) :: rest => match place i with
    | none => none
    | some (off, n) => if v.cells.length = n ∧ off + n ≤ cells.length ∧ v.cells.all oneC = true then lay place (putC cells off v.cells) rest else none
/-- the rows of a composite literal of a slice type -/
def rowsOf (z : Nat) (rows : List (List PV)) : List (Nat × PV) → Option (List (List PV))
  | [] => some rows
  | (i, v) :: rest => if v.cells.length = z ∧ i < rows.length ∧ v.cells.all oneC = true then rowsOf z (rows.set i v.cells) rest else none

/-! Maps whose keys are strings, integers or bools. -/
def keyEq : Value → Value → Option Bool
  | .int k a, .int k' b => if k = k' then some (a == b) else none
  | .string a, .string b => some (a == b)
  | .bool a, .bool b => some (a == b)
  | _, _ => none
def keyKind (kt : Nat) : Value → Bool
  | .int _ _ => kt == 2
  | .string _ => kt == 3
  | .bool _ => kt == 1
  | _ => false
def mfind (k : Value) : List (Value × PV) → Option (Option PV)
  | [] => some none
  | (k', v) :: es => match keyEq k k' with
    | some true => some (some v)
    | some false => mfind k es
    | none => none
def mput (k : Value) (v : PV) : List (Value × PV) → Option (List (Value × PV))
  | [] => some [(k, v)]
  | (k', v') :: es => match keyEq k k' with
    | some true => some ((k, v) :: es)
    | some false => (mput k v es).map ((k', v') :: ·)
    | none => none
def mview (h : Heap) : PV → Option (List (Value × PV))
  | .sc (.map none) => some []
  | .mp id => match h.obj id with | some (.map es) => some es | _ => none
  | _ => none

def oInt (s : Operand → PV) : Option Operand → Option (Option Int)
  | none => some none
  | some x => (intP (s x)).map some
def isZeroInt (s : Operand → PV) : Option Operand → Bool
  | some x => match s x with | .sc (.int _ 0) => true | _ => false
  | none => false

/-- what a look-up gives -/
def lkV (ok : Bool) (z : Value) : Option PV → PV
  | some v => if ok then .tup [v, .sc (.bool true)] else v
  | none => if ok then .tup [constPV z, .sc (.bool false)] else constPV z
def isSl : PV → Bool
  | .imm _ _ => true
  | .own _ _ _ => true
  | .emp => true
  | .sc (.slice none 0 0) => true
  | _ => false

/-- WHAT AN OPERATION DOES, calls of functions apart: its value and the heap behind it. `ow`: a new variable or literal slice becomes an object of the heap (else it is taken as never written again). -/
def eff (P : Program) (ow : Bool) (op : Op) (ρ : Operand → PV) (h : Heap) : Option (PV × Heap) :=
  match op with
  | .move x => some (ρ x, h)
  | .assign x => some (ρ x, h)
  | .pick c a b => match ρ c with | .sc (.bool t) => some (if t then ρ a else ρ b, h) | _ => none
  | .alloc t => (zeroT P t).bind fun z => if 0 < z.length then some (.ptr h.next 0 0, h.new (.arr z.length [z.map .sc])) else none
  | .box _ x => if (ρ x).cells.all oneC = false then none else if ow then (if 0 < (ρ x).cells.length then some (.ptr h.next 0 0, h.new (.arr (ρ x).cells.length [(ρ x).cells])) else none) else some (.cptr (ρ x).cells, h)
  | .build t parts =>
    if kT P t = 8 then (zeroT P t).bind fun z => (fieldsT P t).bind fun places => (lay (fun i => places[i]?) (z.map .sc) (parts.toList.map fun p => (p.1, ρ p.2))).map fun cs => (.agg cs, h)
    else if kT P t = 9 then (zeroT P t).bind fun z => (arT P t).bind fun na => (lay (fun i => some (i * na.2, na.2)) (z.map .sc) (parts.toList.map fun p => (p.1, ρ p.2))).map fun cs => (.agg cs, h)
    else none
  | .buildSlice t len parts =>
    (elT P t).bind fun zb => (elZ P t).bind fun z =>
      if z.length = zb.1 ∧ 0 < zb.1 ∧ len * zb.1 ≤ 16777216 then
        (rowsOf zb.1 (List.replicate len (z.map .sc)) (parts.toList.map fun p => (p.1, ρ p.2))).bind fun rows =>
          if len = 0 then some (.emp, h)
          else if ow then some (.own h.next 0 len, h.new (.arr zb.1 rows)) else some (.imm zb.1 rows, h)
      else none
  | .load t a => (szT P t).bind fun n => (rd h (ρ a)).bind fun cs => (mkV (aggB P t) n cs).map fun v => (v, h)
  | .store t a x => (szT P t).bind fun n => if (ρ x).cells.length = n ∧ (ρ x).cells.all oneC = true then (wr h (ρ x).cells (ρ a)).map fun h' => (.sc undef, h') else none
  | .nilCheck x => match ρ x with
    | .ptr id i f => some (.ptr id i f, h)
    | .cptr cs => some (.cptr cs, h)
    | _ => none
  | .binOp op t x y _ => (if kT P t = 8 then sbin op (strsT P t) (ρ x) (ρ y) else pbin op (kT P t) (isConstB x || isConstB y) (ρ x) (ρ y)).map fun v => (v, h)
  | .unOp op _ x => (pun op (ρ x)).map fun v => (v, h)
  | .convert src dst x => match ρ x with
    | .sc (.string s) =>
      if kT P dst = 3 then (if kT P src = 3 then some (.sc (.string s), h) else none)
      else if kT P src = 3 ∧ u8T P dst = true ∧ s.size ≤ 140737488355328 then (if ow then some (.own h.next 0 s.data.toList.length, h.new (.arr 1 (bytesR s.data.toList))) else some (.imm 1 (bytesR s.data.toList), h))
      else none
    | y =>
      if kT P dst = 3 then (if u8T P src = true ∧ zOk h 1 y = true then (view h y).bind fun rows => (byteRow rows).map fun l => (.sc (.string ⟨l.toArray⟩), h) else none)
      else (pconv (intT P src) (intT P dst) y).map fun v => (v, h)
  | .makeInterface t x => if kT P t = 7 ∨ kT P t = 0 then none else match ρ x with | .sc v => some (.sc (.iface t v), h) | _ => none
  | .makeMap _ none => some (.mp h.next, h.new (.map []))
  | .makeSlice t l c =>
    (elT P t).bind fun zb => (elZ P t).bind fun z => (intP (ρ l)).bind fun n => (intP (ρ c)).bind fun m =>
      if z.length = zb.1 ∧ 0 < zb.1 ∧ 0 ≤ n ∧ n ≤ m ∧ m ≤ 281474976710656 ∧ zb.2 * m ≤ 281474976710656 then some (.own h.next 0 n.toNat, h.new (.arr zb.1 (List.replicate n.toNat (z.map .sc)))) else none
  | .slice t x lo hi none => (oInt ρ lo).bind fun a => (oInt ρ hi).bind fun b =>
      if kT P t = 5 then (elT P t).bind fun zb => (subL zb.1 (ρ x) h a b).map fun v => (v, h)
      else if kT P t = 3 then (subS (ρ x) a b).map fun v => (v, h) else none
  | .slice t x none (some hi) (some mx) => (elT P t).bind fun _ => if isZeroInt ρ (some hi) = true ∧ isZeroInt ρ (some mx) = true ∧ isSl (ρ x) = true then some (.emp, h) else none
  | .fieldAddr t x f => (fldT P t f).bind fun o => (fldP o.1 o.2.1 (ρ x)).map fun v => (v, h)
  | .field t x f => match ρ x with
    | .agg cs => (fldT P t f).bind fun o => if o.1 + o.2.1 ≤ cs.length ∧ 0 < o.2.1 then (mkV o.2.2 o.2.1 (cs.drop o.1)).map fun v => (v, h) else none
    | _ => none
  | .indexAddr t x i => (intP (ρ i)).bind fun n =>
      if kT P t = 5 then (elT P t).bind fun zb => (idx h zb.1 (ρ x) n).map fun v => (v, h)
      else (arT P t).bind fun na => (idxA na.1 na.2 (ρ x) n).map fun v => (v, h)
  | .index t x i => (intP (ρ i)).bind fun n =>
      match ρ x with
      | .sc (.string s) => if kT P t = 3 ∧ 0 ≤ n then (s[n.toNat]?).map fun b => (.sc (.int .u8 b.toNat), h) else none
      | .agg cs => (arE P t).bind fun na => if 0 ≤ n ∧ n < na.1 then (mkV na.2.2 na.2.1 (cs.drop (n.toNat * na.2.1))).map fun v => (v, h) else none
      | _ => none
  | .lookup t x k ok => (mapT P t).bind fun m =>
      match ρ k, mview h (ρ x) with
      | .sc kv, some es => if keyKind m.1 kv = true then (mfind kv es).map fun r => (lkV ok m.2 r, h) else none
      | _, _ => none
  | .mapUpdate t x k v => (mapT P t).bind fun m =>
      match ρ k, ρ x with
      | .sc kv, .mp id => match h.obj id with
        | some (.map es) => if keyKind m.1 kv = true then (mput kv (ρ v) es).map fun es' => (.sc undef, h.set id (.map es')) else none
        | _ => none
      | _, _ => none
  | .typeAssert x _ t true => if kT P t = 7 ∨ kT P t = 0 then none else match ρ x with
      | .sc (.iface u v) => if u = t then some (.tup [.sc v, .sc (.bool true)], h) else (zvT P t).map fun z => (.tup [constPV z, .sc (.bool false)], h)
      | .sc .nilIface => (zvT P t).map fun z => (.tup [constPV z, .sc (.bool false)], h)
      | _ => none
  | .extract x i => match ρ x with | .tup vs => (vs[i]?).map fun v => (v, h) | _ => none
  | .call { callee := .builtin .len, args := args, argTypes := ts } => match args.toList, ts.toList with
      | [x], [t] => if lenK (kT P t) (ρ x) = true then (lenP h (ρ x)).map fun (n : Nat) => (.sc (.int .i64 (n : Int)), h) else none
      | _, _ => none
  | .call { callee := .builtin .append, args := args, argTypes := ts } => match args.toList, ts.toList with
      | [x, y], [t, u] => if t = u then (elT P t).bind fun zb => app zb.1 zb.2 h (ρ x) (ρ y) else none
      | _, _ => none
  | .call { callee := .builtin .min, args := args, .. } => match args.toList with
      | [x, y] => (pmin (ρ x) (ρ y)).map fun v => (v, h)
      | _ => none
  | .call { callee := .builtin .max, args := args, .. } => match args.toList with
      | [x, y] => (pmax (ρ x) (ρ y)).map fun v => (v, h)
      | _ => none
  | .makeFunc (.func f) first caps => some (.fn f (first.toList.map ρ) (caps.toList.map ρ), h)
  | _ => none

/-- a call of a function: its number and its arguments -/
def callee (ρ : Operand → PV) : Op → Option (FuncId × List PV)
  | .call { callee := .value f, args := args, .. } => match ρ f with
    | .sc (.func (.func f) first captured) => if first = #[] ∧ captured = #[] then some (f, args.toList.map ρ) else none
    | .fn f first caps => some (f, first ++ (args.toList.map ρ ++ caps))
    | _ => none
  | _ => none

end Go.AM
