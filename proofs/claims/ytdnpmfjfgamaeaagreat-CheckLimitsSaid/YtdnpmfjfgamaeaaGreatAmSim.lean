/- How the abstract machine's values and heap stand for the model's: the relation, what a step may change, what a call promises, and the weakest preconditions of code. -/
import Derived.Test.YtdnpmfjfgamaeaaGreatAm
set_option linter.unusedVariables false
set_option linter.unusedSimpArgs false
set_option linter.unusedSectionVars false
namespace Go.AM

/-- where an object lies: its block (none: an empty slice without memory), the cell of its first element, the cells of an element, the cells of the block -/
structure Blk where
  b : Option Nat
  o : Nat
  z : Nat
  sz : Nat

/-- where the objects lie; X: the blocks that are someone else's, of which nothing is said but that they stay -/
structure Env where
  bl : Nat → Blk
  X : Nat → Prop
instance : CoeFun Env (fun _ => Nat → Blk) := ⟨Env.bl⟩

mutual
/-- the value x stands for the abstract value. n: the next id; F: the blocks that nobody writes again -/
def Rep (β : Env) (n : Nat) (F : Nat → Prop) (w : World) : PV → Value → Prop
  | .sc v, x => x = v
  | .ptr id i f, x => id < n ∧ ∃ b, (β id).b = some b ∧ x = .pointer (some ⟨b, (β id).o + i * (β id).z + f, none⟩)
  | .cptr cs, x => ∃ b o, F b ∧ x = .pointer (some ⟨b, o, none⟩) ∧ RepS β n F w cs b o
  | .own id off len, x => id < n ∧ ∃ a cap, x = .slice a len cap ∧ len ≤ cap ∧ cap ≤ maxLen ∧
      (cap = 0 ∨ ∃ b, (β id).b = some b ∧ a = some ⟨b, (β id).o + off * (β id).z, none⟩ ∧ (β id).o + (off + cap) * (β id).z ≤ (β id).sz)
  | .imm z rows, x => ∃ a cap, x = .slice a rows.length cap ∧ rows.length ≤ cap ∧ cap ≤ maxLen ∧
      (rows = [] ∨ ∃ b o, F b ∧ a = some ⟨b, o, none⟩ ∧ RepR β n F w z rows b o)
  | .emp, x => ∃ a, x = .slice a 0 0
  | .mp id, x => id < n ∧ ∃ b, (β id).b = some b ∧ x = .map (some b)
  | .agg cs, x => ∃ xs : List Value, x = .agg xs.toArray ∧ (∀ v ∈ xs, v.oneCell' = true) ∧ RepL β n F w cs xs
  | .tup vs, x => ∃ xs : List Value, x = .tuple xs.toArray ∧ RepL β n F w vs xs
  | .fn f first caps, x => ∃ xs ys : List Value, x = .func (.func f) xs.toArray ys.toArray ∧ RepL β n F w first xs ∧ RepL β n F w caps ys
  | .ab k lo hi m r, x => ∃ i : Int, lo ≤ i ∧ i ≤ hi ∧ i.tmod m = r ∧ x = .int k i
/-- cells in a row of memory -/
def RepS (β : Env) (n : Nat) (F : Nat → Prop) (w : World) : List PV → Nat → Nat → Prop
  | [], _, _ => True
  | p :: ps, b, o => (∃ v, w.cell? ⟨b, o, none⟩ = some v ∧ v.oneCell' = true ∧ Rep β n F w p v) ∧ RepS β n F w ps b (o + 1)
/-- elements of z cells each -/
def RepR (β : Env) (n : Nat) (F : Nat → Prop) (w : World) (z : Nat) : List (List PV) → Nat → Nat → Prop
  | [], _, _ => True
  | r :: rs, b, o => (r.length = z ∧ RepS β n F w r b o) ∧ RepR β n F w z rs b (o + z)
def RepL (β : Env) (n : Nat) (F : Nat → Prop) (w : World) : List PV → List Value → Prop
  | [], [] => True
  | p :: ps, v :: vs => Rep β n F w p v ∧ RepL β n F w ps vs
  | _, _ => False
end

/-- the blocks that nobody writes again -/
def Fz (β : Env) (h : Heap) (w : World) (b : Nat) : Prop := b < w.heap.size ∧ (∀ id, (h.obj id).isSome = true → (β id).b ≠ some b) ∧ ¬ β.X b

def RepM (β : Env) (n : Nat) (F : Nat → Prop) (w : World) : List (Value × PV) → List MapEntry → Prop
  | [], [] => True
  | (k, p) :: es, e :: fs => (e.key = k ∧ Rep β n F w p e.val) ∧ RepM β n F w es fs
  | _, _ => False

/-- an object as the memory has it -/
def ObjOk (β : Env) (n : Nat) (F : Nat → Prop) (w : World) (k : Blk) : AObj → Prop
  | .arr z rows => k.z = z ∧ ((k.b = none ∧ rows = []) ∨ ∃ b c e fr, k.b = some b ∧ w.heap[b]? = some (.cells c e fr) ∧ c.size = k.sz ∧ k.o + rows.length * z ≤ k.sz ∧
      (∀ i, i < c.size → ¬ (fr.1 ≤ i ∧ i < fr.2)) ∧ RepR β n F w z rows b k.o)
  | .map es => ∃ b fs clock, k.b = some b ∧ w.heap[b]? = some (.map fs clock) ∧ RepM β n F w es fs.toList
  | .glb g lo hi => k.b = none ∧ F g ∧ ∃ i : Int, lo ≤ i ∧ i ≤ hi ∧ w.cell? ⟨g, 0, none⟩ = some (.int .i64 i)

structure Sim (β : Env) (h : Heap) (w : World) : Prop where
  lt : ∀ id, (h.obj id).isSome = true → id < h.next
  ok : ∀ id o, h.obj id = some o → ObjOk β h.next (Fz β h w) w (β id) o
  inj : ∀ i j, (h.obj i).isSome = true → (h.obj j).isSome = true → ∀ b, (β i).b = some b → (β j).b = some b → i = j
  xs : ∀ b, β.X b → b < w.heap.size
  nx : ∀ id, (h.obj id).isSome = true → ∀ b, (β id).b = some b → ¬ β.X b

/-- what a step may have changed: the memory that nobody writes again is as it was -/
structure Ext (β : Env) (h : Heap) (w : World) (β' : Env) (h' : Heap) (w' : World) : Prop where
  os : w'.os = w.os
  tape : w'.tape = w.tape
  output : w'.output = w.output
  size : w.heap.size ≤ w'.heap.size
  next : h.next ≤ h'.next
  beta : ∀ id, id < h.next → β' id = β id
  X : β'.X = β.X
  xh : ∀ b, β.X b → b < w.heap.size → w'.heap[b]? = w.heap[b]?
  fz : ∀ b, Fz β h w b → Fz β' h' w' b ∧ w'.heap[b]? = w.heap[b]?

abbrev RepH (β : Env) (h : Heap) (w : World) : PV → Value → Prop := Rep β h.next (Fz β h w) w

/-- a function with a body, which a call enters -/
def hasBody (P : Program) (f : FuncId) : Bool := match P.funcs[f]? with
  | some fn => !(fn.name == "runtime.NumGoroutine") && fn.body.isSome
  | none => false

/-- a call: of a function with a body, or of one without, which the machine answers at once -/
def Goes (P : Program) (f : FuncId) (vals : Array Value) (w : World) (Q : Ending → World → Prop) : Prop :=
  (hasBody P f = true ∧ Calls P f vals w Q) ∨ ∃ v w', (callFunc f vals).run P w = .ok (.value v) w' ∧ Q (.returned v) w'

theorem Goes.mono {P : Program} {f : FuncId} {vals : Array Value} {w : World} {Q Q' : Ending → World → Prop} (h : Goes P f vals w Q) (hk : ∀ e w', Q e w' → Q' e w') : Goes P f vals w Q' :=
  h.imp (fun ⟨a, b⟩ => ⟨a, b.mono hk⟩) (fun ⟨v, w', a, b⟩ => ⟨v, w', a, hk _ _ b⟩)

/-- what a call of a function promises: it returns, with a result and a heap of which K holds -/
def PCall (P : Program) (f : FuncId) (args : List PV) (h : Heap) (K : PV → Heap → Prop) : Prop :=
  ∀ (β : Env) (w : World) (vals : List Value), Sim β h w → RepL β h.next (Fz β h w) w args vals →
    Goes P f vals.toArray w fun e w' => ∃ r h' β' v, e = .returned v ∧ K r h' ∧ Sim β' h' w' ∧ RepH β' h' w' r v ∧ Ext β h w β' h' w'

/-- one operation that is wanted -/
def owp (P : Program) (ow : Nat → Bool) (o : Oper) (K : Slots → Heap → Prop) (s : Slots) (h : Heap) : Prop :=
  match callee (pev s) o.op with
  | some (f, args) => PCall P f args h fun r h' => K (updO s o.dst r) h'
  | none => match eff P (o.dst.any ow) o.op (pev s) h with
    | some (r, h') => K (updO s o.dst r) h'
    | none => False

/-- is an operation of a region wanted? none: it can't be told -/
def wantedB (ops : List Oper) (s : Slots) (o : Oper) : Option Bool :=
  match o.guard with
  | none => some true
  | some (g, want) => match (ops[g]?).bind (·.dst) with
    | none => none
    | some t => match s t with
      | .sc (.bool b) => some (b == want)
      | .sc (.tuple _) => some false
      | _ => none

/-- the operations of a region in the order of the text -/
def lwp (P : Program) (ow : Nat → Bool) (n : Nat) (ops : List Oper) : List Oper → (Slots → Heap → Prop) → Slots → Heap → Prop
  | [], K, s, h => K s h
  | o :: rest, K, s, h => (o.dst.all (fun d => decide (d < n)) = true) ∧ match wantedB ops s o with
    | none => False
    | some b => if b = true then owp P ow o (lwp P ow n ops rest K) s h else lwp P ow n ops rest K (updO s o.dst (.sc undef)) h

/-- an operation's deed: one value, one heap -/
def Does (P : Program) (ow : Nat → Bool) (o : Oper) (ρ : Operand → PV) (h : Heap) (v : PV) (h' : Heap) : Prop :=
  match callee ρ o.op with
  | some (f, args) => PCall P f args h fun r h'' => r = v ∧ h'' = h'
  | none => eff P (o.dst.any ow) o.op ρ h = some (v, h')
/-- does an operation change the heap? wf: the functions whose calls do -/
def isW (ow : Nat → Bool) (wf : FuncId → Bool) (o : Oper) : Bool :=
  match o.op with
  | .store _ _ _ => true
  | .mapUpdate _ _ _ _ => true
  | .alloc _ => true
  | .makeMap _ _ => true
  | .makeSlice _ _ _ => true
  | .box _ _ => o.dst.any ow
  | .convert _ _ _ => o.dst.any ow
  | .buildSlice _ _ _ => o.dst.any ow
  | .call { callee := .builtin .append, .. } => true
  | .call { callee := .value (.func f), .. } => wf f
  | .call { callee := .value _, .. } => true
  | _ => false
/-- must operation i come before operation j? -/
def pre (ops : List Oper) (i j : Nat) : Bool := ((Region.before ops.toArray).getD j 0).testBit i

/-- a region that draws its order, walked in the order of the text; what is noted: of the operations behind (past) that they would give the same in a later heap, of the heaps behind (hist) that a later operation gives the same there -/
def drun (P : Program) (ow : Nat → Bool) (wf : FuncId → Bool) (n : Nat) (ops : List Oper) : Nat → List Oper → List (Nat × (Heap → Prop)) → List (Nat × Heap) → (Slots → Heap → Prop) → Slots → Heap → Prop
  | _, [], _, _, K, s, h => K s h
  | k, o :: rest, past, hist, K, s, h => (o.dst.all (fun d => decide (d < n)) = true) ∧ match wantedB ops s o with
    | none => False
    | some b => if b = true then
        (if isW ow wf o = true then ∃ v h', Does P ow o (pev s) h v h' ∧ (∀ x ∈ past, pre ops x.1 k = true ∨ x.2 h') ∧ drun P ow wf n ops (k + 1) rest past ((k, h) :: hist) K (updO s o.dst v) h'
         else ∃ v, Does P ow o (pev s) h v h ∧ (∀ x ∈ hist, pre ops x.1 k = true ∨ Does P ow o (pev s) x.2 v x.2) ∧ drun P ow wf n ops (k + 1) rest ((k, fun h' => Does P ow o (pev s) h' v h') :: past) hist K (updO s o.dst v) h)
      else drun P ow wf n ops (k + 1) rest past hist K (updO s o.dst (.sc undef)) h

/-- the slots that an operation looks at or writes -/
def looks (ops : List Oper) (o : Oper) : List Nat :=
  (o.op.operands.toList.filterMap fun | .tmp t => some t | _ => none) ++ (match o.guard with | some (g, _) => ((ops[g]?).bind (·.dst)).toList | none => []) ++ o.dst.toList
/-- what is asked of a region that draws its order, by its text alone -/
def dOk (ow : Nat → Bool) (wf : FuncId → Bool) (ops : List Oper) : Bool :=
  ops.zipIdx.all fun (o, j) => (o.after.toList.all fun e => !Region.binds .any e || decide (e.on < j)) && (match o.op with | .select _ _ => false | _ => true) &&
    ops.zipIdx.all fun (q, i) => i == j || ((match q.dst with | none => true | some d => !(looks ops o).contains d || pre ops i j || pre ops j i) && (!(isW ow wf q && isW ow wf o) || pre ops i j || pre ops j i))
def dwp (P : Program) (ow : Nat → Bool) (wf : FuncId → Bool) (n : Nat) (ops : List Oper) (K : Slots → Heap → Prop) (s : Slots) (h : Heap) : Prop :=
  dOk ow wf ops = true ∧ drun P ow wf n ops 0 ops [] [] K s h

/-! The same where variables that are made in a region have numbers of their own (base and the place in the text): what else changes the heap may stand on either side of them. -/
def isAl (o : Oper) : Bool := match o.op with
  | .alloc _ => true
  | _ => false
def alB (ops : List Oper) (f : Nat) : Bool := match ops[f]? with
  | some o => isAl o
  | none => false
def DoesR (P : Program) (ow : Nat → Bool) (id : Nat) (o : Oper) (ρ : Operand → PV) (h : Heap) (v : PV) (h' : Heap) : Prop :=
  match o.op with
  | .alloc t => ∃ zs, zeroT P t = some zs ∧ 0 < zs.length ∧ v = .ptr id 0 0 ∧ h' = h.set id (.arr zs.length [zs.map .sc])
  | _ => Does P ow o ρ h v h'
def drun2 (P : Program) (ow : Nat → Bool) (wf : FuncId → Bool) (n : Nat) (ops : List Oper) (base : Nat) : Nat → List Oper → List (Nat × (Heap → Prop)) → List (Nat × Heap) → (Slots → Heap → Prop) → Slots → Heap → Prop
  | _, [], _, _, K, s, h => K s h
  | k, o :: rest, past, hist, K, s, h => (o.dst.all (fun d => decide (d < n)) = true) ∧ match wantedB ops s o with
    | none => False
    | some b => if b = true then
        (if isW ow wf o = true then ∃ v h', DoesR P ow (base + k) o (pev s) h v h' ∧ (∀ f, k < f → alB ops f = true → h'.obj (base + f) = none) ∧ (∀ x ∈ past, pre ops x.1 k = true ∨ x.2 h') ∧ drun2 P ow wf n ops base (k + 1) rest past ((k, h) :: hist) K (updO s o.dst v) h'
         else ∃ v, Does P ow o (pev s) h v h ∧ (∀ x ∈ hist, pre ops x.1 k = true ∨ Does P ow o (pev s) x.2 v x.2) ∧ drun2 P ow wf n ops base (k + 1) rest ((k, fun h' => Does P ow o (pev s) h' v h') :: past) hist K (updO s o.dst v) h)
      else drun2 P ow wf n ops base (k + 1) rest past hist K (updO s o.dst (.sc undef)) h
def dOk2 (ow : Nat → Bool) (wf : FuncId → Bool) (ops : List Oper) : Bool :=
  ops.zipIdx.all fun (o, j) => (o.after.toList.all fun e => !Region.binds .any e || decide (e.on < j)) && (match o.op with | .select _ _ => false | _ => true) &&
    ops.zipIdx.all fun (q, i) => i == j || ((match q.dst with | none => true | some d => !(looks ops o).contains d || pre ops i j || pre ops j i) && (!(isW ow wf q && isW ow wf o) || pre ops i j || pre ops j i || (decide (i < j) && isAl o) || (decide (j < i) && isAl q)))
def dwp2 (P : Program) (ow : Nat → Bool) (wf : FuncId → Bool) (n : Nat) (ops : List Oper) (K : Slots → Heap → Prop) (s : Slots) (h : Heap) : Prop :=
  dOk2 ow wf ops = true ∧ drun2 P ow wf n ops h.next 0 ops [] [] K s ⟨h.next + ops.length, h.obj⟩

/-! The same where more may stand in any order: an operation that makes one object, and a store, are changes of one object each (lt: its number, and what it becomes); all others that change the heap (br) are in an order. What does not change the heap is looked at where the objects whose change may come before or behind it are not there. -/
/-- the objects of l are not there -/
def killL (H : Heap) (l : List Nat) : Heap := ⟨H.next, fun j => if l.contains j = true then none else H.obj j⟩
/-- they are there as H has them -/
def putL (h' H : Heap) (l : List Nat) : Heap := ⟨h'.next, fun j => if l.contains j = true ∧ (H.obj j).isSome = true then H.obj j else h'.obj j⟩
/-- an operation that makes one object and does nothing else -/
def isA (ow : Nat → Bool) (o : Oper) : Bool := match o.op with
  | .alloc _ => true
  | .box _ _ => o.dst.any ow
  | .buildSlice _ _ _ => o.dst.any ow
  | _ => false
/-- what it gives when the object's number is id -/
def aop (P : Program) (ow : Nat → Bool) (id : Nat) (o : Oper) (ρ : Operand → PV) : Option (PV × AObj) := match eff P (o.dst.any ow) o.op ρ ⟨id, fun _ => none⟩ with
  | some (v, h1) => match h1.obj id with
    | some (.arr z rows) => if rows.isEmpty = true then none else some (v, .arr z rows)
    | _ => none
  | none => none
def lob (lt : Nat → Option (Nat × AObj)) (p : Nat → Bool) (H : Heap) : Nat → Heap
  | 0 => H
  | m + 1 => match lt m with
    | some q => if p m = true then (lob lt p H m).set q.1 q.2 else lob lt p H m
    | none => lob lt p H m
/-- the objects whose change may come before or behind operation x, and those that are made behind it -/
def kx (ow : Nat → Bool) (ops : List Oper) (lt : Nat → Option (Nat × AObj)) (x : Nat) : List Nat := (List.range ops.length).filterMap fun f => if (!(x == f) && !(pre ops f x) && (!(pre ops x f) || (ops[f]?).any (isA ow))) = true then (lt f).map (·.1) else none
def cutOk (ops : List Oper) (br : Nat → Bool) (x M : Nat) : Prop := M ≤ ops.length ∧ (∀ b, b < M → br b = true → pre ops x b = false) ∧ (∀ b, M ≤ b → br b = true → pre ops b x = false) ∧ (M = 0 ∨ br (M - 1) = true)
def gx (ops : List Oper) (lt : Nat → Option (Nat × AObj)) (hk : Nat → Heap) (x M : Nat) (l : List Nat) : Heap := killL (lob lt (fun f => decide (M ≤ f) && pre ops f x) (hk M) ops.length) l
structure Facts (P : Program) (ow : Nat → Bool) (wf : FuncId → Bool) (n : Nat) (ops : List Oper) (base : Nat) (sk : Nat → Slots) (hk : Nat → Heap) (vk : Nat → PV) (lt : Nat → Option (Nat × AObj)) (br : Nat → Bool) : Prop where
  step : ∀ (j : Nat) (o : Oper), ops[j]? = some o → o.dst.all (fun d => decide (d < n)) = true ∧ ∃ b, wantedB ops (sk j) o = some b ∧
    (b = false → sk (j + 1) = updO (sk j) o.dst (.sc undef) ∧ hk (j + 1) = hk j ∧ lt j = none ∧ br j = false) ∧
    (b = true → sk (j + 1) = updO (sk j) o.dst (vk j) ∧
      (isW ow wf o = false → hk (j + 1) = hk j ∧ lt j = none ∧ br j = false ∧ ∀ M, cutOk ops br j M → ∃ l, (∀ id ∈ kx ow ops lt j, id ∈ l) ∧ Does P ow o (pev (sk j)) (gx ops lt hk j M l) (vk j) (gx ops lt hk j M l)) ∧
      (isW ow wf o = true →
        (br j = true ∧ lt j = none ∧ (∃ H', Does P ow o (pev (sk j)) (killL (hk j) (kx ow ops lt j)) (vk j) H' ∧ (∀ id ∈ kx ow ops lt j, H'.obj id = none) ∧ hk (j + 1) = putL H' (hk j) (kx ow ops lt j)) ∧ ∀ f q, j < f → ops[f]? = some q → isA ow q = true → (hk (j + 1)).obj (base + f) = none) ∨
        (br j = false ∧ isA ow o = true ∧ ∃ ob, lt j = some (base + j, ob) ∧ aop P ow (base + j) o (pev (sk j)) = some (vk j, ob) ∧ hk (j + 1) = (hk j).set (base + j) ob) ∨
        (br j = false ∧ ∃ t x y id r f ob, o.op = .store t x y ∧ pev (sk j) x = .ptr id r f ∧ lt j = some (id, ob) ∧ hk (j + 1) = (hk j).set id ob ∧ (∀ f q, j < f → ops[f]? = some q → isA ow q = true → base + f ≠ id) ∧ eff P (o.dst.any ow) o.op (pev (sk j)) (hk j) = some (vk j, hk (j + 1)))))
  ww : ∀ i j, i < j → j < ops.length → (br i = true ∨ (lt i).isSome = true) → (br j = true ∨ (lt j).isSome = true) →
    pre ops i j = true ∨ (∃ p q, lt i = some p ∧ lt j = some q ∧ p.1 ≠ q.1) ∨ (br i = true ∧ (lt j).isSome = true ∧ ∃ o, ops[j]? = some o ∧ isA ow o = true) ∨ ((lt i).isSome = true ∧ br j = true ∧ ∃ o, ops[i]? = some o ∧ isA ow o = true)
def dOk3 (ops : List Oper) : Bool :=
  ops.zipIdx.all fun (o, j) => (o.after.toList.all fun e => !Region.binds .any e || decide (e.on < j)) && (match o.op with | .select _ _ => false | _ => true) &&
    ops.zipIdx.all fun (q, i) => i == j || (match q.dst with | none => true | some d => !(looks ops o).contains d || pre ops i j || pre ops j i)
def dwp3 (P : Program) (ow : Nat → Bool) (wf : FuncId → Bool) (n : Nat) (ops : List Oper) (K : Slots → Heap → Prop) (s : Slots) (h : Heap) : Prop :=
  dOk3 ops = true ∧ ∃ sk hk vk lt br, sk 0 = s ∧ hk 0 = ⟨h.next + ops.length, h.obj⟩ ∧ K (sk ops.length) (hk ops.length) ∧ Facts P ow wf n ops h.next sk hk vk lt br

abbrev Post := Exit → Slots → Heap → Prop
def Post.seq (next : Slots → Heap → Prop) (Q : Post) : Post
  | .normal, s, h => next s h
  | e, s, h => Q e s h
def Post.block (id : Nat) (Q : Post) : Post
  | .exit id', s, h => if id' = id then Q .normal s h else Q (.exit id') s h
  | e, s, h => Q e s h
def loopN (c : Post → Slots → Heap → Prop) (Q : Post) : Nat → Slots → Heap → Prop
  | 0, _, _ => False
  | k + 1, s, h => c (Post.seq (loopN c Q k) Q) s h

/-- ow: the slots of the variables and literals that are objects; wf: the functions whose calls change the heap; n: the number of slots -/
def awp (P : Program) (ow : Nat → Bool) (wf : FuncId → Bool) (n : Nat) : Code → Post → Slots → Heap → Prop
  | .skip, Q, s, h => Q .normal s h
  | .region _ ops draw, Q, s, h => if draw = true then (dwp P ow wf n ops.toList (Q .normal) s h ∨ dwp2 P ow wf n ops.toList (Q .normal) s h ∨ dwp3 P ow wf n ops.toList (Q .normal) s h) else lwp P ow n ops.toList ops.toList (Q .normal) s h
  | .seq a b, Q, s, h => awp P ow wf n a (Post.seq (awp P ow wf n b Q) Q) s h
  | .cond c x y, Q, s, h => match pev s c with
    | .sc (.bool b) => if b = true then awp P ow wf n x Q s h else awp P ow wf n y Q s h
    | _ => False
  | .block id c, Q, s, h => awp P ow wf n c (Post.block id Q) s h
  | .loop c, Q, s, h => ∃ k, loopN (awp P ow wf n c) Q k s h
  | .exit id, Q, s, h => Q (.exit id) s h
  | .ret, Q, s, h => Q .ret s h
  | _, _, _, _ => False

def slots0 (args : List PV) : Slots := fun t => args.getD t (.sc undef)
/-- a function's results -/
def resP (P : Program) (s : Slots) (h : Heap) : ResultVar → Option PV
  | .tmp t => some (s t)
  | .cell a t => (szT P t).bind fun n => (rd h (s a)).bind fun cs => mkV (aggB P t) n cs
def resAll (P : Program) (s : Slots) (h : Heap) : List ResultVar → Option (List PV)
  | [] => some []
  | r :: rs => (resP P s h r).bind fun v => (resAll P s h rs).map fun vs => v :: vs
def resV : List PV → PV
  | [v] => v
  | vs => .tup vs
def retPost (P : Program) (rs : List ResultVar) (K : PV → Heap → Prop) : Post
  | .normal, s, h => match resAll P s h rs with | some vs => K (resV vs) h | none => False
  | .ret, s, h => match resAll P s h rs with | some vs => K (resV vs) h | none => False
  | _, _, _ => False

end Go.AM
