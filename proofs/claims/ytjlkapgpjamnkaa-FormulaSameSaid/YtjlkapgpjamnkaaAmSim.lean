/- How the abstract machine's values and heap stand for the model's: the relation, what a step may change, what a call promises, and the weakest preconditions of code. -/
import Derived.Test.YtjlkapgpjamnkaaAm
set_option linter.unusedVariables false
set_option linter.unusedSimpArgs false
set_option linter.unusedSectionVars false
namespace Go.AM

/-- where an object lies: its block (none: an empty slice without memory), the cell of its first element, the cells of an element, the cells of the block -/
structure Blk where
  b : Option Nat
  o : Nat
  z : Nat
  sz : Nat

mutual
/-- the value x stands for the abstract value. n: the next id; F: the blocks that nobody writes again -/
def Rep (β : Nat → Blk) (n : Nat) (F : Nat → Prop) (w : World) : PV → Value → Prop
  | .sc v, x => x = v
  | .ptr id i f, x => id < n ∧ ∃ b, (β id).b = some b ∧ x = .pointer (some ⟨b, (β id).o + i * (β id).z + f, none⟩)
  | .cptr cs, x => ∃ b o, F b ∧ x = .pointer (some ⟨b, o, none⟩) ∧ RepS β n F w cs b o
  | .own id off len, x => id < n ∧ ∃ a cap, x = .slice a len cap ∧ len ≤ cap ∧ cap ≤ maxLen ∧
      (cap = 0 ∨ ∃ b, (β id).b = some b ∧ a = some ⟨b, (β id).o + off * (β id).z, none⟩ ∧ (β id).o + (off + cap) * (β id).z ≤ (β id).sz)
  | .imm z rows, x => ∃ a cap, x = .slice a rows.length cap ∧ rows.length ≤ cap ∧ cap ≤ maxLen ∧
      (rows = [] ∨ ∃ b o, F b ∧ a = some ⟨b, o, none⟩ ∧ RepR β n F w z rows b o)
  | .emp, x => ∃ a, x = .slice a 0 0
  | .mp id, x => id < n ∧ ∃ b, (β id).b = some b ∧ x = .map (some b)
  | .agg cs, x => ∃ xs : List Value, x = .agg xs.toArray ∧ (∀ v ∈ xs, v.oneCell' = true) ∧ RepL β n F w cs xs
  | .tup vs, x => ∃ xs : List Value, x = .tuple xs.toArray ∧ RepL β n F w vs xs
/-- cells in a row of memory -/
def RepS (β : Nat → Blk) (n : Nat) (F : Nat → Prop) (w : World) : List PV → Nat → Nat → Prop
  | [], _, _ => True
  | p :: ps, b, o => (∃ v, w.cell? ⟨b, o, none⟩ = some v ∧ v.oneCell' = true ∧ Rep β n F w p v) ∧ RepS β n F w ps b (o + 1)
/-- elements of z cells each -/
def RepR (β : Nat → Blk) (n : Nat) (F : Nat → Prop) (w : World) (z : Nat) : List (List PV) → Nat → Nat → Prop
  | [], _, _ => True
  | r :: rs, b, o => (r.length = z ∧ RepS β n F w r b o) ∧ RepR β n F w z rs b (o + z)
def RepL (β : Nat → Blk) (n : Nat) (F : Nat → Prop) (w : World) : List PV → List Value → Prop
  | [], [] => True
  | p :: ps, v :: vs => Rep β n F w p v ∧ RepL β n F w ps vs
  | _, _ => False
end

/-- the blocks that nobody writes again -/
def Fz (β : Nat → Blk) (h : Heap) (w : World) (b : Nat) : Prop := b < w.heap.size ∧ ∀ id, (h.obj id).isSome = true → (β id).b ≠ some b

def RepM (β : Nat → Blk) (n : Nat) (F : Nat → Prop) (w : World) : List (Value × PV) → List MapEntry → Prop
  | [], [] => True
  | (k, p) :: es, e :: fs => (e.key = k ∧ Rep β n F w p e.val) ∧ RepM β n F w es fs
  | _, _ => False

/-- an object as the memory has it -/
def ObjOk (β : Nat → Blk) (n : Nat) (F : Nat → Prop) (w : World) (k : Blk) : AObj → Prop
  | .arr z rows => k.z = z ∧ ((k.b = none ∧ rows = []) ∨ ∃ b c e fr, k.b = some b ∧ w.heap[b]? = some (.cells c e fr) ∧ c.size = k.sz ∧ k.o + rows.length * z ≤ k.sz ∧
      (∀ i, i < c.size → ¬ (fr.1 ≤ i ∧ i < fr.2)) ∧ RepR β n F w z rows b k.o)
  | .map es => ∃ b fs clock, k.b = some b ∧ w.heap[b]? = some (.map fs clock) ∧ RepM β n F w es fs.toList

structure Sim (β : Nat → Blk) (h : Heap) (w : World) : Prop where
  lt : ∀ id, (h.obj id).isSome = true → id < h.next
  ok : ∀ id o, h.obj id = some o → ObjOk β h.next (Fz β h w) w (β id) o
  inj : ∀ i j, (h.obj i).isSome = true → (h.obj j).isSome = true → ∀ b, (β i).b = some b → (β j).b = some b → i = j

/-- what a step may have changed: the memory that nobody writes again is as it was -/
structure Ext (β : Nat → Blk) (h : Heap) (w : World) (β' : Nat → Blk) (h' : Heap) (w' : World) : Prop where
  os : w'.os = w.os
  tape : w'.tape = w.tape
  output : w'.output = w.output
  size : w.heap.size ≤ w'.heap.size
  next : h.next ≤ h'.next
  beta : ∀ id, id < h.next → β' id = β id
  fz : ∀ b, Fz β h w b → Fz β' h' w' b ∧ w'.heap[b]? = w.heap[b]?

abbrev RepH (β : Nat → Blk) (h : Heap) (w : World) : PV → Value → Prop := Rep β h.next (Fz β h w) w

/-- a function with a body, which a call enters -/
def hasBody (P : Program) (f : FuncId) : Bool := match P.funcs[f]? with
  | some fn => !(fn.name == "runtime.NumGoroutine") && fn.body.isSome
  | none => false

/-- a call: of a function with a body, or of one without, which the machine answers at once -/
def Goes (P : Program) (f : FuncId) (vals : Array Value) (w : World) (Q : Ending → World → Prop) : Prop :=
  (hasBody P f = true ∧ Calls P f vals w Q) ∨ ∃ v w', (callFunc f vals).run P w = .ok (.value v) w' ∧ Q (.returned v) w'

theorem Goes.mono {P : Program} {f : FuncId} {vals : Array Value} {w : World} {Q Q' : Ending → World → Prop} (h : Goes P f vals w Q) (hk : ∀ e w', Q e w' → Q' e w') : Goes P f vals w Q' :=
  h.imp (fun ⟨a, b⟩ => ⟨a, b.mono hk⟩) (fun ⟨v, w', a, b⟩ => ⟨v, w', a, hk _ _ b⟩)

/-- what a call of a function promises: it returns, with a result and a heap of which K holds -/
def PCall (P : Program) (f : FuncId) (args : List PV) (h : Heap) (K : PV → Heap → Prop) : Prop :=
  ∀ (β : Nat → Blk) (w : World) (vals : List Value), Sim β h w → RepL β h.next (Fz β h w) w args vals →
    Goes P f vals.toArray w fun e w' => ∃ r h' β' v, e = .returned v ∧ K r h' ∧ Sim β' h' w' ∧ RepH β' h' w' r v ∧ Ext β h w β' h' w'

/-- one operation that is wanted -/
def owp (P : Program) (ow : Nat → Bool) (o : Oper) (K : Slots → Heap → Prop) (s : Slots) (h : Heap) : Prop :=
  match callee (pev s) o.op with
  | some (f, args) => PCall P f (args.map (pev s)) h fun r h' => K (updO s o.dst r) h'
  | none => match eff P (o.dst.any ow) o.op (pev s) h with
    | some (r, h') => K (updO s o.dst r) h'
    | none => False

/-- is an operation of a region wanted? none: it can't be told -/
def wantedB (ops : List Oper) (s : Slots) (o : Oper) : Option Bool :=
  match o.guard with
  | none => some true
  | some (g, want) => match (ops[g]?).bind (·.dst) with
    | none => none
    | some t => match s t with
      | .sc (.bool b) => some (b == want)
      | .sc (.tuple _) => some false
      | _ => none

/-- the operations of a region in the order of the text -/
def lwp (P : Program) (ow : Nat → Bool) (n : Nat) (ops : List Oper) : List Oper → (Slots → Heap → Prop) → Slots → Heap → Prop
  | [], K, s, h => K s h
  | o :: rest, K, s, h => (o.dst.all (fun d => decide (d < n)) = true) ∧ match wantedB ops s o with
    | none => False
    | some b => if b = true then owp P ow o (lwp P ow n ops rest K) s h else lwp P ow n ops rest K (updO s o.dst (.sc undef)) h

/-- an operation's deed: one value, one heap -/
def Does (P : Program) (ow : Nat → Bool) (o : Oper) (ρ : Operand → PV) (h : Heap) (v : PV) (h' : Heap) : Prop :=
  match callee ρ o.op with
  | some (f, args) => PCall P f (args.map ρ) h fun r h'' => r = v ∧ h'' = h'
  | none => eff P (o.dst.any ow) o.op ρ h = some (v, h')
/-- does an operation change the heap? wf: the functions whose calls do -/
def isW (ow : Nat → Bool) (wf : FuncId → Bool) (o : Oper) : Bool :=
  match o.op with
  | .store _ _ _ => true
  | .mapUpdate _ _ _ _ => true
  | .alloc _ => true
  | .makeMap _ _ => true
  | .makeSlice _ _ _ => true
  | .box _ _ => o.dst.any ow
  | .convert _ _ _ => o.dst.any ow
  | .buildSlice _ _ _ => o.dst.any ow
  | .call { callee := .builtin .append, .. } => true
  | .call { callee := .value (.func f), .. } => wf f
  | .call { callee := .value _, .. } => true
  | _ => false
/-- must operation i come before operation j? -/
def pre (ops : List Oper) (i j : Nat) : Bool := ((Region.before ops.toArray).getD j 0).testBit i

/-- a region that draws its order, walked in the order of the text; what is noted: of the operations behind (past) that they would give the same in a later heap, of the heaps behind (hist) that a later operation gives the same there -/
def drun (P : Program) (ow : Nat → Bool) (wf : FuncId → Bool) (n : Nat) (ops : List Oper) : Nat → List Oper → List (Nat × (Heap → Prop)) → List (Nat × Heap) → (Slots → Heap → Prop) → Slots → Heap → Prop
  | _, [], _, _, K, s, h => K s h
  | k, o :: rest, past, hist, K, s, h => (o.dst.all (fun d => decide (d < n)) = true) ∧ match wantedB ops s o with
    | none => False
    | some b => if b = true then
        (if isW ow wf o = true then ∃ v h', Does P ow o (pev s) h v h' ∧ (∀ x ∈ past, pre ops x.1 k = true ∨ x.2 h') ∧ drun P ow wf n ops (k + 1) rest past ((k, h) :: hist) K (updO s o.dst v) h'
         else ∃ v, Does P ow o (pev s) h v h ∧ (∀ x ∈ hist, pre ops x.1 k = true ∨ Does P ow o (pev s) x.2 v x.2) ∧ drun P ow wf n ops (k + 1) rest ((k, fun h' => Does P ow o (pev s) h' v h') :: past) hist K (updO s o.dst v) h)
      else drun P ow wf n ops (k + 1) rest past hist K (updO s o.dst (.sc undef)) h

/-- the slots that an operation looks at or writes -/
def looks (ops : List Oper) (o : Oper) : List Nat :=
  (o.op.operands.toList.filterMap fun | .tmp t => some t | _ => none) ++ (match o.guard with | some (g, _) => ((ops[g]?).bind (·.dst)).toList | none => []) ++ o.dst.toList
/-- what is asked of a region that draws its order, by its text alone -/
def dOk (ow : Nat → Bool) (wf : FuncId → Bool) (ops : List Oper) : Bool :=
  ops.zipIdx.all fun (o, j) => (o.after.toList.all fun e => !Region.binds .any e || decide (e.on < j)) && (match o.op with | .select _ _ => false | _ => true) &&
    ops.zipIdx.all fun (q, i) => i == j || ((match q.dst with | none => true | some d => !(looks ops o).contains d || pre ops i j || pre ops j i) && (!(isW ow wf q && isW ow wf o) || pre ops i j || pre ops j i))
def dwp (P : Program) (ow : Nat → Bool) (wf : FuncId → Bool) (n : Nat) (ops : List Oper) (K : Slots → Heap → Prop) (s : Slots) (h : Heap) : Prop :=
  dOk ow wf ops = true ∧ drun P ow wf n ops 0 ops [] [] K s h

abbrev Post := Exit → Slots → Heap → Prop
def Post.seq (next : Slots → Heap → Prop) (Q : Post) : Post
  | .normal, s, h => next s h
  | e, s, h => Q e s h
def Post.block (id : Nat) (Q : Post) : Post
  | .exit id', s, h => if id' = id then Q .normal s h else Q (.exit id') s h
  | e, s, h => Q e s h
def loopN (c : Post → Slots → Heap → Prop) (Q : Post) : Nat → Slots → Heap → Prop
  | 0, _, _ => False
  | k + 1, s, h => c (Post.seq (loopN c Q k) Q) s h

/-- ow: the slots of the variables and literals that are objects; wf: the functions whose calls change the heap; n: the number of slots -/
def awp (P : Program) (ow : Nat → Bool) (wf : FuncId → Bool) (n : Nat) : Code → Post → Slots → Heap → Prop
  | .skip, Q, s, h => Q .normal s h
  | .region _ ops draw, Q, s, h => if draw = true then dwp P ow wf n ops.toList (Q .normal) s h else lwp P ow n ops.toList ops.toList (Q .normal) s h
  | .seq a b, Q, s, h => awp P ow wf n a (Post.seq (awp P ow wf n b Q) Q) s h
  | .cond c x y, Q, s, h => match pev s c with
    | .sc (.bool b) => if b = true then awp P ow wf n x Q s h else awp P ow wf n y Q s h
    | _ => False
  | .block id c, Q, s, h => awp P ow wf n c (Post.block id Q) s h
  | .loop c, Q, s, h => ∃ k, loopN (awp P ow wf n c) Q k s h
  | .exit id, Q, s, h => Q (.exit id) s h
  | .ret, Q, s, h => Q .ret s h
  | _, _, _, _ => False

def slots0 (args : List PV) : Slots := fun t => args.getD t (.sc undef)
/-- a function's results -/
def resP (P : Program) (s : Slots) (h : Heap) : ResultVar → Option PV
  | .tmp t => some (s t)
  | .cell a t => (szT P t).bind fun n => (rd h (s a)).bind fun cs => mkV (aggB P t) n cs
def resAll (P : Program) (s : Slots) (h : Heap) : List ResultVar → Option (List PV)
  | [] => some []
  | r :: rs => (resP P s h r).bind fun v => (resAll P s h rs).map fun vs => v :: vs
def resV : List PV → PV
  | [v] => v
  | vs => .tup vs
def retPost (P : Program) (rs : List ResultVar) (K : PV → Heap → Prop) : Post
  | .normal, s, h => match resAll P s h rs with | some vs => K (resV vs) h | none => False
  | .ret, s, h => match resAll P s h rs with | some vs => K (resV vs) h | none => False
  | _, _, _ => False

end Go.AM
