/- Formulas and expressions as plain data, their cells, their sizes and when two are equal. -/
import Derived.Test.YtdnpmfjfgamaeaaGreatAmTac
set_option linter.unusedVariables false
set_option linter.unusedSimpArgs false
set_option linter.unusedSectionVars false
namespace Go.AM

structure Pm where
  name : ByteArray
  type : ByteArray
inductive Ex where
  | mk (op name : ByteArray) (n : Int) (args : List ByteArray) (kids : List Ex)
inductive Fm where
  | mk (op name : ByteArray) (args : List ByteArray) (params : List Pm) (exprs : List Ex) (kids : List Fm)

abbrev sPV (s : ByteArray) : PV := .sc (.string s)
def strRows (l : List ByteArray) : List (List PV) := l.map fun s => [sPV s]
def pmRow (p : Pm) : List PV := [sPV p.name, sPV p.type]
def pmRows (l : List Pm) : List (List PV) := l.map pmRow
theorem pmRows_len (l : List Pm) : (pmRows l).length = l.length := by simp [pmRows]
theorem pmRows_get {l : List Pm} {i : Nat} {p : Pm} (h : l[i]? = some p) : (pmRows l)[i]? = some [sPV p.name, sPV p.type] := by simp [pmRows, h, pmRow]
mutual
def Ex.cells : Ex → List PV
  | .mk op name n args kids => [sPV op, sPV name, .sc (.int .i64 n), .imm 1 (strRows args), .imm 5 (Ex.rows kids)]
def Ex.rows : List Ex → List (List PV)
  | [] => []
  | k :: ks => k.cells :: Ex.rows ks
end
mutual
def Fm.cells : Fm → List PV
  | .mk op name args params exprs kids => [sPV op, sPV name, .imm 1 (strRows args), .imm 2 (pmRows params), .imm 5 (Ex.rows exprs), .imm 6 (Fm.rows kids)]
def Fm.rows : List Fm → List (List PV)
  | [] => []
  | k :: ks => k.cells :: Fm.rows ks
end
theorem Ex.rows_map : ∀ l : List Ex, Ex.rows l = l.map Ex.cells
  | [] => rfl
  | k :: ks => by simp [Ex.rows, Ex.rows_map ks]
theorem Fm.rows_map : ∀ l : List Fm, Fm.rows l = l.map Fm.cells
  | [] => rfl
  | k :: ks => by simp [Fm.rows, Fm.rows_map ks]
theorem Ex.cells_len (e : Ex) : e.cells.length = 5 := by cases e; rfl
theorem Fm.cells_len (f : Fm) : f.cells.length = 6 := by cases f; rfl

mutual
def Ex.size : Ex → Int
  | .mk _ _ _ _ kids => Ex.sizes 1 kids
def Ex.sizes (n : Int) : List Ex → Int
  | [] => n
  | k :: ks => Ex.sizes (IntKind.i64.wrap (n + k.size)) ks
end
mutual
def Fm.size : Fm → Int
  | .mk _ _ _ _ exprs kids => Fm.sizes (Ex.sizes 1 exprs) kids
def Fm.sizes (n : Int) : List Fm → Int
  | [] => n
  | k :: ks => Fm.sizes (IntKind.i64.wrap (n + k.size)) ks
end

def bEq (a b : ByteArray) : Bool := a.data.toList == b.data.toList
def bsEq : List ByteArray → List ByteArray → Bool
  | [], [] => true
  | a :: l, b :: m => bEq a b && bsEq l m
  | _, _ => false
def pmEq (a b : Pm) : Bool := bEq a.name b.name && bEq a.type b.type
def pmsEq : List Pm → List Pm → Bool
  | [], [] => true
  | a :: l, b :: m => pmEq a b && pmsEq l m
  | _, _ => false
mutual
def Ex.same : Ex → Ex → Bool
  | .mk op name n args kids, .mk op' name' n' args' kids' => bEq op op' && bEq name name' && n == n' && bsEq args args' && Ex.sames kids kids'
def Ex.sames : List Ex → List Ex → Bool
  | [], [] => true
  | a :: l, b :: m => a.same b && Ex.sames l m
  | _, _ => false
end
mutual
def Fm.same : Fm → Fm → Bool
  | .mk op name args params exprs kids, .mk op' name' args' params' exprs' kids' => bEq op op' && bEq name name' && bsEq args args' && pmsEq params params' && Ex.sames exprs exprs' && Fm.sames kids kids'
def Fm.sames : List Fm → List Fm → Bool
  | [], [] => true
  | a :: l, b :: m => a.same b && Fm.sames l m
  | _, _ => false
end
theorem Ex.rows_len (l : List Ex) : (Ex.rows l).length = l.length := by simp [Ex.rows_map]
theorem Fm.rows_len (l : List Fm) : (Fm.rows l).length = l.length := by simp [Fm.rows_map]
theorem Ex.rows_get {l : List Ex} {i : Nat} {k : Ex} (h : l[i]? = some k) : (Ex.rows l)[i]? = some k.cells := by simp [Ex.rows_map, h]
theorem Fm.rows_get {l : List Fm} {i : Nat} {k : Fm} (h : l[i]? = some k) : (Fm.rows l)[i]? = some k.cells := by simp [Fm.rows_map, h]
theorem Ex.ind {C : Ex → Prop} (hC : ∀ op name n args kids, (∀ k ∈ kids, C k) → C (.mk op name n args kids)) : ∀ e, C e
  | .mk op name n args kids => hC op name n args kids fun k hk => Ex.ind hC k
termination_by e => SizeOf.sizeOf e
decreasing_by
  have := List.sizeOf_lt_of_mem hk
  simp only [Ex.mk.sizeOf_spec]
  omega
theorem Fm.ind {C : Fm → Prop} (hC : ∀ op name args params exprs kids, (∀ k ∈ kids, C k) → C (.mk op name args params exprs kids)) : ∀ f, C f
  | .mk op name args params exprs kids => hC op name args params exprs kids fun k hk => Fm.ind hC k
termination_by f => SizeOf.sizeOf f
decreasing_by
  have := List.sizeOf_lt_of_mem hk
  simp only [Fm.mk.sizeOf_spec]
  omega
theorem Ex.sizes_append : ∀ (l m : List Ex) (n : Int), Ex.sizes n (l ++ m) = Ex.sizes (Ex.sizes n l) m
  | [], m, n => by simp [Ex.sizes]
  | k :: l, m, n => by simp only [List.cons_append, Ex.sizes]; exact Ex.sizes_append l m _
theorem Fm.sizes_append : ∀ (l m : List Fm) (n : Int), Fm.sizes n (l ++ m) = Fm.sizes (Fm.sizes n l) m
  | [], m, n => by simp [Fm.sizes]
  | k :: l, m, n => by simp only [List.cons_append, Fm.sizes]; exact Fm.sizes_append l m _
theorem Ex.sizes_take {l : List Ex} {i : Nat} {k : Ex} (n : Int) (h : l[i]? = some k) : Ex.sizes n (l.take (i + 1)) = IntKind.i64.wrap (Ex.sizes n (l.take i) + k.size) := by
  rw [List.take_add_one, h, Ex.sizes_append]; rfl
theorem Fm.sizes_take {l : List Fm} {i : Nat} {k : Fm} (n : Int) (h : l[i]? = some k) : Fm.sizes n (l.take (i + 1)) = IntKind.i64.wrap (Fm.sizes n (l.take i) + k.size) := by
  rw [List.take_add_one, h, Fm.sizes_append]; rfl

theorem Ex.sames_len : ∀ {l m : List Ex}, ¬ l.length = m.length → Ex.sames l m = false
  | [], [], h => by simp at h
  | [], _ :: _, _ => rfl
  | _ :: _, [], _ => rfl
  | a :: l, b :: m, h => by simp only [Ex.sames, Ex.sames_len (l := l) (m := m) (by simpa using h), Bool.and_false]
theorem Fm.sames_len : ∀ {l m : List Fm}, ¬ l.length = m.length → Fm.sames l m = false
  | [], [], h => by simp at h
  | [], _ :: _, _ => rfl
  | _ :: _, [], _ => rfl
  | a :: l, b :: m, h => by simp only [Fm.sames, Fm.sames_len (l := l) (m := m) (by simpa using h), Bool.and_false]

/-! Sizes that an int can count. -/
def bigN : Nat := 1152921504606846976
mutual
def Ex.ok : Ex → Prop
  | .mk op name n args kids => op.size ≤ bigN ∧ name.size ≤ bigN ∧ (-9223372036854775808 ≤ n ∧ n ≤ 9223372036854775807) ∧ (args.length ≤ bigN ∧ ∀ a ∈ args, a.size ≤ bigN) ∧ kids.length ≤ bigN ∧ Ex.oks kids
def Ex.oks : List Ex → Prop
  | [] => True
  | k :: ks => k.ok ∧ Ex.oks ks
end
def Pm.ok (p : Pm) : Prop := p.name.size ≤ bigN ∧ p.type.size ≤ bigN
mutual
def Fm.ok : Fm → Prop
  | .mk op name args params exprs kids => op.size ≤ bigN ∧ name.size ≤ bigN ∧ (args.length ≤ bigN ∧ ∀ a ∈ args, a.size ≤ bigN) ∧ (params.length ≤ bigN ∧ ∀ p ∈ params, p.ok) ∧ (exprs.length ≤ bigN ∧ Ex.oks exprs) ∧ kids.length ≤ bigN ∧ Fm.oks kids
def Fm.oks : List Fm → Prop
  | [] => True
  | k :: ks => k.ok ∧ Fm.oks ks
end
theorem Ex.oks_iff : {l : List Ex} → (Ex.oks l ↔ ∀ k ∈ l, k.ok)
  | [] => by simp [Ex.oks]
  | k :: ks => by simp [Ex.oks, Ex.oks_iff (l := ks)]
theorem Fm.oks_iff : {l : List Fm} → (Fm.oks l ↔ ∀ k ∈ l, k.ok)
  | [] => by simp [Fm.oks]
  | k :: ks => by simp [Fm.oks, Fm.oks_iff (l := ks)]

/-! Heaps that have grown. -/
structure Grow (h h' : Heap) : Prop where
  le : h.next ≤ h'.next
  old : ∀ id, id < h.next → h'.obj id = h.obj id
theorem Grow.refl (h : Heap) : Grow h h := ⟨Nat.le_refl _, fun _ _ => rfl⟩
theorem Grow.new {h h' : Heap} (g : Grow h h') (o : AObj) : Grow h (h'.new o) :=
  ⟨Nat.le_trans g.le (by simp [Heap.new]), fun id hid => by simp only [Heap.new]; rw [if_neg (by have := g.le; omega)]; exact g.old id hid⟩
theorem Grow.set {h h' : Heap} (g : Grow h h') {id : Nat} (hid : h.next ≤ id) (o : AObj) : Grow h (h'.set id o) :=
  ⟨g.le, fun i hi => by simp only [Heap.set]; rw [if_neg (by omega)]; exact g.old i hi⟩
theorem Grow.kill {h h' : Heap} (g : Grow h h') {id : Nat} (hid : h.next ≤ id) : Grow h (h'.kill id) :=
  ⟨g.le, fun i hi => by simp only [Heap.kill]; rw [if_neg (by omega)]; exact g.old i hi⟩
theorem Grow.trans {h h' h2 : Heap} (g : Grow h h') (k : Grow h' h2) : Grow h h2 :=
  ⟨Nat.le_trans g.le k.le, fun i hi => by rw [k.old i (by have := g.le; omega)]; exact g.old i hi⟩
/-- a call whose result has no memory, told as one that leaves the heap -/
theorem PCall.quiet {P : Program} {f : FuncId} {args : List PV} {h : Heap} {v : Value} (hb : hasBody P f = true) (hc : PCall P f args h fun r h' => r = .sc v ∧ Grow h h') : PCall P f args h fun r h' => r = .sc v ∧ h' = h := by
  refine pcall_wf hb fun hw => PCall.drop (hc.mono ?_)
  rintro r h' ⟨rfl, g⟩
  refine ⟨.sc v, h, ⟨rfl, rfl⟩, by simp only [FrzTo], Nat.le_refl _, fun id o ho => ?_⟩
  have hid := hw id (by rw [ho]; rfl)
  exact ⟨by rw [g.old id hid]; exact ho, hid, .inl ho⟩
/-- a call of a function that is a value -/
theorem owp_useV {P : Program} {ow : Nat → Bool} {n : Nat} {s : Slots} {h : Heap} {f : FuncId} {fo : Operand} {dst : Option Tmp} {args : List Operand} {ts : Array TypeId} {ty : TypeId} {pos : String} {af : Array Edge} {gd : Option (Nat × Bool)} {as : List PV} {v : PV} {K : Slots → Heap → Prop} {ops rest : List Oper}
    (hf : pev s fo = .sc (.func (.func f) #[] #[])) (hc : PCall P f as h fun r h' => r = v ∧ h' = h) (ha : args.map (pev s) = as) (hk : lwn P ow n ops rest K (updO s dst v) h) :
    owp P ow { dst := dst, op := .call { callee := .value fo, args := args.toArray, argTypes := ts }, type := ty, pos := pos, after := af, guard := gd } (lwp P ow n ops rest K) s h := by
  unfold owp
  simp only [callee, hf, and_self, if_true]
  rw [ha]
  exact hc.mono fun r h' hr => by rw [hr.1, hr.2]; exact lwn_lwp _ _ _ hk
end Go.AM
