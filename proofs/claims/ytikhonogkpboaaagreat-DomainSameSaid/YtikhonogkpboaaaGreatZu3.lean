/- What the claim rests on, part 3: the abstract machine, contracts of the functions, plain data. -/
import Derived.Test.YtikhonogkpboaaaGreatProg
import Derived.OpenShut
import Derived.ChangeShapes
import Derived.SizedLaws
import Derived.Test.YtikhonogkpboaaaGreatZu2
set_option linter.unusedVariables false
set_option linter.unusedSimpArgs false
set_option linter.unusedSectionVars false
namespace Go.AM
structure Pm where
  name : ByteArray
  type : ByteArray
inductive Ex where
  | mk (op name : ByteArray) (n : Int) (args : List ByteArray) (kids : List Ex)
inductive Fm where
  | mk (op name : ByteArray) (args : List ByteArray) (params : List Pm) (exprs : List Ex) (kids : List Fm)
abbrev sPV (s : ByteArray) : PV := .sc (.string s)
def strRows (l : List ByteArray) : List (List PV) := l.map fun s => [sPV s]
def pmRow (p : Pm) : List PV := [sPV p.name, sPV p.type]
def pmRows (l : List Pm) : List (List PV) := l.map pmRow
theorem pmRows_len (l : List Pm) : (pmRows l).length = l.length := by simp [pmRows]
theorem pmRows_get {l : List Pm} {i : Nat} {p : Pm} (h : l[i]? = some p) : (pmRows l)[i]? = some [sPV p.name, sPV p.type] := by simp [pmRows, h, pmRow]
mutual
def Ex.cells : Ex → List PV
  | .mk op name n args kids => [sPV op, sPV name, .sc (.int .i64 n), .imm 1 (strRows args), .imm 5 (Ex.rows kids)]
def Ex.rows : List Ex → List (List PV)
  | [] => []
  | k :: ks => k.cells :: Ex.rows ks
end
mutual
def Fm.cells : Fm → List PV
  | .mk op name args params exprs kids => [sPV op, sPV name, .imm 1 (strRows args), .imm 2 (pmRows params), .imm 5 (Ex.rows exprs), .imm 6 (Fm.rows kids)]
def Fm.rows : List Fm → List (List PV)
  | [] => []
  | k :: ks => k.cells :: Fm.rows ks
end
theorem Ex.rows_map : ∀ l : List Ex, Ex.rows l = l.map Ex.cells
  | [] => rfl
  | k :: ks => by simp [Ex.rows, Ex.rows_map ks]
theorem Fm.rows_map : ∀ l : List Fm, Fm.rows l = l.map Fm.cells
  | [] => rfl
  | k :: ks => by simp [Fm.rows, Fm.rows_map ks]
mutual
def Ex.size : Ex → Int
  | .mk _ _ _ _ kids => Ex.sizes 1 kids
def Ex.sizes (n : Int) : List Ex → Int
  | [] => n
  | k :: ks => Ex.sizes (IntKind.i64.wrap (n + k.size)) ks
end
mutual
def Fm.size : Fm → Int
  | .mk _ _ _ _ exprs kids => Fm.sizes (Ex.sizes 1 exprs) kids
def Fm.sizes (n : Int) : List Fm → Int
  | [] => n
  | k :: ks => Fm.sizes (IntKind.i64.wrap (n + k.size)) ks
end
def bEq (a b : ByteArray) : Bool := a.data.toList == b.data.toList
def bsEq : List ByteArray → List ByteArray → Bool
  | [], [] => true
  | a :: l, b :: m => bEq a b && bsEq l m
  | _, _ => false
def pmEq (a b : Pm) : Bool := bEq a.name b.name && bEq a.type b.type
def pmsEq : List Pm → List Pm → Bool
  | [], [] => true
  | a :: l, b :: m => pmEq a b && pmsEq l m
  | _, _ => false
mutual
def Ex.same : Ex → Ex → Bool
  | .mk op name n args kids, .mk op' name' n' args' kids' => bEq op op' && bEq name name' && n == n' && bsEq args args' && Ex.sames kids kids'
def Ex.sames : List Ex → List Ex → Bool
  | [], [] => true
  | a :: l, b :: m => a.same b && Ex.sames l m
  | _, _ => false
end
mutual
def Fm.same : Fm → Fm → Bool
  | .mk op name args params exprs kids, .mk op' name' args' params' exprs' kids' => bEq op op' && bEq name name' && bsEq args args' && pmsEq params params' && Ex.sames exprs exprs' && Fm.sames kids kids'
def Fm.sames : List Fm → List Fm → Bool
  | [], [] => true
  | a :: l, b :: m => a.same b && Fm.sames l m
  | _, _ => false
end
theorem Ex.rows_len (l : List Ex) : (Ex.rows l).length = l.length := by simp [Ex.rows_map]
theorem Fm.rows_len (l : List Fm) : (Fm.rows l).length = l.length := by simp [Fm.rows_map]
theorem Ex.rows_get {l : List Ex} {i : Nat} {k : Ex} (h : l[i]? = some k) : (Ex.rows l)[i]? = some k.cells := by simp [Ex.rows_map, h]
theorem Fm.rows_get {l : List Fm} {i : Nat} {k : Fm} (h : l[i]? = some k) : (Fm.rows l)[i]? = some k.cells := by simp [Fm.rows_map, h]
theorem Ex.ind {C : Ex → Prop} (hC : ∀ op name n args kids, (∀ k ∈ kids, C k) → C (.mk op name n args kids)) : ∀ e, C e
  | .mk op name n args kids => hC op name n args kids fun k hk => Ex.ind hC k
termination_by e => SizeOf.sizeOf e
decreasing_by
  have := List.sizeOf_lt_of_mem hk
  simp only [Ex.mk.sizeOf_spec]
  omega
theorem Fm.ind {C : Fm → Prop} (hC : ∀ op name args params exprs kids, (∀ k ∈ kids, C k) → C (.mk op name args params exprs kids)) : ∀ f, C f
  | .mk op name args params exprs kids => hC op name args params exprs kids fun k hk => Fm.ind hC k
termination_by f => SizeOf.sizeOf f
decreasing_by
  have := List.sizeOf_lt_of_mem hk
  simp only [Fm.mk.sizeOf_spec]
  omega
theorem Ex.sizes_append : ∀ (l m : List Ex) (n : Int), Ex.sizes n (l ++ m) = Ex.sizes (Ex.sizes n l) m
  | [], m, n => by simp [Ex.sizes]
  | k :: l, m, n => by simp only [List.cons_append, Ex.sizes]; exact Ex.sizes_append l m _
theorem Fm.sizes_append : ∀ (l m : List Fm) (n : Int), Fm.sizes n (l ++ m) = Fm.sizes (Fm.sizes n l) m
  | [], m, n => by simp [Fm.sizes]
  | k :: l, m, n => by simp only [List.cons_append, Fm.sizes]; exact Fm.sizes_append l m _
theorem Ex.sizes_take {l : List Ex} {i : Nat} {k : Ex} (n : Int) (h : l[i]? = some k) : Ex.sizes n (l.take (i + 1)) = IntKind.i64.wrap (Ex.sizes n (l.take i) + k.size) := by
  rw [List.take_add_one, h, Ex.sizes_append]; try rfl
theorem Fm.sizes_take {l : List Fm} {i : Nat} {k : Fm} (n : Int) (h : l[i]? = some k) : Fm.sizes n (l.take (i + 1)) = IntKind.i64.wrap (Fm.sizes n (l.take i) + k.size) := by
  rw [List.take_add_one, h, Fm.sizes_append]; try rfl
theorem Ex.sames_len : ∀ {l m : List Ex}, ¬ l.length = m.length → Ex.sames l m = false
  | [], [], h => by simp at h
  | [], _ :: _, _ => rfl
  | _ :: _, [], _ => rfl
  | a :: l, b :: m, h => by simp only [Ex.sames, Ex.sames_len (l := l) (m := m) (by simpa using h), Bool.and_false]
theorem Fm.sames_len : ∀ {l m : List Fm}, ¬ l.length = m.length → Fm.sames l m = false
  | [], [], h => by simp at h
  | [], _ :: _, _ => rfl
  | _ :: _, [], _ => rfl
  | a :: l, b :: m, h => by simp only [Fm.sames, Fm.sames_len (l := l) (m := m) (by simpa using h), Bool.and_false]
def bigN : Nat := 1152921504606846976
mutual
def Ex.ok : Ex → Prop
  | .mk op name n args kids => op.size ≤ bigN ∧ name.size ≤ bigN ∧ (-9223372036854775808 ≤ n ∧ n ≤ 9223372036854775807) ∧ (args.length ≤ bigN ∧ ∀ a ∈ args, a.size ≤ bigN) ∧ kids.length ≤ bigN ∧ Ex.oks kids
def Ex.oks : List Ex → Prop
  | [] => True
  | k :: ks => k.ok ∧ Ex.oks ks
end
def Pm.ok (p : Pm) : Prop := p.name.size ≤ bigN ∧ p.type.size ≤ bigN
mutual
def Fm.ok : Fm → Prop
  | .mk op name args params exprs kids => op.size ≤ bigN ∧ name.size ≤ bigN ∧ (args.length ≤ bigN ∧ ∀ a ∈ args, a.size ≤ bigN) ∧ (params.length ≤ bigN ∧ ∀ p ∈ params, p.ok) ∧ (exprs.length ≤ bigN ∧ Ex.oks exprs) ∧ kids.length ≤ bigN ∧ Fm.oks kids
def Fm.oks : List Fm → Prop
  | [] => True
  | k :: ks => k.ok ∧ Fm.oks ks
end
theorem Ex.oks_iff : {l : List Ex} → (Ex.oks l ↔ ∀ k ∈ l, k.ok)
  | [] => by simp [Ex.oks]
  | k :: ks => by simp [Ex.oks, Ex.oks_iff (l := ks)]
theorem Fm.oks_iff : {l : List Fm} → (Fm.oks l ↔ ∀ k ∈ l, k.ok)
  | [] => by simp [Fm.oks]
  | k :: ks => by simp [Fm.oks, Fm.oks_iff (l := ks)]
structure Grow (h h' : Heap) : Prop where
  le : h.next ≤ h'.next
  old : ∀ id, id < h.next → h'.obj id = h.obj id
theorem Grow.refl (h : Heap) : Grow h h := ⟨Nat.le_refl _, fun _ _ => rfl⟩
theorem Grow.new {h h' : Heap} (g : Grow h h') (o : AObj) : Grow h (h'.new o) :=
  ⟨Nat.le_trans g.le (by simp [Heap.new]), fun id hid => by simp only [Heap.new]; rw [if_neg (by have := g.le; omega)]; exact g.old id hid⟩
theorem Grow.set {h h' : Heap} (g : Grow h h') {id : Nat} (hid : h.next ≤ id) (o : AObj) : Grow h (h'.set id o) :=
  ⟨g.le, fun i hi => by simp only [Heap.set]; rw [if_neg (by omega)]; exact g.old i hi⟩
/-- a call whose result has no memory, told as one that leaves the heap -/
theorem PCall.quiet {P : Program} {f : FuncId} {args : List PV} {h : Heap} {v : Value} (hb : hasBody P f = true) (hc : PCall P f args h fun r h' => r = .sc v ∧ Grow h h') : PCall P f args h fun r h' => r = .sc v ∧ h' = h := by
  refine pcall_wf hb fun hw => PCall.drop (hc.mono ?_)
  rintro r h' ⟨rfl, g⟩
  refine ⟨.sc v, h, ⟨rfl, rfl⟩, by simp only [FrzTo], Nat.le_refl _, fun id o ho => ?_⟩
  have hid := hw id (by rw [ho]; try rfl)
  exact ⟨by rw [g.old id hid]; exact ho, hid, .inl ho⟩
/-- a call of a function that is a value -/
theorem owp_useV {P : Program} {ow : Nat → Bool} {n : Nat} {s : Slots} {h : Heap} {f : FuncId} {fo : Operand} {dst : Option Tmp} {args : List Operand} {ts : Array TypeId} {ty : TypeId} {pos : String} {af : Array Edge} {gd : Option (Nat × Bool)} {ags : List PV} {v : PV} {K : Slots → Heap → Prop} {ops rest : List Oper}
    (hf : pev s fo = .sc (.func (.func f) #[] #[])) (hc : PCall P f ags h fun r h' => r = v ∧ h' = h) (ha : args.map (pev s) = ags) (hk : lwn P ow n ops rest K (updO s dst v) h) :
    owp P ow { dst := dst, op := .call { callee := .value fo, args := args.toArray, argTypes := ts }, type := ty, pos := pos, after := af, guard := gd } (lwp P ow n ops rest K) s h := by
  unfold owp
  simp only [callee, hf, and_self, if_true]
  rw [ha]
  exact hc.mono fun r h' hr => by rw [hr.1, hr.2]; exact lwn_lwp _ _ _ hk
end Go.AM
namespace Go.AM
/-- a change -/
structure Ch where
  kind : Int
  params : List Pm
  cond : Fm
  name : ByteArray
  args : List ByteArray
  value : Ex
/-- a predicate -/
structure Pr where
  name : ByteArray
  params : List Pm
/-- a function -/
structure Fu where
  name : ByteArray
  params : List Pm
  lo : Int
  hi : Int
/-- an action -/
structure Ac where
  name : ByteArray
  params : List Pm
  cost : Int
  pre : Fm
  changes : List Ch
/-- a durative action -/
structure Du where
  name : ByteArray
  params : List Pm
  duration : Int
  start : Fm
  over : Fm
  stop : Fm
  atStart : List Ch
  atStop : List Ch
structure Dm where
  name : ByteArray
  types : List Pm
  constants : List Pm
  predicates : List Pr
  functions : List Fu
  actions : List Ac
  duratives : List Du
def chRow (c : Ch) : List PV := [.sc (.int .i64 c.kind), .imm 2 (pmRows c.params)] ++ (c.cond.cells ++ ([sPV c.name, .imm 1 (strRows c.args)] ++ c.value.cells))
def chRows (l : List Ch) : List (List PV) := l.map chRow
def prRow (p : Pr) : List PV := [sPV p.name, .imm 2 (pmRows p.params)]
def prRows (l : List Pr) : List (List PV) := l.map prRow
def fuRow (f : Fu) : List PV := [sPV f.name, .imm 2 (pmRows f.params), .sc (.int .i64 f.lo), .sc (.int .i64 f.hi)]
def fuRows (l : List Fu) : List (List PV) := l.map fuRow
def acRow (a : Ac) : List PV := [sPV a.name, .imm 2 (pmRows a.params), .sc (.int .i64 a.cost)] ++ (a.pre.cells ++ [.imm 15 (chRows a.changes)])
def acRows (l : List Ac) : List (List PV) := l.map acRow
def duRow (d : Du) : List PV := [sPV d.name, .imm 2 (pmRows d.params), .sc (.int .i64 d.duration)] ++ (d.start.cells ++ (d.over.cells ++ (d.stop.cells ++ [.imm 15 (chRows d.atStart), .imm 15 (chRows d.atStop)])))
def duRows (l : List Du) : List (List PV) := l.map duRow
def Dm.cells (d : Dm) : List PV := [sPV d.name, .imm 2 (pmRows d.types), .imm 2 (pmRows d.constants), .imm 2 (prRows d.predicates), .imm 4 (fuRows d.functions), .imm 10 (acRows d.actions), .imm 23 (duRows d.duratives)]
theorem chRows_len (l : List Ch) : (chRows l).length = l.length := by simp [chRows]
theorem chRows_get {l : List Ch} {i : Nat} {a : Ch} (h : l[i]? = some a) : (chRows l)[i]? = some (chRow a) := by simp [chRows, h]
theorem prRows_len (l : List Pr) : (prRows l).length = l.length := by simp [prRows]
theorem prRows_get {l : List Pr} {i : Nat} {a : Pr} (h : l[i]? = some a) : (prRows l)[i]? = some (prRow a) := by simp [prRows, h]
theorem fuRows_len (l : List Fu) : (fuRows l).length = l.length := by simp [fuRows]
theorem fuRows_get {l : List Fu} {i : Nat} {a : Fu} (h : l[i]? = some a) : (fuRows l)[i]? = some (fuRow a) := by simp [fuRows, h]
theorem acRows_len (l : List Ac) : (acRows l).length = l.length := by simp [acRows]
theorem acRows_get {l : List Ac} {i : Nat} {a : Ac} (h : l[i]? = some a) : (acRows l)[i]? = some (acRow a) := by simp [acRows, h]
theorem duRows_len (l : List Du) : (duRows l).length = l.length := by simp [duRows]
theorem duRows_get {l : List Du} {i : Nat} {a : Du} (h : l[i]? = some a) : (duRows l)[i]? = some (duRow a) := by simp [duRows, h]
structure Ch.ok (c : Ch) : Prop where
  params : c.params.length ≤ bigN ∧ ∀ a ∈ c.params, a.ok
  cond : c.cond.ok
  args : c.args.length ≤ bigN ∧ ∀ a ∈ c.args, a.size ≤ bigN
  value : c.value.ok
  name : c.name.size ≤ bigN
  kind : -9223372036854775808 ≤ c.kind ∧ c.kind ≤ 9223372036854775807
def Chs.ok (l : List Ch) : Prop := l.length ≤ bigN ∧ ∀ a ∈ l, a.ok
structure Pr.ok (p : Pr) : Prop where
  name : p.name.size ≤ bigN
  params : p.params.length ≤ bigN ∧ ∀ a ∈ p.params, a.ok
structure Fu.ok (p : Fu) : Prop where
  name : p.name.size ≤ bigN
  params : p.params.length ≤ bigN ∧ ∀ a ∈ p.params, a.ok
  lo : -9223372036854775808 ≤ p.lo ∧ p.lo ≤ 9223372036854775807
  hi : -9223372036854775808 ≤ p.hi ∧ p.hi ≤ 9223372036854775807
structure Ac.ok (a : Ac) : Prop where
  name : a.name.size ≤ bigN
  params : a.params.length ≤ bigN ∧ ∀ p ∈ a.params, p.ok
  cost : -9223372036854775808 ≤ a.cost ∧ a.cost ≤ 9223372036854775807
  pre : a.pre.ok
  changes : Chs.ok a.changes
structure Du.ok (a : Du) : Prop where
  name : a.name.size ≤ bigN
  params : a.params.length ≤ bigN ∧ ∀ p ∈ a.params, p.ok
  duration : -9223372036854775808 ≤ a.duration ∧ a.duration ≤ 9223372036854775807
  start : a.start.ok
  over : a.over.ok
  stop : a.stop.ok
  atStart : Chs.ok a.atStart
  atStop : Chs.ok a.atStop
structure Dm.ok (d : Dm) : Prop where
  name : d.name.size ≤ bigN
  types : d.types.length ≤ bigN ∧ ∀ a ∈ d.types, a.ok
  constants : d.constants.length ≤ bigN ∧ ∀ a ∈ d.constants, a.ok
  predicates : d.predicates.length ≤ bigN ∧ ∀ a ∈ d.predicates, a.ok
  functions : d.functions.length ≤ bigN ∧ ∀ a ∈ d.functions, a.ok
  actions : d.actions.length ≤ bigN ∧ ∀ a ∈ d.actions, a.ok
  duratives : d.duratives.length ≤ bigN ∧ ∀ a ∈ d.duratives, a.ok
end Go.AM
namespace Go.AM
set_option maxRecDepth 20000
variable {P : Program} {ow : Nat → Bool} {s : Slots} {h : Heap}
theorem am0 : type_of% (And.intro @rowsI_len (And.intro @ex2_eq (And.intro @new_obj (And.intro @kill_obj (And.intro @set_obj (And.intro @new_next (And.intro @kill_next (And.intro @set_next (And.intro @lenP_imm (And.intro @lenP_emp (And.intro @lenP_nil (And.intro @lenP_own (And.intro @lenP_str (And.intro @lenP_mnil (And.intro @lenP_mp (And.intro @lenK_imm (And.intro @lenK_emp (And.intro @lenK_nil (And.intro @lenK_own (And.intro @lenK_str (And.intro @lenK_mnil (And.intro @lenK_mp (And.intro @idx_imm (And.intro @idx_own (And.intro @idxA_ptr (And.intro @idxA_cptr (And.intro @fldP_ptr (And.intro @fldP_cptr (And.intro @rd_ptr (And.intro @rd_cptr (And.intro @wr_ptr (And.intro @view_imm (And.intro @view_emp (@view_nil)))))))))))))))))))))))))))))))))) := And.intro @rowsI_len (And.intro @ex2_eq (And.intro @new_obj (And.intro @kill_obj (And.intro @set_obj (And.intro @new_next (And.intro @kill_next (And.intro @set_next (And.intro @lenP_imm (And.intro @lenP_emp (And.intro @lenP_nil (And.intro @lenP_own (And.intro @lenP_str (And.intro @lenP_mnil (And.intro @lenP_mp (And.intro @lenK_imm (And.intro @lenK_emp (And.intro @lenK_nil (And.intro @lenK_own (And.intro @lenK_str (And.intro @lenK_mnil (And.intro @lenK_mp (And.intro @idx_imm (And.intro @idx_own (And.intro @idxA_ptr (And.intro @idxA_cptr (And.intro @fldP_ptr (And.intro @fldP_cptr (And.intro @rd_ptr (And.intro @rd_cptr (And.intro @wr_ptr (And.intro @view_imm (And.intro @view_emp (@view_nil)))))))))))))))))))))))))))))))))
theorem am1 : type_of% (And.intro @view_own (And.intro @zOk_imm (And.intro @zOk_emp (And.intro @zOk_nil (And.intro @zOk_own (And.intro @isTail_emp (And.intro @isTail_nil (And.intro @isTail_own (And.intro @isSl_imm (And.intro @isSl_own (And.intro @isSl_emp (And.intro @isSl_nil (And.intro @mview_nil (And.intro @mview_mp (And.intro @subL_imm (And.intro @subL_own (And.intro @cells_agg (And.intro @cells_sc (And.intro @cells_imm (And.intro @cells_own (And.intro @cells_ptr (And.intro @cells_cptr (And.intro @cells_emp (And.intro @cells_mp (And.intro @oneC_int (And.intro @oneC_bool (And.intro @oneC_str (And.intro @oneC_nilI (And.intro @oneC_if (And.intro @oneC_p (And.intro @oneC_s (And.intro @oneC_m (And.intro @oneC_imm (@oneC_own)))))))))))))))))))))))))))))))))) := And.intro @view_own (And.intro @zOk_imm (And.intro @zOk_emp (And.intro @zOk_nil (And.intro @zOk_own (And.intro @isTail_emp (And.intro @isTail_nil (And.intro @isTail_own (And.intro @isSl_imm (And.intro @isSl_own (And.intro @isSl_emp (And.intro @isSl_nil (And.intro @mview_nil (And.intro @mview_mp (And.intro @subL_imm (And.intro @subL_own (And.intro @cells_agg (And.intro @cells_sc (And.intro @cells_imm (And.intro @cells_own (And.intro @cells_ptr (And.intro @cells_cptr (And.intro @cells_emp (And.intro @cells_mp (And.intro @oneC_int (And.intro @oneC_bool (And.intro @oneC_str (And.intro @oneC_nilI (And.intro @oneC_if (And.intro @oneC_p (And.intro @oneC_s (And.intro @oneC_m (And.intro @oneC_imm (@oneC_own)))))))))))))))))))))))))))))))))
theorem am2 : type_of% (And.intro @oneC_ptr (And.intro @oneC_cptr (And.intro @oneC_emp (And.intro @oneC_mp (And.intro @owp_move (And.intro @owp_assign (And.intro @owp_pick (And.intro @owp_alloc (And.intro @owp_box (And.intro @owp_build (And.intro @owp_buildSlice (And.intro @owp_load (And.intro @owp_store (And.intro @owp_nilCheck (And.intro @owp_binOp (And.intro @owp_unOp (And.intro @owp_convert (And.intro @owp_makeInterface (And.intro @owp_makeMap (And.intro @owp_makeSlice (And.intro @owp_slice (And.intro @owp_fieldAddr (And.intro @owp_field (And.intro @owp_indexAddr (And.intro @owp_index (And.intro @owp_lookup (And.intro @owp_mapUpdate (And.intro @owp_typeAssert (And.intro @owp_extract (And.intro @owp_callB (And.intro @Does_move (And.intro @Does_assign (And.intro @Does_pick (@Does_alloc)))))))))))))))))))))))))))))))))) := And.intro @oneC_ptr (And.intro @oneC_cptr (And.intro @oneC_emp (And.intro @oneC_mp (And.intro @owp_move (And.intro @owp_assign (And.intro @owp_pick (And.intro @owp_alloc (And.intro @owp_box (And.intro @owp_build (And.intro @owp_buildSlice (And.intro @owp_load (And.intro @owp_store (And.intro @owp_nilCheck (And.intro @owp_binOp (And.intro @owp_unOp (And.intro @owp_convert (And.intro @owp_makeInterface (And.intro @owp_makeMap (And.intro @owp_makeSlice (And.intro @owp_slice (And.intro @owp_fieldAddr (And.intro @owp_field (And.intro @owp_indexAddr (And.intro @owp_index (And.intro @owp_lookup (And.intro @owp_mapUpdate (And.intro @owp_typeAssert (And.intro @owp_extract (And.intro @owp_callB (And.intro @Does_move (And.intro @Does_assign (And.intro @Does_pick (@Does_alloc)))))))))))))))))))))))))))))))))
theorem am3 : type_of% (And.intro @Does_box (And.intro @Does_build (And.intro @Does_buildSlice (And.intro @Does_load (And.intro @Does_store (And.intro @Does_nilCheck (And.intro @Does_binOp (And.intro @Does_unOp (And.intro @Does_convert (And.intro @Does_makeInterface (And.intro @Does_makeMap (And.intro @Does_makeSlice (And.intro @Does_slice (And.intro @Does_fieldAddr (And.intro @Does_field (And.intro @Does_indexAddr (And.intro @Does_index (And.intro @Does_lookup (And.intro @Does_mapUpdate (And.intro @Does_typeAssert (And.intro @Does_extract (And.intro @Does_callB (And.intro @constPV_int (And.intro @constPV_bool (And.intro @constPV_str (And.intro @constPV_nilI (And.intro @constPV_ptr (And.intro @constPV_slice (And.intro @constPV_map (And.intro @constPV_agg (And.intro @upd_app (And.intro @updO_some (And.intro @updO_none (@slots0_app)))))))))))))))))))))))))))))))))) := And.intro @Does_box (And.intro @Does_build (And.intro @Does_buildSlice (And.intro @Does_load (And.intro @Does_store (And.intro @Does_nilCheck (And.intro @Does_binOp (And.intro @Does_unOp (And.intro @Does_convert (And.intro @Does_makeInterface (And.intro @Does_makeMap (And.intro @Does_makeSlice (And.intro @Does_slice (And.intro @Does_fieldAddr (And.intro @Does_field (And.intro @Does_indexAddr (And.intro @Does_index (And.intro @Does_lookup (And.intro @Does_mapUpdate (And.intro @Does_typeAssert (And.intro @Does_extract (And.intro @Does_callB (And.intro @constPV_int (And.intro @constPV_bool (And.intro @constPV_str (And.intro @constPV_nilI (And.intro @constPV_ptr (And.intro @constPV_slice (And.intro @constPV_map (And.intro @constPV_agg (And.intro @upd_app (And.intro @updO_some (And.intro @updO_none (@slots0_app)))))))))))))))))))))))))))))))))
theorem amb0 : type_of% (And.intro @Nat.zero_add (And.intro @Int.natCast_nonneg (And.intro @decide_eq_true_eq (And.intro @decide_eq_false_iff_not (And.intro @Bool.not_eq_true (And.intro @Bool.not_eq_false (And.intro @not_false_eq_true (And.intro @not_true_eq_false (And.intro @Decidable.not_not (And.intro @Option.bind_some.{0, 0} (And.intro @Option.bind_none.{0, 0} (And.intro @Option.map_some.{0, 0} (And.intro @Option.map_none.{0, 0} (And.intro @Option.all_some.{0} (And.intro @Option.all_none.{0} (And.intro @Option.any_some.{0} (And.intro @Option.any_none.{0} (And.intro @Option.some.injEq.{0} (And.intro @Prod.mk.injEq.{0, 0} (And.intro @List.map_cons.{0, 0} (And.intro @List.map_nil.{0, 0} (And.intro @List.length_cons.{0} (And.intro @List.length_nil.{0} (And.intro @List.length_map.{0, 0} (And.intro @List.getD_cons_zero.{0} (And.intro @List.getD_cons_succ.{0} (And.intro @List.getElem?_cons_zero.{0} (And.intro @List.getElem?_cons_succ.{0} (And.intro @List.drop_zero.{0} (And.intro @List.drop_succ_cons.{0} (And.intro @List.drop_nil.{0} (And.intro @List.take_zero.{0} (And.intro @List.take_succ_cons.{0} (@List.take_nil.{0})))))))))))))))))))))))))))))))))) := And.intro @Nat.zero_add (And.intro @Int.natCast_nonneg (And.intro @decide_eq_true_eq (And.intro @decide_eq_false_iff_not (And.intro @Bool.not_eq_true (And.intro @Bool.not_eq_false (And.intro @not_false_eq_true (And.intro @not_true_eq_false (And.intro @Decidable.not_not (And.intro @Option.bind_some.{0, 0} (And.intro @Option.bind_none.{0, 0} (And.intro @Option.map_some.{0, 0} (And.intro @Option.map_none.{0, 0} (And.intro @Option.all_some.{0} (And.intro @Option.all_none.{0} (And.intro @Option.any_some.{0} (And.intro @Option.any_none.{0} (And.intro @Option.some.injEq.{0} (And.intro @Prod.mk.injEq.{0, 0} (And.intro @List.map_cons.{0, 0} (And.intro @List.map_nil.{0, 0} (And.intro @List.length_cons.{0} (And.intro @List.length_nil.{0} (And.intro @List.length_map.{0, 0} (And.intro @List.getD_cons_zero.{0} (And.intro @List.getD_cons_succ.{0} (And.intro @List.getElem?_cons_zero.{0} (And.intro @List.getElem?_cons_succ.{0} (And.intro @List.drop_zero.{0} (And.intro @List.drop_succ_cons.{0} (And.intro @List.drop_nil.{0} (And.intro @List.take_zero.{0} (And.intro @List.take_succ_cons.{0} (@List.take_nil.{0})))))))))))))))))))))))))))))))))
theorem amb1 : type_of% (And.intro @List.head?_cons.{0} (And.intro @List.all_cons.{0} (And.intro @List.all_nil.{0} (And.intro @List.cons_append.{0} (And.intro @List.nil_append.{0} (And.intro @List.append_nil.{0} (And.intro @List.replicate_succ.{0} (And.intro @List.replicate_zero.{0} (And.intro @List.set_cons_zero.{0} (And.intro @List.set_cons_succ.{0} (And.intro @decide_true (And.intro @decide_false (And.intro @Bool.or_true (And.intro @Bool.true_or (And.intro @Bool.or_false (And.intro @Bool.false_or (And.intro @Bool.and_true (And.intro @Bool.true_and (And.intro @Bool.and_false (And.intro @Bool.false_and (And.intro @Bool.not_true (And.intro @Bool.not_false (And.intro @Bool.false_eq_true (And.intro @and_true (And.intro @true_and (And.intro @and_false (And.intro @false_and (And.intro @and_self (And.intro @or_true (And.intro @true_or (And.intro @or_false (And.intro @false_or (And.intro @List.not_mem_nil.{0} (@false_implies)))))))))))))))))))))))))))))))))) := And.intro @List.head?_cons.{0} (And.intro @List.all_cons.{0} (And.intro @List.all_nil.{0} (And.intro @List.cons_append.{0} (And.intro @List.nil_append.{0} (And.intro @List.append_nil.{0} (And.intro @List.replicate_succ.{0} (And.intro @List.replicate_zero.{0} (And.intro @List.set_cons_zero.{0} (And.intro @List.set_cons_succ.{0} (And.intro @decide_true (And.intro @decide_false (And.intro @Bool.or_true (And.intro @Bool.true_or (And.intro @Bool.or_false (And.intro @Bool.false_or (And.intro @Bool.and_true (And.intro @Bool.true_and (And.intro @Bool.and_false (And.intro @Bool.false_and (And.intro @Bool.not_true (And.intro @Bool.not_false (And.intro @Bool.false_eq_true (And.intro @and_true (And.intro @true_and (And.intro @and_false (And.intro @false_and (And.intro @and_self (And.intro @or_true (And.intro @true_or (And.intro @or_false (And.intro @false_or (And.intro @List.not_mem_nil.{0} (@false_implies)))))))))))))))))))))))))))))))))
theorem amb2 : type_of% (And.intro @Int.toNat_natCast (@List.getElem?_map.{0, 0})) := And.intro @Int.toNat_natCast (@List.getElem?_map.{0, 0})
theorem amb3 : type_of% (And.intro @andK_u64 (And.intro @orK_u64 (And.intro @xorK_u64 (And.intro @andnK_u64 (And.intro @andK_i64 (And.intro @orK_i64 (And.intro @xorK_i64 (And.intro @andnK_i64 (And.intro @andK_u8 (And.intro @orK_u8 (And.intro @xorK_u8 (@andnK_u8)))))))))))) := And.intro @andK_u64 (And.intro @orK_u64 (And.intro @xorK_u64 (And.intro @andnK_u64 (And.intro @andK_i64 (And.intro @orK_i64 (And.intro @xorK_i64 (And.intro @andnK_i64 (And.intro @andK_u8 (And.intro @orK_u8 (And.intro @xorK_u8 (@andnK_u8)))))))))))
theorem amb4 : type_of% (And.intro @beq_iff_eq.{0} (And.intro @bne_iff_ne.{0} (And.intro @ne_eq.{1} (And.intro @beq_eq_false_iff_ne.{0} (@beq_self_eq_true.{0}))))) := And.intro @beq_iff_eq.{0} (And.intro @bne_iff_ne.{0} (And.intro @ne_eq.{1} (And.intro @beq_eq_false_iff_ne.{0} (@beq_self_eq_true.{0}))))
theorem hb0 : type_of% (And.intro @not_true_eq_false (And.intro @not_false_eq_true (And.intro @decide_eq_true_eq (And.intro @decide_eq_false_iff_not (And.intro @Bool.or_eq_true (And.intro @Bool.or_eq_false_iff (And.intro @Bool.and_eq_true (And.intro @Bool.and_eq_false_iff (And.intro @Bool.not_eq_true' (And.intro @Bool.not_eq_false' (And.intro @Bool.not_eq_true (And.intro @Bool.not_eq_false (And.intro @bne_iff_ne.{0} (And.intro @bne_eq_false_iff_eq.{0} (And.intro @beq_iff_eq.{0} (And.intro @beq_eq_false_iff_ne.{0} (And.intro @ne_eq.{1} (And.intro @gt_iff_lt.{0} (And.intro @ge_iff_le.{0} (And.intro @Int.not_lt (And.intro @Int.not_le (@Decidable.not_not)))))))))))))))))))))) := And.intro @not_true_eq_false (And.intro @not_false_eq_true (And.intro @decide_eq_true_eq (And.intro @decide_eq_false_iff_not (And.intro @Bool.or_eq_true (And.intro @Bool.or_eq_false_iff (And.intro @Bool.and_eq_true (And.intro @Bool.and_eq_false_iff (And.intro @Bool.not_eq_true' (And.intro @Bool.not_eq_false' (And.intro @Bool.not_eq_true (And.intro @Bool.not_eq_false (And.intro @bne_iff_ne.{0} (And.intro @bne_eq_false_iff_eq.{0} (And.intro @beq_iff_eq.{0} (And.intro @beq_eq_false_iff_ne.{0} (And.intro @ne_eq.{1} (And.intro @gt_iff_lt.{0} (And.intro @ge_iff_le.{0} (And.intro @Int.not_lt (And.intro @Int.not_le (@Decidable.not_not)))))))))))))))))))))
section
variable {K : Slots → Heap → Prop} {Q : Post} {i j : Nat}
theorem ps1 : Post.seq K Q .normal s h = K s h := rfl
theorem ps2 : Post.seq K Q .ret s h = Q .ret s h := rfl
theorem ps3 : Post.seq K Q (.exit i) s h = Q (.exit i) s h := rfl
theorem ps4 : Post.block j Q .normal s h = Q .normal s h := rfl
theorem ps5 : Post.block j Q .ret s h = Q .ret s h := rfl
theorem ps6 : Post.block j Q (.exit i) s h = if i = j then Q .normal s h else Q (.exit i) s h := rfl
end
theorem pst0 : type_of% (And.intro @ps1 (And.intro @ps2 (And.intro @ps3 (And.intro @ps4 (And.intro @ps5 @ps6))))) := And.intro @ps1 (And.intro @ps2 (And.intro @ps3 (And.intro @ps4 (And.intro @ps5 @ps6))))
end Go.AM
namespace Go.AM
set_option maxRecDepth 20000
theorem we0 : type_of% (And.intro @Go.undef.eq_1 (And.intro @Go.AM.lwn.eq_1 (And.intro @Go.AM.lwn.eq_2 (And.intro @Go.AM.drn.eq_1 (And.intro @Go.AM.drn.eq_2 (And.intro @Go.AM.callee.eq_1 (And.intro @Go.AM.callee.eq_2 (And.intro @Go.AM.wantedB.eq_1 (And.intro @Go.AM.isW.eq_1 (And.intro @Go.AM.eff.eq_1 (And.intro @Go.AM.eff.eq_2 (And.intro @Go.AM.eff.eq_3 (And.intro @Go.AM.eff.eq_4 (And.intro @Go.AM.eff.eq_5 (And.intro @Go.AM.eff.eq_6 (And.intro @Go.AM.eff.eq_7 (And.intro @Go.AM.eff.eq_8 (And.intro @Go.AM.eff.eq_9 (And.intro @Go.AM.eff.eq_10 (And.intro @Go.AM.eff.eq_11 (And.intro @Go.AM.eff.eq_12 (And.intro @Go.AM.eff.eq_13 (And.intro @Go.AM.eff.eq_14 (And.intro @Go.AM.eff.eq_15 (And.intro @Go.AM.eff.eq_16 (And.intro @Go.AM.eff.eq_17 (And.intro @Go.AM.eff.eq_18 (And.intro @Go.AM.eff.eq_19 (And.intro @Go.AM.eff.eq_20 (And.intro @Go.AM.eff.eq_21 (And.intro @Go.AM.eff.eq_22 (And.intro @Go.AM.eff.eq_23 (And.intro @Go.AM.eff.eq_24 (And.intro @Go.AM.eff.eq_25 (And.intro @Go.AM.eff.eq_26 (And.intro @Go.AM.eff.eq_27 (And.intro @Go.AM.eff.eq_28 (And.intro @Go.AM.eff.eq_29 (And.intro @Go.AM.eff.eq_30 (@Go.AM.eff.eq_31)))))))))))))))))))))))))))))))))))))))) := And.intro @Go.undef.eq_1 (And.intro @Go.AM.lwn.eq_1 (And.intro @Go.AM.lwn.eq_2 (And.intro @Go.AM.drn.eq_1 (And.intro @Go.AM.drn.eq_2 (And.intro @Go.AM.callee.eq_1 (And.intro @Go.AM.callee.eq_2 (And.intro @Go.AM.wantedB.eq_1 (And.intro @Go.AM.isW.eq_1 (And.intro @Go.AM.eff.eq_1 (And.intro @Go.AM.eff.eq_2 (And.intro @Go.AM.eff.eq_3 (And.intro @Go.AM.eff.eq_4 (And.intro @Go.AM.eff.eq_5 (And.intro @Go.AM.eff.eq_6 (And.intro @Go.AM.eff.eq_7 (And.intro @Go.AM.eff.eq_8 (And.intro @Go.AM.eff.eq_9 (And.intro @Go.AM.eff.eq_10 (And.intro @Go.AM.eff.eq_11 (And.intro @Go.AM.eff.eq_12 (And.intro @Go.AM.eff.eq_13 (And.intro @Go.AM.eff.eq_14 (And.intro @Go.AM.eff.eq_15 (And.intro @Go.AM.eff.eq_16 (And.intro @Go.AM.eff.eq_17 (And.intro @Go.AM.eff.eq_18 (And.intro @Go.AM.eff.eq_19 (And.intro @Go.AM.eff.eq_20 (And.intro @Go.AM.eff.eq_21 (And.intro @Go.AM.eff.eq_22 (And.intro @Go.AM.eff.eq_23 (And.intro @Go.AM.eff.eq_24 (And.intro @Go.AM.eff.eq_25 (And.intro @Go.AM.eff.eq_26 (And.intro @Go.AM.eff.eq_27 (And.intro @Go.AM.eff.eq_28 (And.intro @Go.AM.eff.eq_29 (And.intro @Go.AM.eff.eq_30 (@Go.AM.eff.eq_31)))))))))))))))))))))))))))))))))))))))
theorem we1 : type_of% (And.intro @Go.AM.eff.eq_32 (And.intro @Go.AM.pev.eq_1 (And.intro @Go.AM.pev.eq_2 (And.intro @Go.AM.pev.eq_3 (And.intro @Go.AM.pev.eq_4 (And.intro @Go.AM.retPost.eq_1 (And.intro @Go.AM.retPost.eq_2 (And.intro @Go.AM.retPost.eq_3 (And.intro @Go.AM.resAll.eq_1 (And.intro @Go.AM.resAll.eq_2 (And.intro @Go.AM.resP.eq_1 (And.intro @Go.AM.resP.eq_2 (And.intro @Go.AM.resV.eq_1 (And.intro @Go.AM.resV.eq_2 (And.intro @Go.AM.intP.eq_1 (And.intro @Go.AM.intP.eq_2 (And.intro @Go.AM.mkV.eq_1 (And.intro @Go.AM.putC.eq_1 (And.intro @Go.AM.pbin.eq_1 (And.intro @Go.AM.pbin.eq_2 (And.intro @Go.AM.pbin.eq_3 (And.intro @Go.AM.pbin.eq_4 (And.intro @Go.AM.pbin.eq_5 (And.intro @Go.AM.pbin.eq_6 (And.intro @Go.AM.pbin.eq_7 (And.intro @Go.AM.sbin.eq_1 (And.intro @Go.AM.sbin.eq_2 (And.intro @Go.AM.sbin.eq_3 (And.intro @Go.AM.sbin.eq_4 (And.intro @Go.AM.strsEq.eq_1 (And.intro @Go.AM.strsEq.eq_2 (And.intro @Go.AM.strsEq.eq_3 (And.intro @Go.AM.peq.eq_1 (And.intro @Go.AM.peq.eq_2 (And.intro @Go.AM.peq.eq_3 (And.intro @Go.AM.peq.eq_4 (And.intro @Go.AM.peq.eq_5 (And.intro @Go.AM.peq.eq_6 (And.intro @Go.AM.peq.eq_7 (@Go.AM.peq.eq_8)))))))))))))))))))))))))))))))))))))))) := And.intro @Go.AM.eff.eq_32 (And.intro @Go.AM.pev.eq_1 (And.intro @Go.AM.pev.eq_2 (And.intro @Go.AM.pev.eq_3 (And.intro @Go.AM.pev.eq_4 (And.intro @Go.AM.retPost.eq_1 (And.intro @Go.AM.retPost.eq_2 (And.intro @Go.AM.retPost.eq_3 (And.intro @Go.AM.resAll.eq_1 (And.intro @Go.AM.resAll.eq_2 (And.intro @Go.AM.resP.eq_1 (And.intro @Go.AM.resP.eq_2 (And.intro @Go.AM.resV.eq_1 (And.intro @Go.AM.resV.eq_2 (And.intro @Go.AM.intP.eq_1 (And.intro @Go.AM.intP.eq_2 (And.intro @Go.AM.mkV.eq_1 (And.intro @Go.AM.putC.eq_1 (And.intro @Go.AM.pbin.eq_1 (And.intro @Go.AM.pbin.eq_2 (And.intro @Go.AM.pbin.eq_3 (And.intro @Go.AM.pbin.eq_4 (And.intro @Go.AM.pbin.eq_5 (And.intro @Go.AM.pbin.eq_6 (And.intro @Go.AM.pbin.eq_7 (And.intro @Go.AM.sbin.eq_1 (And.intro @Go.AM.sbin.eq_2 (And.intro @Go.AM.sbin.eq_3 (And.intro @Go.AM.sbin.eq_4 (And.intro @Go.AM.strsEq.eq_1 (And.intro @Go.AM.strsEq.eq_2 (And.intro @Go.AM.strsEq.eq_3 (And.intro @Go.AM.peq.eq_1 (And.intro @Go.AM.peq.eq_2 (And.intro @Go.AM.peq.eq_3 (And.intro @Go.AM.peq.eq_4 (And.intro @Go.AM.peq.eq_5 (And.intro @Go.AM.peq.eq_6 (And.intro @Go.AM.peq.eq_7 (@Go.AM.peq.eq_8)))))))))))))))))))))))))))))))))))))))
theorem we2 : type_of% (And.intro @Go.AM.peq.eq_9 (And.intro @Go.AM.peq.eq_10 (And.intro @Go.AM.peq.eq_11 (And.intro @Go.AM.peq.eq_12 (And.intro @Go.AM.peq.eq_13 (And.intro @Go.AM.peq.eq_14 (And.intro @Go.AM.peq.eq_15 (And.intro @Go.AM.pint.eq_1 (And.intro @Go.AM.pint.eq_2 (And.intro @Go.AM.pint.eq_3 (And.intro @Go.AM.pint.eq_4 (And.intro @Go.AM.pint.eq_5 (And.intro @Go.AM.pint.eq_6 (And.intro @Go.AM.pint.eq_7 (And.intro @Go.AM.pint.eq_8 (And.intro @Go.AM.pint.eq_9 (And.intro @Go.AM.pint.eq_10 (And.intro @Go.AM.pint.eq_11 (And.intro @Go.AM.pint.eq_12 (And.intro @Go.AM.pint.eq_13 (And.intro @Go.AM.pint.eq_14 (And.intro @Go.AM.pint.eq_15 (And.intro @Go.AM.pint.eq_16 (And.intro @Go.AM.pshift.eq_1 (And.intro @Go.AM.pshift.eq_2 (And.intro @Go.AM.pshift.eq_3 (And.intro @Go.AM.pstr.eq_1 (And.intro @Go.AM.pstr.eq_2 (And.intro @Go.AM.pstr.eq_3 (And.intro @Go.AM.pstr.eq_4 (And.intro @Go.AM.pstr.eq_5 (And.intro @Go.AM.pstr.eq_6 (And.intro @Go.AM.pstr.eq_7 (And.intro @Go.AM.pstr.eq_8 (And.intro @Go.AM.pun.eq_1 (And.intro @Go.AM.pun.eq_2 (And.intro @Go.AM.pun.eq_3 (And.intro @Go.AM.pun.eq_4 (And.intro @Go.AM.pconv.eq_1 (@Go.AM.pconv.eq_2)))))))))))))))))))))))))))))))))))))))) := And.intro @Go.AM.peq.eq_9 (And.intro @Go.AM.peq.eq_10 (And.intro @Go.AM.peq.eq_11 (And.intro @Go.AM.peq.eq_12 (And.intro @Go.AM.peq.eq_13 (And.intro @Go.AM.peq.eq_14 (And.intro @Go.AM.peq.eq_15 (And.intro @Go.AM.pint.eq_1 (And.intro @Go.AM.pint.eq_2 (And.intro @Go.AM.pint.eq_3 (And.intro @Go.AM.pint.eq_4 (And.intro @Go.AM.pint.eq_5 (And.intro @Go.AM.pint.eq_6 (And.intro @Go.AM.pint.eq_7 (And.intro @Go.AM.pint.eq_8 (And.intro @Go.AM.pint.eq_9 (And.intro @Go.AM.pint.eq_10 (And.intro @Go.AM.pint.eq_11 (And.intro @Go.AM.pint.eq_12 (And.intro @Go.AM.pint.eq_13 (And.intro @Go.AM.pint.eq_14 (And.intro @Go.AM.pint.eq_15 (And.intro @Go.AM.pint.eq_16 (And.intro @Go.AM.pshift.eq_1 (And.intro @Go.AM.pshift.eq_2 (And.intro @Go.AM.pshift.eq_3 (And.intro @Go.AM.pstr.eq_1 (And.intro @Go.AM.pstr.eq_2 (And.intro @Go.AM.pstr.eq_3 (And.intro @Go.AM.pstr.eq_4 (And.intro @Go.AM.pstr.eq_5 (And.intro @Go.AM.pstr.eq_6 (And.intro @Go.AM.pstr.eq_7 (And.intro @Go.AM.pstr.eq_8 (And.intro @Go.AM.pun.eq_1 (And.intro @Go.AM.pun.eq_2 (And.intro @Go.AM.pun.eq_3 (And.intro @Go.AM.pun.eq_4 (And.intro @Go.AM.pconv.eq_1 (@Go.AM.pconv.eq_2)))))))))))))))))))))))))))))))))))))))
theorem we3 : type_of% (And.intro @Go.AM.pconv.eq_3 (And.intro @Go.AM.isShift.eq_1 (And.intro @Go.AM.isShift.eq_2 (And.intro @Go.AM.isShift.eq_3 (And.intro @Go.AM.isConstB.eq_1 (And.intro @Go.AM.isConstB.eq_2 (And.intro @Go.AM.app.eq_1 (And.intro @Go.AM.subS.eq_1 (And.intro @Go.AM.subS.eq_2 (And.intro @Go.AM.lay.eq_1 (And.intro @Go.AM.lay.eq_2 (And.intro @Go.AM.rowsOf.eq_1 (And.intro @Go.AM.rowsOf.eq_2 (And.intro @Go.AM.lkV.eq_1 (And.intro @Go.AM.lkV.eq_2 (And.intro @Go.AM.keyKind.eq_1 (And.intro @Go.AM.keyKind.eq_2 (And.intro @Go.AM.keyKind.eq_3 (And.intro @Go.AM.keyKind.eq_4 (And.intro @Go.AM.keyEq.eq_1 (And.intro @Go.AM.keyEq.eq_2 (And.intro @Go.AM.keyEq.eq_3 (And.intro @Go.AM.keyEq.eq_4 (And.intro @Go.AM.mfind.eq_1 (And.intro @Go.AM.mfind.eq_2 (And.intro @Go.AM.mput.eq_1 (And.intro @Go.AM.mput.eq_2 (And.intro @Go.AM.oInt.eq_1 (And.intro @Go.AM.oInt.eq_2 (And.intro @Go.AM.isZeroInt.eq_1 (And.intro @Go.AM.isZeroInt.eq_2 (And.intro @Go.IntKind.bits.eq_1 (And.intro @Go.IntKind.bits.eq_2 (And.intro @Go.IntKind.bits.eq_3 (And.intro @Go.IntKind.bits.eq_4 (And.intro @Go.IntKind.bits.eq_5 (And.intro @Go.IntKind.bits.eq_6 (And.intro @Go.IntKind.bits.eq_7 (@Go.IntKind.bits.eq_8))))))))))))))))))))))))))))))))))))))) := And.intro @Go.AM.pconv.eq_3 (And.intro @Go.AM.isShift.eq_1 (And.intro @Go.AM.isShift.eq_2 (And.intro @Go.AM.isShift.eq_3 (And.intro @Go.AM.isConstB.eq_1 (And.intro @Go.AM.isConstB.eq_2 (And.intro @Go.AM.app.eq_1 (And.intro @Go.AM.subS.eq_1 (And.intro @Go.AM.subS.eq_2 (And.intro @Go.AM.lay.eq_1 (And.intro @Go.AM.lay.eq_2 (And.intro @Go.AM.rowsOf.eq_1 (And.intro @Go.AM.rowsOf.eq_2 (And.intro @Go.AM.lkV.eq_1 (And.intro @Go.AM.lkV.eq_2 (And.intro @Go.AM.keyKind.eq_1 (And.intro @Go.AM.keyKind.eq_2 (And.intro @Go.AM.keyKind.eq_3 (And.intro @Go.AM.keyKind.eq_4 (And.intro @Go.AM.keyEq.eq_1 (And.intro @Go.AM.keyEq.eq_2 (And.intro @Go.AM.keyEq.eq_3 (And.intro @Go.AM.keyEq.eq_4 (And.intro @Go.AM.mfind.eq_1 (And.intro @Go.AM.mfind.eq_2 (And.intro @Go.AM.mput.eq_1 (And.intro @Go.AM.mput.eq_2 (And.intro @Go.AM.oInt.eq_1 (And.intro @Go.AM.oInt.eq_2 (And.intro @Go.AM.isZeroInt.eq_1 (And.intro @Go.AM.isZeroInt.eq_2 (And.intro @Go.IntKind.bits.eq_1 (And.intro @Go.IntKind.bits.eq_2 (And.intro @Go.IntKind.bits.eq_3 (And.intro @Go.IntKind.bits.eq_4 (And.intro @Go.IntKind.bits.eq_5 (And.intro @Go.IntKind.bits.eq_6 (And.intro @Go.IntKind.bits.eq_7 (@Go.IntKind.bits.eq_8))))))))))))))))))))))))))))))))))))))
theorem w0 : type_of% (And.intro @am0 (And.intro @am1 (And.intro @am2 (And.intro @am3 (And.intro @amb0 (And.intro @amb1 (And.intro @amb2 (And.intro @amb3 (And.intro @amb4 (And.intro @pst0 (And.intro @we0 (And.intro @we1 (And.intro @we2 (And.intro @we3 (And.intro @forall_const.{0} (And.intro @forall_const.{1} (And.intro @exists_eq_left'.{1} (And.intro @implies_true.{0} (@implies_true.{1}))))))))))))))))))) := And.intro @am0 (And.intro @am1 (And.intro @am2 (And.intro @am3 (And.intro @amb0 (And.intro @amb1 (And.intro @amb2 (And.intro @amb3 (And.intro @amb4 (And.intro @pst0 (And.intro @we0 (And.intro @we1 (And.intro @we2 (And.intro @we3 (And.intro @forall_const.{0} (And.intro @forall_const.{1} (And.intro @exists_eq_left'.{1} (And.intro @implies_true.{0} (@implies_true.{1}))))))))))))))))))
end Go.AM
namespace Go.Proofs.YtikhonogkpboaaaGreat
open Go.AM
namespace Ty
theorem mixed : Tryz.prog.follows .mixedOrders = true := by kernel_rfl
theorem szT_28 : szT Tryz.prog 28 = some 7 := by kernel_rfl
theorem aggB_28 : aggB Tryz.prog 28 = true := by kernel_rfl
theorem hb_13 : hasBody Tryz.prog 13 = true := by kernel_rfl
theorem hb_15 : hasBody Tryz.prog 15 = true := by kernel_rfl
theorem hb_16 : hasBody Tryz.prog 16 = true := by kernel_rfl
theorem kT_4 : kT Tryz.prog 4 = 1 := by kernel_rfl
theorem szT_41 : szT Tryz.prog 41 = some 11 := by kernel_rfl
theorem aggB_41 : aggB Tryz.prog 41 = true := by kernel_rfl
theorem zeroT_46 : zeroT Tryz.prog 46 = some [.int .i64 0, .int .i64 0, .int .i64 0, .int .i64 0, .string ⟨#[]⟩, .slice none 0 0] := by kernel_rfl
theorem szT_46 : szT Tryz.prog 46 = some 6 := by kernel_rfl
theorem aggB_46 : aggB Tryz.prog 46 = true := by kernel_rfl
theorem kT_46 : kT Tryz.prog 46 = 8 := by kernel_rfl
theorem fieldsT_46 : fieldsT Tryz.prog 46 = some [(0, 1), (1, 1), (2, 1), (3, 1), (4, 1), (5, 1)] := by kernel_rfl
theorem kT_48 : kT Tryz.prog 48 = 7 := by kernel_rfl
theorem hb_29 : hasBody Tryz.prog 29 = true := by kernel_rfl
theorem kT_3 : kT Tryz.prog 3 = 2 := by kernel_rfl
theorem hb_33 : hasBody Tryz.prog 33 = true := by kernel_rfl
theorem zeroT_28 : zeroT Tryz.prog 28 = some [.string ⟨#[]⟩, .slice none 0 0, .slice none 0 0, .slice none 0 0, .slice none 0 0, .slice none 0 0, .slice none 0 0] := by kernel_rfl
theorem zeroT_41 : zeroT Tryz.prog 41 = some [.string ⟨#[]⟩, .string ⟨#[]⟩, .slice none 0 0, .slice none 0 0, .slice none 0 0, .string ⟨#[]⟩, .string ⟨#[]⟩, .slice none 0 0, .slice none 0 0, .slice none 0 0, .slice none 0 0] := by kernel_rfl
theorem fldT_28_0 : fldT Tryz.prog 28 0 = some (0, 1, false) := by kernel_rfl
theorem szT_9 : szT Tryz.prog 9 = some 1 := by kernel_rfl
theorem aggB_9 : aggB Tryz.prog 9 = false := by kernel_rfl
theorem kT_9 : kT Tryz.prog 9 = 3 := by kernel_rfl
theorem fldT_41_0 : fldT Tryz.prog 41 0 = some (0, 1, false) := by kernel_rfl
theorem fldT_41_5 : fldT Tryz.prog 41 5 = some (5, 6, true) := by kernel_rfl
theorem fldT_39_0 : fldT Tryz.prog 39 0 = some (0, 1, false) := by kernel_rfl
theorem fldT_28_1 : fldT Tryz.prog 28 1 = some (1, 1, false) := by kernel_rfl
theorem szT_22 : szT Tryz.prog 22 = some 1 := by kernel_rfl
theorem aggB_22 : aggB Tryz.prog 22 = false := by kernel_rfl
theorem kT_22 : kT Tryz.prog 22 = 5 := by kernel_rfl
theorem fldT_28_2 : fldT Tryz.prog 28 2 = some (2, 1, false) := by kernel_rfl
theorem fldT_28_3 : fldT Tryz.prog 28 3 = some (3, 1, false) := by kernel_rfl
theorem szT_23 : szT Tryz.prog 23 = some 1 := by kernel_rfl
theorem aggB_23 : aggB Tryz.prog 23 = false := by kernel_rfl
theorem kT_23 : kT Tryz.prog 23 = 5 := by kernel_rfl
theorem fldT_28_4 : fldT Tryz.prog 28 4 = some (4, 1, false) := by kernel_rfl
theorem szT_24 : szT Tryz.prog 24 = some 1 := by kernel_rfl
theorem aggB_24 : aggB Tryz.prog 24 = false := by kernel_rfl
theorem kT_24 : kT Tryz.prog 24 = 5 := by kernel_rfl
theorem fldT_28_5 : fldT Tryz.prog 28 5 = some (5, 1, false) := by kernel_rfl
theorem szT_25 : szT Tryz.prog 25 = some 1 := by kernel_rfl
theorem aggB_25 : aggB Tryz.prog 25 = false := by kernel_rfl
theorem kT_25 : kT Tryz.prog 25 = 5 := by kernel_rfl
theorem elT_25 : elT Tryz.prog 25 = some (10, 200) := by kernel_rfl
theorem fldT_79_3 : fldT Tryz.prog 79 3 = some (3, 6, true) := by kernel_rfl
theorem szT_39 : szT Tryz.prog 39 = some 6 := by kernel_rfl
theorem aggB_39 : aggB Tryz.prog 39 = true := by kernel_rfl
theorem hb_40 : hasBody Tryz.prog 40 = true := by kernel_rfl
theorem fldT_79_4 : fldT Tryz.prog 79 4 = some (9, 1, false) := by kernel_rfl
theorem szT_58 : szT Tryz.prog 58 = some 1 := by kernel_rfl
theorem aggB_58 : aggB Tryz.prog 58 = false := by kernel_rfl
theorem fldT_28_6 : fldT Tryz.prog 28 6 = some (6, 1, false) := by kernel_rfl
theorem szT_26 : szT Tryz.prog 26 = some 1 := by kernel_rfl
theorem aggB_26 : aggB Tryz.prog 26 = false := by kernel_rfl
theorem kT_26 : kT Tryz.prog 26 = 5 := by kernel_rfl
theorem elT_26 : elT Tryz.prog 26 = some (23, 480) := by kernel_rfl
theorem szT_81 : szT Tryz.prog 81 = some 23 := by kernel_rfl
theorem aggB_81 : aggB Tryz.prog 81 = true := by kernel_rfl
theorem zeroT_81 : zeroT Tryz.prog 81 = some [.string ⟨#[]⟩, .slice none 0 0, .int .i64 0, .string ⟨#[]⟩, .string ⟨#[]⟩, .slice none 0 0, .slice none 0 0, .slice none 0 0, .slice none 0 0, .string ⟨#[]⟩, .string ⟨#[]⟩, .slice none 0 0, .slice none 0 0, .slice none 0 0, .slice none 0 0, .string ⟨#[]⟩, .string ⟨#[]⟩, .slice none 0 0, .slice none 0 0, .slice none 0 0, .slice none 0 0, .slice none 0 0, .slice none 0 0] := by kernel_rfl
theorem fldT_81_3 : fldT Tryz.prog 81 3 = some (3, 6, true) := by kernel_rfl
theorem fldT_81_4 : fldT Tryz.prog 81 4 = some (9, 6, true) := by kernel_rfl
theorem fldT_81_5 : fldT Tryz.prog 81 5 = some (15, 6, true) := by kernel_rfl
theorem fldT_81_6 : fldT Tryz.prog 81 6 = some (21, 1, false) := by kernel_rfl
theorem fldT_81_7 : fldT Tryz.prog 81 7 = some (22, 1, false) := by kernel_rfl
theorem elT_44 : elT Tryz.prog 44 = some (6, 72) := by kernel_rfl
theorem elZ_44 : elZ Tryz.prog 44 = some [.int .i64 0, .int .i64 0, .int .i64 0, .int .i64 0, .string ⟨#[]⟩, .slice none 0 0] := by kernel_rfl
theorem fldT_79_2 : fldT Tryz.prog 79 2 = some (2, 1, false) := by kernel_rfl
theorem szT_3 : szT Tryz.prog 3 = some 1 := by kernel_rfl
theorem aggB_3 : aggB Tryz.prog 3 = false := by kernel_rfl
theorem kT_58 : kT Tryz.prog 58 = 5 := by kernel_rfl
theorem elT_58 : elT Tryz.prog 58 = some (15, 288) := by kernel_rfl
theorem fldT_87_0 : fldT Tryz.prog 87 0 = some (0, 1, false) := by kernel_rfl
theorem hb_43 : hasBody Tryz.prog 43 = true := by kernel_rfl
theorem elT_23 : elT Tryz.prog 23 = some (2, 40) := by kernel_rfl
theorem fldT_90_0 : fldT Tryz.prog 90 0 = some (0, 1, false) := by kernel_rfl
theorem fldT_90_1 : fldT Tryz.prog 90 1 = some (1, 1, false) := by kernel_rfl
theorem elT_24 : elT Tryz.prog 24 = some (4, 56) := by kernel_rfl
theorem szT_92 : szT Tryz.prog 92 = some 4 := by kernel_rfl
theorem aggB_92 : aggB Tryz.prog 92 = true := by kernel_rfl
theorem zeroT_92 : zeroT Tryz.prog 92 = some [.string ⟨#[]⟩, .slice none 0 0, .int .i64 0, .int .i64 0] := by kernel_rfl
theorem fldT_92_0 : fldT Tryz.prog 92 0 = some (0, 1, false) := by kernel_rfl
theorem fldT_92_2 : fldT Tryz.prog 92 2 = some (2, 1, false) := by kernel_rfl
theorem fldT_92_3 : fldT Tryz.prog 92 3 = some (3, 1, false) := by kernel_rfl
theorem fldT_92_1 : fldT Tryz.prog 92 1 = some (1, 1, false) := by kernel_rfl
theorem szT_79 : szT Tryz.prog 79 = some 10 := by kernel_rfl
theorem aggB_79 : aggB Tryz.prog 79 = true := by kernel_rfl
theorem hb_44 : hasBody Tryz.prog 44 = true := by kernel_rfl
theorem hb_45 : hasBody Tryz.prog 45 = true := by kernel_rfl
theorem hb_47 : hasBody Tryz.prog 47 = true := by kernel_rfl
theorem hb_49 : hasBody Tryz.prog 49 = true := by kernel_rfl
theorem hb_50 : hasBody Tryz.prog 50 = true := by kernel_rfl
theorem hb_51 : hasBody Tryz.prog 51 = true := by kernel_rfl
theorem hb_53 : hasBody Tryz.prog 53 = true := by kernel_rfl
theorem zeroT_65 : zeroT Tryz.prog 65 = some [.nilFunc] := by kernel_rfl
theorem szT_65 : szT Tryz.prog 65 = some 1 := by kernel_rfl
theorem aggB_65 : aggB Tryz.prog 65 = false := by kernel_rfl
theorem fldT_41_2 : fldT Tryz.prog 41 2 = some (2, 1, false) := by kernel_rfl
theorem fldT_41_3 : fldT Tryz.prog 41 3 = some (3, 1, false) := by kernel_rfl
theorem szT_33 : szT Tryz.prog 33 = some 1 := by kernel_rfl
theorem aggB_33 : aggB Tryz.prog 33 = false := by kernel_rfl
theorem kT_33 : kT Tryz.prog 33 = 5 := by kernel_rfl
theorem fldT_41_4 : fldT Tryz.prog 41 4 = some (4, 1, false) := by kernel_rfl
theorem szT_34 : szT Tryz.prog 34 = some 1 := by kernel_rfl
theorem aggB_34 : aggB Tryz.prog 34 = false := by kernel_rfl
theorem kT_34 : kT Tryz.prog 34 = 5 := by kernel_rfl
theorem elT_33 : elT Tryz.prog 33 = some (2, 40) := by kernel_rfl
theorem fldT_111_1 : fldT Tryz.prog 111 1 = some (1, 1, false) := by kernel_rfl
theorem szT_35 : szT Tryz.prog 35 = some 1 := by kernel_rfl
theorem aggB_35 : aggB Tryz.prog 35 = false := by kernel_rfl
theorem kT_35 : kT Tryz.prog 35 = 5 := by kernel_rfl
theorem elT_34 : elT Tryz.prog 34 = some (3, 48) := by kernel_rfl
theorem fldT_113_0 : fldT Tryz.prog 113 0 = some (0, 2, true) := by kernel_rfl
theorem fldT_41_1 : fldT Tryz.prog 41 1 = some (1, 1, false) := by kernel_rfl
theorem fldT_111_0 : fldT Tryz.prog 111 0 = some (0, 1, false) := by kernel_rfl
theorem hb_68 : hasBody Tryz.prog 68 = true := by kernel_rfl
theorem hb_73 : hasBody Tryz.prog 73 = true := by kernel_rfl
theorem kT_124 : kT Tryz.prog 124 = 8 := by kernel_rfl
theorem zeroT_124 : zeroT Tryz.prog 124 = some [.bool false] := by kernel_rfl
theorem fieldsT_124 : fieldsT Tryz.prog 124 = some [(0, 1)] := by kernel_rfl
theorem szT_90 : szT Tryz.prog 90 = some 2 := by kernel_rfl
theorem aggB_90 : aggB Tryz.prog 90 = true := by kernel_rfl
theorem zeroT_90 : zeroT Tryz.prog 90 = some [.string ⟨#[]⟩, .slice none 0 0] := by kernel_rfl
theorem kT_44 : kT Tryz.prog 44 = 5 := by kernel_rfl
theorem zeroT_79 : zeroT Tryz.prog 79 = some [.string ⟨#[]⟩, .slice none 0 0, .int .i64 0, .string ⟨#[]⟩, .string ⟨#[]⟩, .slice none 0 0, .slice none 0 0, .slice none 0 0, .slice none 0 0, .slice none 0 0] := by kernel_rfl
theorem fldT_46_5 : fldT Tryz.prog 46 5 = some (5, 1, false) := by kernel_rfl
theorem szT_44 : szT Tryz.prog 44 = some 1 := by kernel_rfl
theorem aggB_44 : aggB Tryz.prog 44 = false := by kernel_rfl
theorem fldT_124_0 : fldT Tryz.prog 124 0 = some (0, 1, false) := by kernel_rfl
theorem szT_4 : szT Tryz.prog 4 = some 1 := by kernel_rfl
theorem aggB_4 : aggB Tryz.prog 4 = false := by kernel_rfl
theorem kT_55 : kT Tryz.prog 55 = 2 := by kernel_rfl
theorem fldT_46_0 : fldT Tryz.prog 46 0 = some (0, 1, false) := by kernel_rfl
theorem fldT_46_1 : fldT Tryz.prog 46 1 = some (1, 1, false) := by kernel_rfl
theorem fldT_46_4 : fldT Tryz.prog 46 4 = some (4, 1, false) := by kernel_rfl
theorem fldT_46_2 : fldT Tryz.prog 46 2 = some (2, 1, false) := by kernel_rfl
theorem fldT_46_3 : fldT Tryz.prog 46 3 = some (3, 1, false) := by kernel_rfl
theorem szT_111 : szT Tryz.prog 111 = some 2 := by kernel_rfl
theorem aggB_111 : aggB Tryz.prog 111 = true := by kernel_rfl
theorem zeroT_111 : zeroT Tryz.prog 111 = some [.string ⟨#[]⟩, .slice none 0 0] := by kernel_rfl
theorem szT_113 : szT Tryz.prog 113 = some 3 := by kernel_rfl
theorem aggB_113 : aggB Tryz.prog 113 = true := by kernel_rfl
theorem zeroT_113 : zeroT Tryz.prog 113 = some [.string ⟨#[]⟩, .slice none 0 0, .int .i64 0] := by kernel_rfl
theorem fldT_113_1 : fldT Tryz.prog 113 1 = some (2, 1, false) := by kernel_rfl
theorem fldT_39_5 : fldT Tryz.prog 39 5 = some (5, 1, false) := by kernel_rfl
theorem szT_37 : szT Tryz.prog 37 = some 1 := by kernel_rfl
theorem aggB_37 : aggB Tryz.prog 37 = false := by kernel_rfl
theorem kT_37 : kT Tryz.prog 37 = 5 := by kernel_rfl
theorem fldT_87_1 : fldT Tryz.prog 87 1 = some (1, 1, false) := by kernel_rfl
theorem fldT_87_4 : fldT Tryz.prog 87 4 = some (9, 1, false) := by kernel_rfl
theorem fldT_87_2 : fldT Tryz.prog 87 2 = some (2, 6, true) := by kernel_rfl
theorem fldT_87_5 : fldT Tryz.prog 87 5 = some (10, 5, true) := by kernel_rfl
theorem szT_85 : szT Tryz.prog 85 = some 5 := by kernel_rfl
theorem aggB_85 : aggB Tryz.prog 85 = true := by kernel_rfl
theorem hb_97 : hasBody Tryz.prog 97 = true := by kernel_rfl
theorem kT_143 : kT Tryz.prog 143 = 8 := by kernel_rfl
theorem zeroT_143 : zeroT Tryz.prog 143 = some [.slice none 0 0, .slice none 0 0] := by kernel_rfl
theorem fieldsT_143 : fieldsT Tryz.prog 143 = some [(0, 1), (1, 1)] := by kernel_rfl
theorem szT_87 : szT Tryz.prog 87 = some 15 := by kernel_rfl
theorem aggB_87 : aggB Tryz.prog 87 = true := by kernel_rfl
theorem zeroT_87 : zeroT Tryz.prog 87 = some [.int .i64 0, .slice none 0 0, .string ⟨#[]⟩, .string ⟨#[]⟩, .slice none 0 0, .slice none 0 0, .slice none 0 0, .slice none 0 0, .string ⟨#[]⟩, .slice none 0 0, .string ⟨#[]⟩, .string ⟨#[]⟩, .int .i64 0, .slice none 0 0, .slice none 0 0] := by kernel_rfl
theorem fldT_87_3 : fldT Tryz.prog 87 3 = some (8, 1, false) := by kernel_rfl
theorem hb_102 : hasBody Tryz.prog 102 = true := by kernel_rfl
theorem hb_103 : hasBody Tryz.prog 103 = true := by kernel_rfl
theorem kT_28 : kT Tryz.prog 28 = 8 := by kernel_rfl
theorem fieldsT_28 : fieldsT Tryz.prog 28 = some [(0, 1), (1, 1), (2, 1), (3, 1), (4, 1), (5, 1), (6, 1)] := by kernel_rfl
theorem elT_35 : elT Tryz.prog 35 = some (1, 16) := by kernel_rfl
theorem elZ_35 : elZ Tryz.prog 35 = some [.string ⟨#[]⟩] := by kernel_rfl
theorem mapT_148 : mapT Tryz.prog 148 = some (3, (.bool false)) := by kernel_rfl
theorem kT_5 : kT Tryz.prog 5 = 2 := by kernel_rfl
theorem zvT_55 : zvT Tryz.prog 55 = some (.int .i64 0) := by kernel_rfl
theorem kT_41 : kT Tryz.prog 41 = 8 := by kernel_rfl
theorem fieldsT_41 : fieldsT Tryz.prog 41 = some [(0, 1), (1, 1), (2, 1), (3, 1), (4, 1), (5, 6)] := by kernel_rfl
theorem kT_39 : kT Tryz.prog 39 = 8 := by kernel_rfl
theorem zeroT_39 : zeroT Tryz.prog 39 = some [.string ⟨#[]⟩, .string ⟨#[]⟩, .slice none 0 0, .slice none 0 0, .slice none 0 0, .slice none 0 0] := by kernel_rfl
theorem fieldsT_39 : fieldsT Tryz.prog 39 = some [(0, 1), (1, 1), (2, 1), (3, 1), (4, 1), (5, 1)] := by kernel_rfl
theorem fldT_39_4 : fldT Tryz.prog 39 4 = some (4, 1, false) := by kernel_rfl
theorem szT_36 : szT Tryz.prog 36 = some 1 := by kernel_rfl
theorem aggB_36 : aggB Tryz.prog 36 = false := by kernel_rfl
theorem kT_36 : kT Tryz.prog 36 = 5 := by kernel_rfl
theorem elT_36 : elT Tryz.prog 36 = some (5, 88) := by kernel_rfl
theorem elT_37 : elT Tryz.prog 37 = some (6, 128) := by kernel_rfl
theorem elT_22 : elT Tryz.prog 22 = some (2, 32) := by kernel_rfl
theorem szT_96 : szT Tryz.prog 96 = some 2 := by kernel_rfl
theorem aggB_96 : aggB Tryz.prog 96 = true := by kernel_rfl
theorem kT_96 : kT Tryz.prog 96 = 8 := by kernel_rfl
theorem strsT_96 : strsT Tryz.prog 96 = some 2 := by kernel_rfl
theorem fldT_79_0 : fldT Tryz.prog 79 0 = some (0, 1, false) := by kernel_rfl
theorem fldT_79_1 : fldT Tryz.prog 79 1 = some (1, 1, false) := by kernel_rfl
theorem fldT_81_0 : fldT Tryz.prog 81 0 = some (0, 1, false) := by kernel_rfl
theorem fldT_81_2 : fldT Tryz.prog 81 2 = some (2, 1, false) := by kernel_rfl
theorem fldT_81_1 : fldT Tryz.prog 81 1 = some (1, 1, false) := by kernel_rfl
theorem hb_115 : hasBody Tryz.prog 115 = true := by kernel_rfl
theorem kT_111 : kT Tryz.prog 111 = 8 := by kernel_rfl
theorem fieldsT_111 : fieldsT Tryz.prog 111 = some [(0, 1), (1, 1)] := by kernel_rfl
theorem elZ_33 : elZ Tryz.prog 33 = some [.string ⟨#[]⟩, .slice none 0 0] := by kernel_rfl
theorem fldT_39_1 : fldT Tryz.prog 39 1 = some (1, 1, false) := by kernel_rfl
theorem fldT_39_2 : fldT Tryz.prog 39 2 = some (2, 1, false) := by kernel_rfl
theorem hb_125 : hasBody Tryz.prog 125 = true := by kernel_rfl
theorem fldT_39_3 : fldT Tryz.prog 39 3 = some (3, 1, false) := by kernel_rfl
theorem hb_126 : hasBody Tryz.prog 126 = true := by kernel_rfl
theorem hb_127 : hasBody Tryz.prog 127 = true := by kernel_rfl
theorem hb_129 : hasBody Tryz.prog 129 = true := by kernel_rfl
theorem zeroT_96 : zeroT Tryz.prog 96 = some [.string ⟨#[]⟩, .string ⟨#[]⟩] := by kernel_rfl
theorem fldT_96_0 : fldT Tryz.prog 96 0 = some (0, 1, false) := by kernel_rfl
theorem fldT_96_1 : fldT Tryz.prog 96 1 = some (1, 1, false) := by kernel_rfl
theorem zeroT_3 : zeroT Tryz.prog 3 = some [.int .i64 0] := by kernel_rfl
theorem fldT_85_4 : fldT Tryz.prog 85 4 = some (4, 1, false) := by kernel_rfl
theorem kT_85 : kT Tryz.prog 85 = 8 := by kernel_rfl
theorem zeroT_85 : zeroT Tryz.prog 85 = some [.string ⟨#[]⟩, .string ⟨#[]⟩, .int .i64 0, .slice none 0 0, .slice none 0 0] := by kernel_rfl
theorem fieldsT_85 : fieldsT Tryz.prog 85 = some [(0, 1), (1, 1), (2, 1), (3, 1), (4, 1)] := by kernel_rfl
theorem szT_143 : szT Tryz.prog 143 = some 2 := by kernel_rfl
theorem aggB_143 : aggB Tryz.prog 143 = true := by kernel_rfl
theorem elZ_58 : elZ Tryz.prog 58 = some [.int .i64 0, .slice none 0 0, .string ⟨#[]⟩, .string ⟨#[]⟩, .slice none 0 0, .slice none 0 0, .slice none 0 0, .slice none 0 0, .string ⟨#[]⟩, .slice none 0 0, .string ⟨#[]⟩, .string ⟨#[]⟩, .int .i64 0, .slice none 0 0, .slice none 0 0] := by kernel_rfl
theorem fldT_85_0 : fldT Tryz.prog 85 0 = some (0, 1, false) := by kernel_rfl
theorem fldT_85_1 : fldT Tryz.prog 85 1 = some (1, 1, false) := by kernel_rfl
theorem fldT_85_2 : fldT Tryz.prog 85 2 = some (2, 1, false) := by kernel_rfl
theorem fldT_85_3 : fldT Tryz.prog 85 3 = some (3, 1, false) := by kernel_rfl
theorem elZ_23 : elZ Tryz.prog 23 = some [.string ⟨#[]⟩, .slice none 0 0] := by kernel_rfl
theorem elZ_24 : elZ Tryz.prog 24 = some [.string ⟨#[]⟩, .slice none 0 0, .int .i64 0, .int .i64 0] := by kernel_rfl
theorem elZ_25 : elZ Tryz.prog 25 = some [.string ⟨#[]⟩, .slice none 0 0, .int .i64 0, .string ⟨#[]⟩, .string ⟨#[]⟩, .slice none 0 0, .slice none 0 0, .slice none 0 0, .slice none 0 0, .slice none 0 0] := by kernel_rfl
theorem elZ_26 : elZ Tryz.prog 26 = some [.string ⟨#[]⟩, .slice none 0 0, .int .i64 0, .string ⟨#[]⟩, .string ⟨#[]⟩, .slice none 0 0, .slice none 0 0, .slice none 0 0, .slice none 0 0, .string ⟨#[]⟩, .string ⟨#[]⟩, .slice none 0 0, .slice none 0 0, .slice none 0 0, .slice none 0 0, .string ⟨#[]⟩, .string ⟨#[]⟩, .slice none 0 0, .slice none 0 0, .slice none 0 0, .slice none 0 0, .slice none 0 0, .slice none 0 0] := by kernel_rfl
theorem kT_90 : kT Tryz.prog 90 = 8 := by kernel_rfl
theorem fieldsT_90 : fieldsT Tryz.prog 90 = some [(0, 1), (1, 1)] := by kernel_rfl
theorem kT_92 : kT Tryz.prog 92 = 8 := by kernel_rfl
theorem fieldsT_92 : fieldsT Tryz.prog 92 = some [(0, 1), (1, 1), (2, 1), (3, 1)] := by kernel_rfl
theorem zeroT_207 : zeroT Tryz.prog 207 = some [.string ⟨#[]⟩, .slice none 0 0, .int .i64 0, .slice none 0 0, .slice none 0 0] := by kernel_rfl
theorem szT_207 : szT Tryz.prog 207 = some 5 := by kernel_rfl
theorem aggB_207 : aggB Tryz.prog 207 = true := by kernel_rfl
theorem fldT_207_0 : fldT Tryz.prog 207 0 = some (0, 1, false) := by kernel_rfl
theorem fldT_207_1 : fldT Tryz.prog 207 1 = some (1, 1, false) := by kernel_rfl
theorem fldT_207_2 : fldT Tryz.prog 207 2 = some (2, 1, false) := by kernel_rfl
theorem fldT_207_3 : fldT Tryz.prog 207 3 = some (3, 1, false) := by kernel_rfl
theorem fldT_207_4 : fldT Tryz.prog 207 4 = some (4, 1, false) := by kernel_rfl
theorem szT_205 : szT Tryz.prog 205 = some 1 := by kernel_rfl
theorem aggB_205 : aggB Tryz.prog 205 = false := by kernel_rfl
theorem kT_205 : kT Tryz.prog 205 = 5 := by kernel_rfl
theorem elT_205 : elT Tryz.prog 205 = some (1, 24) := by kernel_rfl
theorem kT_79 : kT Tryz.prog 79 = 8 := by kernel_rfl
theorem fieldsT_79 : fieldsT Tryz.prog 79 = some [(0, 1), (1, 1), (2, 1), (3, 6), (9, 1)] := by kernel_rfl
theorem kT_81 : kT Tryz.prog 81 = 8 := by kernel_rfl
theorem fieldsT_81 : fieldsT Tryz.prog 81 = some [(0, 1), (1, 1), (2, 1), (3, 6), (9, 6), (15, 6), (21, 1), (22, 1)] := by kernel_rfl
theorem hb_183 : hasBody Tryz.prog 183 = true := by kernel_rfl
theorem intT_3 : intT Tryz.prog 3 = some .i64 := by kernel_rfl
theorem intT_219 : intT Tryz.prog 219 = some .u64 := by kernel_rfl
theorem kT_219 : kT Tryz.prog 219 = 2 := by kernel_rfl
theorem elT_262 : elT Tryz.prog 262 = some (1, 8) := by kernel_rfl
theorem elZ_262 : elZ Tryz.prog 262 = some [.int .i64 0] := by kernel_rfl
theorem kT_230 : kT Tryz.prog 230 = 8 := by kernel_rfl
theorem zeroT_230 : zeroT Tryz.prog 230 = some [.int .i64 0] := by kernel_rfl
theorem fieldsT_230 : fieldsT Tryz.prog 230 = some [(0, 1)] := by kernel_rfl
theorem fldT_143_1 : fldT Tryz.prog 143 1 = some (1, 1, false) := by kernel_rfl
theorem elZ_37 : elZ Tryz.prog 37 = some [.string ⟨#[]⟩, .string ⟨#[]⟩, .slice none 0 0, .slice none 0 0, .slice none 0 0, .slice none 0 0] := by kernel_rfl
theorem fldT_143_0 : fldT Tryz.prog 143 0 = some (0, 1, false) := by kernel_rfl
theorem kT_87 : kT Tryz.prog 87 = 8 := by kernel_rfl
theorem fieldsT_87 : fieldsT Tryz.prog 87 = some [(0, 1), (1, 1), (2, 6), (8, 1), (9, 1), (10, 5)] := by kernel_rfl
theorem fieldsT_96 : fieldsT Tryz.prog 96 = some [(0, 1), (1, 1)] := by kernel_rfl
theorem elZ_22 : elZ Tryz.prog 22 = some [.string ⟨#[]⟩, .string ⟨#[]⟩] := by kernel_rfl
theorem elZ_205 : elZ Tryz.prog 205 = some [.slice none 0 0] := by kernel_rfl
theorem kT_207 : kT Tryz.prog 207 = 8 := by kernel_rfl
theorem fieldsT_207 : fieldsT Tryz.prog 207 = some [(0, 1), (1, 1), (2, 1), (3, 1), (4, 1)] := by kernel_rfl
theorem kT_113 : kT Tryz.prog 113 = 8 := by kernel_rfl
theorem fieldsT_113 : fieldsT Tryz.prog 113 = some [(0, 2), (2, 1)] := by kernel_rfl
theorem elZ_34 : elZ Tryz.prog 34 = some [.string ⟨#[]⟩, .slice none 0 0, .int .i64 0] := by kernel_rfl
theorem elZ_36 : elZ Tryz.prog 36 = some [.string ⟨#[]⟩, .string ⟨#[]⟩, .int .i64 0, .slice none 0 0, .slice none 0 0] := by kernel_rfl
theorem kT_251 : kT Tryz.prog 251 = 2 := by kernel_rfl
theorem intT_259 : intT Tryz.prog 259 = some .u32 := by kernel_rfl
theorem kT_259 : kT Tryz.prog 259 = 2 := by kernel_rfl
theorem kT_262 : kT Tryz.prog 262 = 5 := by kernel_rfl
theorem intT_9 : intT Tryz.prog 9 = none := by kernel_rfl
theorem intT_263 : intT Tryz.prog 263 = none := by kernel_rfl
theorem kT_263 : kT Tryz.prog 263 = 5 := by kernel_rfl
theorem u8T_263 : u8T Tryz.prog 263 = true := by kernel_rfl
theorem elT_263 : elT Tryz.prog 263 = some (1, 1) := by kernel_rfl
theorem szT_5 : szT Tryz.prog 5 = some 1 := by kernel_rfl
theorem aggB_5 : aggB Tryz.prog 5 = false := by kernel_rfl
theorem intT_278 : intT Tryz.prog 278 = some .u64 := by kernel_rfl
theorem kT_278 : kT Tryz.prog 278 = 2 := by kernel_rfl
theorem zeroT_278 : zeroT Tryz.prog 278 = some [.int .u64 0] := by kernel_rfl
theorem szT_278 : szT Tryz.prog 278 = some 1 := by kernel_rfl
theorem aggB_278 : aggB Tryz.prog 278 = false := by kernel_rfl
theorem intT_5 : intT Tryz.prog 5 = some .u8 := by kernel_rfl
theorem kT_261 : kT Tryz.prog 261 = 2 := by kernel_rfl
theorem intT_261 : intT Tryz.prog 261 = some .u64 := by kernel_rfl
theorem fldT_230_0 : fldT Tryz.prog 230 0 = some (0, 1, false) := by kernel_rfl
theorem kT_290 : kT Tryz.prog 290 = 8 := by kernel_rfl
theorem zeroT_290 : zeroT Tryz.prog 290 = some [.slice none 0 0, .slice none 0 0] := by kernel_rfl
theorem fieldsT_290 : fieldsT Tryz.prog 290 = some [(0, 1), (1, 1)] := by kernel_rfl
theorem szT_290 : szT Tryz.prog 290 = some 2 := by kernel_rfl
theorem aggB_290 : aggB Tryz.prog 290 = true := by kernel_rfl
theorem fldT_290_1 : fldT Tryz.prog 290 1 = some (1, 1, false) := by kernel_rfl
theorem fldT_290_0 : fldT Tryz.prog 290 0 = some (0, 1, false) := by kernel_rfl
theorem hb_3 : hasBody Tryz.prog 3 = true := by kernel_rfl
theorem hb_46 : hasBody Tryz.prog 46 = true := by kernel_rfl
theorem hb_48 : hasBody Tryz.prog 48 = true := by kernel_rfl
theorem hb_52 : hasBody Tryz.prog 52 = true := by kernel_rfl
theorem hb_54 : hasBody Tryz.prog 54 = true := by kernel_rfl
theorem hb_116 : hasBody Tryz.prog 116 = true := by kernel_rfl
theorem hb_128 : hasBody Tryz.prog 128 = true := by kernel_rfl
set_option maxRecDepth 20000
theorem all : type_of% (And.intro szT_28 (And.intro aggB_28 (And.intro kT_4 (And.intro szT_41 (And.intro aggB_41 (And.intro zeroT_46 (And.intro szT_46 (And.intro aggB_46 (And.intro kT_46 (And.intro fieldsT_46 (And.intro kT_48 (And.intro kT_3 (And.intro zeroT_28 (And.intro zeroT_41 (And.intro fldT_28_0 (And.intro szT_9 (And.intro aggB_9 (And.intro kT_9 (And.intro fldT_41_0 (And.intro fldT_41_5 (And.intro fldT_39_0 (And.intro fldT_28_1 (And.intro szT_22 (And.intro aggB_22 (And.intro kT_22 (And.intro fldT_28_2 (And.intro fldT_28_3 (And.intro szT_23 (And.intro aggB_23 (And.intro kT_23 (And.intro fldT_28_4 (And.intro szT_24 (And.intro aggB_24 (And.intro kT_24 (And.intro fldT_28_5 (And.intro szT_25 (And.intro aggB_25 (And.intro kT_25 (And.intro elT_25 (And.intro fldT_79_3 (And.intro szT_39 (And.intro aggB_39 (And.intro fldT_79_4 (And.intro szT_58 (And.intro aggB_58 (And.intro fldT_28_6 (And.intro szT_26 (And.intro aggB_26 (And.intro kT_26 (And.intro elT_26 (And.intro szT_81 (And.intro aggB_81 (And.intro zeroT_81 (And.intro fldT_81_3 (And.intro fldT_81_4 (And.intro fldT_81_5 (And.intro fldT_81_6 (And.intro fldT_81_7 (And.intro elT_44 (And.intro elZ_44 (And.intro fldT_79_2 (And.intro szT_3 (And.intro aggB_3 (And.intro kT_58 (And.intro elT_58 (And.intro fldT_87_0 (And.intro elT_23 (And.intro fldT_90_0 (And.intro fldT_90_1 (And.intro elT_24 (And.intro szT_92 (And.intro aggB_92 (And.intro zeroT_92 (And.intro fldT_92_0 (And.intro fldT_92_2 (And.intro fldT_92_3 (And.intro fldT_92_1 (And.intro szT_79 (And.intro aggB_79 (And.intro zeroT_65 (And.intro szT_65 (And.intro aggB_65 (And.intro fldT_41_2 (And.intro fldT_41_3 (And.intro szT_33 (And.intro aggB_33 (And.intro kT_33 (And.intro fldT_41_4 (And.intro szT_34 (And.intro aggB_34 (And.intro kT_34 (And.intro elT_33 (And.intro fldT_111_1 (And.intro szT_35 (And.intro aggB_35 (And.intro kT_35 (And.intro elT_34 (And.intro fldT_113_0 (And.intro fldT_41_1 (And.intro fldT_111_0 (And.intro kT_124 (And.intro zeroT_124 (And.intro fieldsT_124 (And.intro szT_90 (And.intro aggB_90 (And.intro zeroT_90 (And.intro kT_44 (And.intro zeroT_79 (And.intro fldT_46_5 (And.intro szT_44 (And.intro aggB_44 (And.intro fldT_124_0 (And.intro szT_4 (And.intro aggB_4 (And.intro kT_55 (And.intro fldT_46_0 (And.intro fldT_46_1 (And.intro fldT_46_4 (And.intro fldT_46_2 (And.intro fldT_46_3 (And.intro szT_111 (And.intro aggB_111 (And.intro zeroT_111 (And.intro szT_113 (And.intro aggB_113 (And.intro zeroT_113 (And.intro fldT_113_1 (And.intro fldT_39_5 (And.intro szT_37 (And.intro aggB_37 (And.intro kT_37 (And.intro fldT_87_1 (And.intro fldT_87_4 (And.intro fldT_87_2 (And.intro fldT_87_5 (And.intro szT_85 (And.intro aggB_85 (And.intro kT_143 (And.intro zeroT_143 (And.intro fieldsT_143 (And.intro szT_87 (And.intro aggB_87 (And.intro zeroT_87 (And.intro fldT_87_3 (And.intro kT_28 (And.intro fieldsT_28 (And.intro elT_35 (And.intro elZ_35 (And.intro mapT_148 (And.intro kT_5 (And.intro zvT_55 (And.intro kT_41 (And.intro fieldsT_41 (And.intro kT_39 (And.intro zeroT_39 (And.intro fieldsT_39 (And.intro fldT_39_4 (And.intro szT_36 (And.intro aggB_36 (And.intro kT_36 (And.intro elT_36 (And.intro elT_37 (And.intro elT_22 (And.intro szT_96 (And.intro aggB_96 (And.intro kT_96 (And.intro strsT_96 (And.intro fldT_79_0 (And.intro fldT_79_1 (And.intro fldT_81_0 (And.intro fldT_81_2 (And.intro fldT_81_1 (And.intro kT_111 (And.intro fieldsT_111 (And.intro elZ_33 (And.intro fldT_39_1 (And.intro fldT_39_2 (And.intro fldT_39_3 (And.intro zeroT_96 (And.intro fldT_96_0 (And.intro fldT_96_1 (And.intro zeroT_3 (And.intro fldT_85_4 (And.intro kT_85 (And.intro zeroT_85 (And.intro fieldsT_85 (And.intro szT_143 (And.intro aggB_143 (And.intro elZ_58 (And.intro fldT_85_0 (And.intro fldT_85_1 (And.intro fldT_85_2 (And.intro fldT_85_3 (And.intro elZ_23 (And.intro elZ_24 (And.intro elZ_25 (And.intro elZ_26 (And.intro kT_90 (And.intro fieldsT_90 (And.intro kT_92 (And.intro fieldsT_92 (And.intro zeroT_207 (And.intro szT_207 (And.intro aggB_207 (And.intro fldT_207_0 (And.intro fldT_207_1 (And.intro fldT_207_2 (And.intro fldT_207_3 (And.intro fldT_207_4 (And.intro szT_205 (And.intro aggB_205 (And.intro kT_205 (And.intro elT_205 (And.intro kT_79 (And.intro fieldsT_79 (And.intro kT_81 (And.intro fieldsT_81 (And.intro intT_3 (And.intro intT_219 (And.intro kT_219 (And.intro elT_262 (And.intro elZ_262 (And.intro kT_230 (And.intro zeroT_230 (And.intro fieldsT_230 (And.intro fldT_143_1 (And.intro elZ_37 (And.intro fldT_143_0 (And.intro kT_87 (And.intro fieldsT_87 (And.intro fieldsT_96 (And.intro elZ_22 (And.intro elZ_205 (And.intro kT_207 (And.intro fieldsT_207 (And.intro kT_113 (And.intro fieldsT_113 (And.intro elZ_34 (And.intro elZ_36 (And.intro kT_251 (And.intro intT_259 (And.intro kT_259 (And.intro kT_262 (And.intro intT_9 (And.intro intT_263 (And.intro kT_263 (And.intro u8T_263 (And.intro elT_263 (And.intro szT_5 (And.intro aggB_5 (And.intro intT_278 (And.intro kT_278 (And.intro zeroT_278 (And.intro szT_278 (And.intro aggB_278 (And.intro intT_5 (And.intro kT_261 (And.intro intT_261 (And.intro fldT_230_0 (And.intro kT_290 (And.intro zeroT_290 (And.intro fieldsT_290 (And.intro szT_290 (And.intro aggB_290 (And.intro fldT_290_1 (fldT_290_0)))))))))))))))))))))))))))))))))))))))))))))))))))))))))))))))))))))))))))))))))))))))))))))))))))))))))))))))))))))))))))))))))))))))))))))))))))))))))))))))))))))))))))))))))))))))))))))))))))))))))))))))))))))))))))))))))))))))))))))))))))))))))))))))))))))))))) := And.intro szT_28 (And.intro aggB_28 (And.intro kT_4 (And.intro szT_41 (And.intro aggB_41 (And.intro zeroT_46 (And.intro szT_46 (And.intro aggB_46 (And.intro kT_46 (And.intro fieldsT_46 (And.intro kT_48 (And.intro kT_3 (And.intro zeroT_28 (And.intro zeroT_41 (And.intro fldT_28_0 (And.intro szT_9 (And.intro aggB_9 (And.intro kT_9 (And.intro fldT_41_0 (And.intro fldT_41_5 (And.intro fldT_39_0 (And.intro fldT_28_1 (And.intro szT_22 (And.intro aggB_22 (And.intro kT_22 (And.intro fldT_28_2 (And.intro fldT_28_3 (And.intro szT_23 (And.intro aggB_23 (And.intro kT_23 (And.intro fldT_28_4 (And.intro szT_24 (And.intro aggB_24 (And.intro kT_24 (And.intro fldT_28_5 (And.intro szT_25 (And.intro aggB_25 (And.intro kT_25 (And.intro elT_25 (And.intro fldT_79_3 (And.intro szT_39 (And.intro aggB_39 (And.intro fldT_79_4 (And.intro szT_58 (And.intro aggB_58 (And.intro fldT_28_6 (And.intro szT_26 (And.intro aggB_26 (And.intro kT_26 (And.intro elT_26 (And.intro szT_81 (And.intro aggB_81 (And.intro zeroT_81 (And.intro fldT_81_3 (And.intro fldT_81_4 (And.intro fldT_81_5 (And.intro fldT_81_6 (And.intro fldT_81_7 (And.intro elT_44 (And.intro elZ_44 (And.intro fldT_79_2 (And.intro szT_3 (And.intro aggB_3 (And.intro kT_58 (And.intro elT_58 (And.intro fldT_87_0 (And.intro elT_23 (And.intro fldT_90_0 (And.intro fldT_90_1 (And.intro elT_24 (And.intro szT_92 (And.intro aggB_92 (And.intro zeroT_92 (And.intro fldT_92_0 (And.intro fldT_92_2 (And.intro fldT_92_3 (And.intro fldT_92_1 (And.intro szT_79 (And.intro aggB_79 (And.intro zeroT_65 (And.intro szT_65 (And.intro aggB_65 (And.intro fldT_41_2 (And.intro fldT_41_3 (And.intro szT_33 (And.intro aggB_33 (And.intro kT_33 (And.intro fldT_41_4 (And.intro szT_34 (And.intro aggB_34 (And.intro kT_34 (And.intro elT_33 (And.intro fldT_111_1 (And.intro szT_35 (And.intro aggB_35 (And.intro kT_35 (And.intro elT_34 (And.intro fldT_113_0 (And.intro fldT_41_1 (And.intro fldT_111_0 (And.intro kT_124 (And.intro zeroT_124 (And.intro fieldsT_124 (And.intro szT_90 (And.intro aggB_90 (And.intro zeroT_90 (And.intro kT_44 (And.intro zeroT_79 (And.intro fldT_46_5 (And.intro szT_44 (And.intro aggB_44 (And.intro fldT_124_0 (And.intro szT_4 (And.intro aggB_4 (And.intro kT_55 (And.intro fldT_46_0 (And.intro fldT_46_1 (And.intro fldT_46_4 (And.intro fldT_46_2 (And.intro fldT_46_3 (And.intro szT_111 (And.intro aggB_111 (And.intro zeroT_111 (And.intro szT_113 (And.intro aggB_113 (And.intro zeroT_113 (And.intro fldT_113_1 (And.intro fldT_39_5 (And.intro szT_37 (And.intro aggB_37 (And.intro kT_37 (And.intro fldT_87_1 (And.intro fldT_87_4 (And.intro fldT_87_2 (And.intro fldT_87_5 (And.intro szT_85 (And.intro aggB_85 (And.intro kT_143 (And.intro zeroT_143 (And.intro fieldsT_143 (And.intro szT_87 (And.intro aggB_87 (And.intro zeroT_87 (And.intro fldT_87_3 (And.intro kT_28 (And.intro fieldsT_28 (And.intro elT_35 (And.intro elZ_35 (And.intro mapT_148 (And.intro kT_5 (And.intro zvT_55 (And.intro kT_41 (And.intro fieldsT_41 (And.intro kT_39 (And.intro zeroT_39 (And.intro fieldsT_39 (And.intro fldT_39_4 (And.intro szT_36 (And.intro aggB_36 (And.intro kT_36 (And.intro elT_36 (And.intro elT_37 (And.intro elT_22 (And.intro szT_96 (And.intro aggB_96 (And.intro kT_96 (And.intro strsT_96 (And.intro fldT_79_0 (And.intro fldT_79_1 (And.intro fldT_81_0 (And.intro fldT_81_2 (And.intro fldT_81_1 (And.intro kT_111 (And.intro fieldsT_111 (And.intro elZ_33 (And.intro fldT_39_1 (And.intro fldT_39_2 (And.intro fldT_39_3 (And.intro zeroT_96 (And.intro fldT_96_0 (And.intro fldT_96_1 (And.intro zeroT_3 (And.intro fldT_85_4 (And.intro kT_85 (And.intro zeroT_85 (And.intro fieldsT_85 (And.intro szT_143 (And.intro aggB_143 (And.intro elZ_58 (And.intro fldT_85_0 (And.intro fldT_85_1 (And.intro fldT_85_2 (And.intro fldT_85_3 (And.intro elZ_23 (And.intro elZ_24 (And.intro elZ_25 (And.intro elZ_26 (And.intro kT_90 (And.intro fieldsT_90 (And.intro kT_92 (And.intro fieldsT_92 (And.intro zeroT_207 (And.intro szT_207 (And.intro aggB_207 (And.intro fldT_207_0 (And.intro fldT_207_1 (And.intro fldT_207_2 (And.intro fldT_207_3 (And.intro fldT_207_4 (And.intro szT_205 (And.intro aggB_205 (And.intro kT_205 (And.intro elT_205 (And.intro kT_79 (And.intro fieldsT_79 (And.intro kT_81 (And.intro fieldsT_81 (And.intro intT_3 (And.intro intT_219 (And.intro kT_219 (And.intro elT_262 (And.intro elZ_262 (And.intro kT_230 (And.intro zeroT_230 (And.intro fieldsT_230 (And.intro fldT_143_1 (And.intro elZ_37 (And.intro fldT_143_0 (And.intro kT_87 (And.intro fieldsT_87 (And.intro fieldsT_96 (And.intro elZ_22 (And.intro elZ_205 (And.intro kT_207 (And.intro fieldsT_207 (And.intro kT_113 (And.intro fieldsT_113 (And.intro elZ_34 (And.intro elZ_36 (And.intro kT_251 (And.intro intT_259 (And.intro kT_259 (And.intro kT_262 (And.intro intT_9 (And.intro intT_263 (And.intro kT_263 (And.intro u8T_263 (And.intro elT_263 (And.intro szT_5 (And.intro aggB_5 (And.intro intT_278 (And.intro kT_278 (And.intro zeroT_278 (And.intro szT_278 (And.intro aggB_278 (And.intro intT_5 (And.intro kT_261 (And.intro intT_261 (And.intro fldT_230_0 (And.intro kT_290 (And.intro zeroT_290 (And.intro fieldsT_290 (And.intro szT_290 (And.intro aggB_290 (And.intro fldT_290_1 (fldT_290_0)))))))))))))))))))))))))))))))))))))))))))))))))))))))))))))))))))))))))))))))))))))))))))))))))))))))))))))))))))))))))))))))))))))))))))))))))))))))))))))))))))))))))))))))))))))))))))))))))))))))))))))))))))))))))))))))))))))))))))))))))))))))))))))))))))))))))
theorem w : type_of% (And.intro @w0 @all) := And.intro @w0 @all
end Ty
end Go.Proofs.YtikhonogkpboaaaGreat
namespace Go.Proofs.YtikhonogkpboaaaGreat
open Go.AM
set_option maxHeartbeats 2000000
set_option maxRecDepth 20000
def words : List ByteArray := [⟨#[97, 110, 100]⟩, ⟨#[111, 114]⟩, ⟨#[110, 111, 116]⟩, ⟨#[105, 109, 112, 108, 121]⟩, ⟨#[102, 111, 114, 97, 108, 108]⟩, ⟨#[101, 120, 105, 115, 116, 115]⟩, ⟨#[119, 104, 101, 110]⟩, ⟨#[97, 115, 115, 105, 103, 110]⟩, ⟨#[105, 110, 99, 114, 101, 97, 115, 101]⟩, ⟨#[100, 101, 99, 114, 101, 97, 115, 101]⟩, ⟨#[111, 98, 106, 101, 99, 116]⟩]
theorem strRows_get {l : List ByteArray} {i : Nat} {w : ByteArray} (h : l[i]? = some w) : (strRows l)[i]? = some [sPV w] := by simp [strRows, h]
theorem strRows_len (l : List ByteArray) : (strRows l).length = l.length := by simp [strRows]
end Go.Proofs.YtikhonogkpboaaaGreat
namespace Go.Proofs.YtikhonogkpboaaaGreat
open Go.AM
set_option maxHeartbeats 2000000
set_option maxRecDepth 20000
theorem drop_of_get {α : Type} {l : List α} {k : Nat} {a : α} (h : l[k]? = some a) : l.drop k = a :: l.drop (k + 1) := by
  obtain ⟨hl, rfl⟩ := List.getElem?_eq_some_iff.1 h
  exact List.drop_eq_getElem_cons hl
theorem bsEq_len : ∀ {l m : List ByteArray}, ¬ l.length = m.length → bsEq l m = false
  | [], [], h => by simp at h
  | [], _ :: _, _ => rfl
  | _ :: _, [], _ => rfl
  | a :: l, b :: m, h => by simp only [bsEq, bsEq_len (l := l) (m := m) (by simpa using h), Bool.and_false]
theorem pmsEq_len : ∀ {l m : List Pm}, ¬ l.length = m.length → pmsEq l m = false
  | [], [], h => by simp at h
  | [], _ :: _, _ => rfl
  | _ :: _, [], _ => rfl
  | a :: l, b :: m, h => by simp only [pmsEq, pmsEq_len (l := l) (m := m) (by simpa using h), Bool.and_false]
theorem ftexts_c {h : Heap} {l m : List ByteArray} (hl : l.length ≤ bigN) (hm : m.length ≤ bigN) : PCall Tryz.prog 126 [.imm 1 (strRows l), .imm 1 (strRows m)] h fun r h' => r = .sc (.bool (bsEq l m)) ∧ h' = h := by
  unfold bigN at hl hm
  have hll := strRows_len l
  have hlm := strRows_len m
  refine pcall_body (ow := fun _ => false) (wf := fun _ => false) Ty.mixed Tryz.func126 rfl Ty.hb_126 (by rw [Tryz.ntmps126]; simp) ?_
  rw [Tryz.ntmps126, Tryz.results126]
  cases hne : ((l.length : Int) != m.length) with
  | true =>
    have : bsEq l m = false := bsEq_len (by simp at hne; omega)
    repeat' (first | (refine a_seq (fun K hK => ?_)) | (refine a_block ?_) | ((first | refine a_regionS ?_ | refine a_region (fun K hK => ?_) | refine a_ret ?_); simp (maxSteps := 2000000) only [Ty.w, simprocAttr, hll, hlm, hne]) | ((first | refine a_skip ?_ | refine a_exit ?_); (try simp only [pst0, simprocAttr])) | (refine a_cond _ (by (try simp (maxSteps := 2000000) only [Ty.w, simprocAttr, hll, hlm, hne]); rfl) (fun hb => ?_) (fun hb => ?_) <;> (try simp only [hb0, decide_eq_true_eq, decide_eq_false_iff_not, simprocAttr] at hb) <;> (try (exfalso; omega))) | (with_reducible refine ite_in (fun hb => ?_) (fun hb => ?_) <;> (try simp only [Decidable.not_not] at hb) <;> (try simp only [hb, if_true, if_false, not_false_eq_true, not_true_eq_false, ↓reduceIte]) <;> (try simp only [hb0, decide_eq_true_eq, decide_eq_false_iff_not, simprocAttr] at hb) <;> (try (exfalso; omega))) | ((first | refine hK _ _ ?_ | (clear hK; refine hK _ _ ?_) | (clear hK; clear hK; refine hK _ _ ?_) | (clear hK; clear hK; clear hK; refine hK _ _ ?_)); clear hK; (try simp only [pst0, simprocAttr])) | (rw [if_pos]; rotate_left 1; omega; simp (maxSteps := 2000000) only [Ty.w, simprocAttr, hll, hlm, hne]))
    rw [this]
  | false =>
    have hlen : l.length = m.length := by simp at hne; omega
    repeat' (first | (refine a_seq (fun K hK => ?_)) | (refine a_block ?_) | ((first | refine a_regionS ?_ | refine a_region (fun K hK => ?_) | refine a_ret ?_); simp (maxSteps := 2000000) only [Ty.w, simprocAttr, hll, hlm, hne]) | ((first | refine a_skip ?_ | refine a_exit ?_); (try simp only [pst0, simprocAttr])) | (refine a_cond _ (by (try simp (maxSteps := 2000000) only [Ty.w, simprocAttr, hll, hlm, hne]); rfl) (fun hb => ?_) (fun hb => ?_) <;> (try simp only [hb0, decide_eq_true_eq, decide_eq_false_iff_not, simprocAttr] at hb) <;> (try (exfalso; omega))) | (with_reducible refine ite_in (fun hb => ?_) (fun hb => ?_) <;> (try simp only [Decidable.not_not] at hb) <;> (try simp only [hb, if_true, if_false, not_false_eq_true, not_true_eq_false, ↓reduceIte]) <;> (try simp only [hb0, decide_eq_true_eq, decide_eq_false_iff_not, simprocAttr] at hb) <;> (try (exfalso; omega))) | ((first | refine hK _ _ ?_ | (clear hK; refine hK _ _ ?_) | (clear hK; clear hK; refine hK _ _ ?_) | (clear hK; clear hK; clear hK; refine hK _ _ ?_)); clear hK; (try simp only [pst0, simprocAttr])) | (rw [if_pos]; rotate_left 1; omega; simp (maxSteps := 2000000) only [Ty.w, simprocAttr, hll, hlm, hne]))
    refine a_loop (fun c S h' => h' = h ∧ S 0 = .imm 1 (strRows l) ∧ S 1 = .imm 1 (strRows m) ∧ S 12 = .sc (.int .i64 l.length) ∧ ∃ k : Nat, S 13 = .sc (.int .i64 k) ∧ k ≤ l.length ∧ c = l.length - k ∧ bsEq l m = bsEq (l.drop k) (m.drop k)) l.length ?_ ?_
    · simp only [Ty.w, simprocAttr]
      exact ⟨0, rfl, by omega, rfl, by simp⟩
    · rintro c S h' ⟨rfl, g0, g1, g12, k, gk, hkl, rfl, hinv⟩
      by_cases hlt : k < l.length
      · have hd : decide ((k : Int) < (l.length : Int)) = true := by simp; omega
        have w7 : IntKind.i64.wrap ((k : Int) + 1) = k + 1 := by rw [wrap64 (by omega) (by omega)]
        obtain ⟨a, hx⟩ : ∃ a, l[k]? = some a := ⟨_, List.getElem?_eq_getElem hlt⟩
        obtain ⟨b, hy⟩ : ∃ b, m[k]? = some b := ⟨_, List.getElem?_eq_getElem (by omega)⟩
        rw [drop_of_get hx, drop_of_get hy] at hinv
        simp only [bsEq] at hinv
        have hr := strRows_get hx
        have hr2 := strRows_get hy
        cases he : (a.data.toList == b.data.toList) with
        | false =>
          simp only [bEq, he, Bool.false_and] at hinv
          repeat' (first | (refine a_seq (fun K hK => ?_)) | (refine a_block ?_) | ((first | refine a_regionS ?_ | refine a_drawS (by decide +kernel) ?_ | refine a_region (fun K hK => ?_) | refine a_draw (by decide +kernel) (fun K hK => ?_) | refine a_ret ?_); simp (maxSteps := 2000000) only [Ty.w, simprocAttr, g0, g1, g12, gk, hll, hlm, hd, hr, hr2, he, w7, Bool.not_false]) | ((first | refine a_skip ?_ | refine a_exit ?_); (try simp only [pst0, simprocAttr])) | (refine a_cond _ (by (try simp (maxSteps := 2000000) only [Ty.w, simprocAttr, g0, g1, g12, gk, hll, hlm, hd, hr, hr2, he, w7, Bool.not_false]); rfl) (fun hb => ?_) (fun hb => ?_) <;> (try simp only [hb0, decide_eq_true_eq, decide_eq_false_iff_not, simprocAttr] at hb) <;> (try (exfalso; omega))) | (with_reducible refine ite_in (fun hb => ?_) (fun hb => ?_) <;> (try simp only [Decidable.not_not] at hb) <;> (try simp only [hb, if_true, if_false, not_false_eq_true, not_true_eq_false, ↓reduceIte]) <;> (try simp only [hb0, decide_eq_true_eq, decide_eq_false_iff_not, simprocAttr] at hb) <;> (try (exfalso; omega))) | ((first | refine hK _ _ ?_ | (clear hK; refine hK _ _ ?_) | (clear hK; clear hK; refine hK _ _ ?_) | (clear hK; clear hK; clear hK; refine hK _ _ ?_)); clear hK; (try simp only [pst0, simprocAttr])) | ((first | with_reducible refine a_past _ rfl (by decide +kernel) ?_ | (with_reducible refine a_past2 (by simp only [List.forall_mem_cons, Ty.w, simprocAttr, g0, g1, g12, gk, hll, hlm, hd, hr, hr2, he, w7, Bool.not_false]; (repeat' apply And.intro) <;> first | trivial | exact .inl (by decide +kernel)) ?_)); try simp (maxSteps := 2000000) only [Ty.w, simprocAttr, g0, g1, g12, gk, hll, hlm, hd, hr, hr2, he, w7, Bool.not_false]) | (rw [if_pos]; rotate_left 1; omega; simp (maxSteps := 2000000) only [Ty.w, simprocAttr, g0, g1, g12, gk, hll, hlm, hd, hr, hr2, he, w7, Bool.not_false]))
          rw [hinv]
        | true =>
          simp only [bEq, he, Bool.true_and] at hinv
          repeat' (first | (refine a_seq (fun K hK => ?_)) | (refine a_block ?_) | ((first | refine a_regionS ?_ | refine a_drawS (by decide +kernel) ?_ | refine a_region (fun K hK => ?_) | refine a_draw (by decide +kernel) (fun K hK => ?_) | refine a_ret ?_); simp (maxSteps := 2000000) only [Ty.w, simprocAttr, g0, g1, g12, gk, hll, hlm, hd, hr, hr2, he, w7, Bool.not_true]) | ((first | refine a_skip ?_ | refine a_exit ?_); (try simp only [pst0, simprocAttr])) | (refine a_cond _ (by (try simp (maxSteps := 2000000) only [Ty.w, simprocAttr, g0, g1, g12, gk, hll, hlm, hd, hr, hr2, he, w7, Bool.not_true]); rfl) (fun hb => ?_) (fun hb => ?_) <;> (try simp only [hb0, decide_eq_true_eq, decide_eq_false_iff_not, simprocAttr] at hb) <;> (try (exfalso; omega))) | (with_reducible refine ite_in (fun hb => ?_) (fun hb => ?_) <;> (try simp only [Decidable.not_not] at hb) <;> (try simp only [hb, if_true, if_false, not_false_eq_true, not_true_eq_false, ↓reduceIte]) <;> (try simp only [hb0, decide_eq_true_eq, decide_eq_false_iff_not, simprocAttr] at hb) <;> (try (exfalso; omega))) | ((first | refine hK _ _ ?_ | (clear hK; refine hK _ _ ?_) | (clear hK; clear hK; refine hK _ _ ?_) | (clear hK; clear hK; clear hK; refine hK _ _ ?_)); clear hK; (try simp only [pst0, simprocAttr])) | ((first | with_reducible refine a_past _ rfl (by decide +kernel) ?_ | (with_reducible refine a_past2 (by simp only [List.forall_mem_cons, Ty.w, simprocAttr, g0, g1, g12, gk, hll, hlm, hd, hr, hr2, he, w7, Bool.not_true]; (repeat' apply And.intro) <;> first | trivial | exact .inl (by decide +kernel)) ?_)); try simp (maxSteps := 2000000) only [Ty.w, simprocAttr, g0, g1, g12, gk, hll, hlm, hd, hr, hr2, he, w7, Bool.not_true]) | (rw [if_pos]; rotate_left 1; omega; simp (maxSteps := 2000000) only [Ty.w, simprocAttr, g0, g1, g12, gk, hll, hlm, hd, hr, hr2, he, w7, Bool.not_true]))
          exact ⟨l.length - (k + 1), by omega, k + 1, by simp, by omega, rfl, hinv⟩
      · have hd : decide ((k : Int) < (l.length : Int)) = false := by simp; omega
        rw [List.drop_eq_nil_of_le (by omega), List.drop_eq_nil_of_le (by omega)] at hinv
        simp only [bsEq] at hinv
        repeat' (first | (refine a_seq (fun K hK => ?_)) | (refine a_block ?_) | ((first | refine a_regionS ?_ | refine a_region (fun K hK => ?_) | refine a_ret ?_); simp (maxSteps := 2000000) only [Ty.w, simprocAttr, g0, g1, g12, gk, hll, hd]) | ((first | refine a_skip ?_ | refine a_exit ?_); (try simp only [pst0, simprocAttr])) | (refine a_cond _ (by (try simp (maxSteps := 2000000) only [Ty.w, simprocAttr, g0, g1, g12, gk, hll, hd]); rfl) (fun hb => ?_) (fun hb => ?_) <;> (try simp only [hb0, decide_eq_true_eq, decide_eq_false_iff_not, simprocAttr] at hb) <;> (try (exfalso; omega))) | (with_reducible refine ite_in (fun hb => ?_) (fun hb => ?_) <;> (try simp only [Decidable.not_not] at hb) <;> (try simp only [hb, if_true, if_false, not_false_eq_true, not_true_eq_false, ↓reduceIte]) <;> (try simp only [hb0, decide_eq_true_eq, decide_eq_false_iff_not, simprocAttr] at hb) <;> (try (exfalso; omega))) | ((first | refine hK _ _ ?_ | (clear hK; refine hK _ _ ?_) | (clear hK; clear hK; refine hK _ _ ?_) | (clear hK; clear hK; clear hK; refine hK _ _ ?_)); clear hK; (try simp only [pst0, simprocAttr])) | (rw [if_pos]; rotate_left 1; omega; simp (maxSteps := 2000000) only [Ty.w, simprocAttr, g0, g1, g12, gk, hll, hd]))
        rw [hinv]
theorem rtexts_c {h : Heap} {l m : List ByteArray} (hl : l.length ≤ bigN) (hm : m.length ≤ bigN) : PCall Tryz.prog 125 [.imm 1 (strRows l), .imm 1 (strRows m)] h fun r h' => r = .sc (.bool (bsEq l m)) ∧ h' = h := by
  unfold bigN at hl hm
  have hll := strRows_len l
  have hlm := strRows_len m
  refine pcall_body (ow := fun _ => false) (wf := fun _ => false) Ty.mixed Tryz.func125 rfl Ty.hb_125 (by rw [Tryz.ntmps125]; simp) ?_
  rw [Tryz.ntmps125, Tryz.results125]
  cases hne : ((l.length : Int) != m.length) with
  | true =>
    have : bsEq l m = false := bsEq_len (by simp at hne; omega)
    repeat' (first | (refine a_seq (fun K hK => ?_)) | (refine a_block ?_) | ((first | refine a_regionS ?_ | refine a_region (fun K hK => ?_) | refine a_ret ?_); simp (maxSteps := 2000000) only [Ty.w, simprocAttr, hll, hlm, hne]) | ((first | refine a_skip ?_ | refine a_exit ?_); (try simp only [pst0, simprocAttr])) | (refine a_cond _ (by (try simp (maxSteps := 2000000) only [Ty.w, simprocAttr, hll, hlm, hne]); rfl) (fun hb => ?_) (fun hb => ?_) <;> (try simp only [hb0, decide_eq_true_eq, decide_eq_false_iff_not, simprocAttr] at hb) <;> (try (exfalso; omega))) | (with_reducible refine ite_in (fun hb => ?_) (fun hb => ?_) <;> (try simp only [Decidable.not_not] at hb) <;> (try simp only [hb, if_true, if_false, not_false_eq_true, not_true_eq_false, ↓reduceIte]) <;> (try simp only [hb0, decide_eq_true_eq, decide_eq_false_iff_not, simprocAttr] at hb) <;> (try (exfalso; omega))) | ((first | refine hK _ _ ?_ | (clear hK; refine hK _ _ ?_) | (clear hK; clear hK; refine hK _ _ ?_) | (clear hK; clear hK; clear hK; refine hK _ _ ?_)); clear hK; (try simp only [pst0, simprocAttr])) | (rw [if_pos]; rotate_left 1; omega; simp (maxSteps := 2000000) only [Ty.w, simprocAttr, hll, hlm, hne]))
    rw [this]
  | false =>
    have hlen : l.length = m.length := by simp at hne; omega
    repeat' (first | (refine a_seq (fun K hK => ?_)) | (refine a_block ?_) | ((first | refine a_regionS ?_ | refine a_region (fun K hK => ?_) | refine a_ret ?_); simp (maxSteps := 2000000) only [Ty.w, simprocAttr, hll, hlm, hne]) | ((first | refine a_skip ?_ | refine a_exit ?_); (try simp only [pst0, simprocAttr])) | (refine a_cond _ (by (try simp (maxSteps := 2000000) only [Ty.w, simprocAttr, hll, hlm, hne]); rfl) (fun hb => ?_) (fun hb => ?_) <;> (try simp only [hb0, decide_eq_true_eq, decide_eq_false_iff_not, simprocAttr] at hb) <;> (try (exfalso; omega))) | (with_reducible refine ite_in (fun hb => ?_) (fun hb => ?_) <;> (try simp only [Decidable.not_not] at hb) <;> (try simp only [hb, if_true, if_false, not_false_eq_true, not_true_eq_false, ↓reduceIte]) <;> (try simp only [hb0, decide_eq_true_eq, decide_eq_false_iff_not, simprocAttr] at hb) <;> (try (exfalso; omega))) | ((first | refine hK _ _ ?_ | (clear hK; refine hK _ _ ?_) | (clear hK; clear hK; refine hK _ _ ?_) | (clear hK; clear hK; clear hK; refine hK _ _ ?_)); clear hK; (try simp only [pst0, simprocAttr])) | (rw [if_pos]; rotate_left 1; omega; simp (maxSteps := 2000000) only [Ty.w, simprocAttr, hll, hlm, hne]))
    refine a_loop (fun c S h' => h' = h ∧ S 0 = .imm 1 (strRows l) ∧ S 1 = .imm 1 (strRows m) ∧ ∃ k : Nat, S 5 = .sc (.int .i64 k) ∧ k ≤ l.length ∧ c = l.length - k ∧ bsEq l m = bsEq (l.drop k) (m.drop k)) l.length ?_ ?_
    · simp only [Ty.w, simprocAttr]
      exact ⟨0, rfl, by omega, rfl, by simp⟩
    · rintro c S h' ⟨rfl, g0, g1, k, gk, hkl, rfl, hinv⟩
      by_cases hlt : k < l.length
      · have hd : decide ((k : Int) < (l.length : Int)) = true := by simp; omega
        have w7 : IntKind.i64.wrap ((k : Int) + 1) = k + 1 := by rw [wrap64 (by omega) (by omega)]
        obtain ⟨a, hx⟩ : ∃ a, l[k]? = some a := ⟨_, List.getElem?_eq_getElem hlt⟩
        obtain ⟨b, hy⟩ : ∃ b, m[k]? = some b := ⟨_, List.getElem?_eq_getElem (by omega)⟩
        rw [drop_of_get hx, drop_of_get hy] at hinv
        simp only [bsEq] at hinv
        have hr := strRows_get hx
        have hr2 := strRows_get hy
        cases he : (a.data.toList == b.data.toList) with
        | false =>
          simp only [bEq, he, Bool.false_and] at hinv
          repeat' (first | (refine a_seq (fun K hK => ?_)) | (refine a_block ?_) | ((first | refine a_regionS ?_ | refine a_drawS (by decide +kernel) ?_ | refine a_region (fun K hK => ?_) | refine a_draw (by decide +kernel) (fun K hK => ?_) | refine a_ret ?_); simp (maxSteps := 2000000) only [Ty.w, simprocAttr, g0, g1, gk, hll, hlm, hd, hr, hr2, he, w7, Bool.not_false]) | ((first | refine a_skip ?_ | refine a_exit ?_); (try simp only [pst0, simprocAttr])) | (refine a_cond _ (by (try simp (maxSteps := 2000000) only [Ty.w, simprocAttr, g0, g1, gk, hll, hlm, hd, hr, hr2, he, w7, Bool.not_false]); rfl) (fun hb => ?_) (fun hb => ?_) <;> (try simp only [hb0, decide_eq_true_eq, decide_eq_false_iff_not, simprocAttr] at hb) <;> (try (exfalso; omega))) | (with_reducible refine ite_in (fun hb => ?_) (fun hb => ?_) <;> (try simp only [Decidable.not_not] at hb) <;> (try simp only [hb, if_true, if_false, not_false_eq_true, not_true_eq_false, ↓reduceIte]) <;> (try simp only [hb0, decide_eq_true_eq, decide_eq_false_iff_not, simprocAttr] at hb) <;> (try (exfalso; omega))) | ((first | refine hK _ _ ?_ | (clear hK; refine hK _ _ ?_) | (clear hK; clear hK; refine hK _ _ ?_) | (clear hK; clear hK; clear hK; refine hK _ _ ?_)); clear hK; (try simp only [pst0, simprocAttr])) | ((first | with_reducible refine a_past _ rfl (by decide +kernel) ?_ | (with_reducible refine a_past2 (by simp only [List.forall_mem_cons, Ty.w, simprocAttr, g0, g1, gk, hll, hlm, hd, hr, hr2, he, w7, Bool.not_false]; (repeat' apply And.intro) <;> first | trivial | exact .inl (by decide +kernel)) ?_)); try simp (maxSteps := 2000000) only [Ty.w, simprocAttr, g0, g1, gk, hll, hlm, hd, hr, hr2, he, w7, Bool.not_false]) | (rw [if_pos]; rotate_left 1; omega; simp (maxSteps := 2000000) only [Ty.w, simprocAttr, g0, g1, gk, hll, hlm, hd, hr, hr2, he, w7, Bool.not_false]))
          rw [hinv]
        | true =>
          simp only [bEq, he, Bool.true_and] at hinv
          repeat' (first | (refine a_seq (fun K hK => ?_)) | (refine a_block ?_) | ((first | refine a_regionS ?_ | refine a_drawS (by decide +kernel) ?_ | refine a_region (fun K hK => ?_) | refine a_draw (by decide +kernel) (fun K hK => ?_) | refine a_ret ?_); simp (maxSteps := 2000000) only [Ty.w, simprocAttr, g0, g1, gk, hll, hlm, hd, hr, hr2, he, w7, Bool.not_true]) | ((first | refine a_skip ?_ | refine a_exit ?_); (try simp only [pst0, simprocAttr])) | (refine a_cond _ (by (try simp (maxSteps := 2000000) only [Ty.w, simprocAttr, g0, g1, gk, hll, hlm, hd, hr, hr2, he, w7, Bool.not_true]); rfl) (fun hb => ?_) (fun hb => ?_) <;> (try simp only [hb0, decide_eq_true_eq, decide_eq_false_iff_not, simprocAttr] at hb) <;> (try (exfalso; omega))) | (with_reducible refine ite_in (fun hb => ?_) (fun hb => ?_) <;> (try simp only [Decidable.not_not] at hb) <;> (try simp only [hb, if_true, if_false, not_false_eq_true, not_true_eq_false, ↓reduceIte]) <;> (try simp only [hb0, decide_eq_true_eq, decide_eq_false_iff_not, simprocAttr] at hb) <;> (try (exfalso; omega))) | ((first | refine hK _ _ ?_ | (clear hK; refine hK _ _ ?_) | (clear hK; clear hK; refine hK _ _ ?_) | (clear hK; clear hK; clear hK; refine hK _ _ ?_)); clear hK; (try simp only [pst0, simprocAttr])) | ((first | with_reducible refine a_past _ rfl (by decide +kernel) ?_ | (with_reducible refine a_past2 (by simp only [List.forall_mem_cons, Ty.w, simprocAttr, g0, g1, gk, hll, hlm, hd, hr, hr2, he, w7, Bool.not_true]; (repeat' apply And.intro) <;> first | trivial | exact .inl (by decide +kernel)) ?_)); try simp (maxSteps := 2000000) only [Ty.w, simprocAttr, g0, g1, gk, hll, hlm, hd, hr, hr2, he, w7, Bool.not_true]) | (rw [if_pos]; rotate_left 1; omega; simp (maxSteps := 2000000) only [Ty.w, simprocAttr, g0, g1, gk, hll, hlm, hd, hr, hr2, he, w7, Bool.not_true]))
          exact ⟨l.length - (k + 1), by omega, k + 1, by simp, by omega, rfl, hinv⟩
      · have hd : decide ((k : Int) < (l.length : Int)) = false := by simp; omega
        rw [List.drop_eq_nil_of_le (by omega), List.drop_eq_nil_of_le (by omega)] at hinv
        simp only [bsEq] at hinv
        repeat' (first | (refine a_seq (fun K hK => ?_)) | (refine a_block ?_) | ((first | refine a_regionS ?_ | refine a_region (fun K hK => ?_) | refine a_ret ?_); simp (maxSteps := 2000000) only [Ty.w, simprocAttr, g0, g1, gk, hll, hd]) | ((first | refine a_skip ?_ | refine a_exit ?_); (try simp only [pst0, simprocAttr])) | (refine a_cond _ (by (try simp (maxSteps := 2000000) only [Ty.w, simprocAttr, g0, g1, gk, hll, hd]); rfl) (fun hb => ?_) (fun hb => ?_) <;> (try simp only [hb0, decide_eq_true_eq, decide_eq_false_iff_not, simprocAttr] at hb) <;> (try (exfalso; omega))) | (with_reducible refine ite_in (fun hb => ?_) (fun hb => ?_) <;> (try simp only [Decidable.not_not] at hb) <;> (try simp only [hb, if_true, if_false, not_false_eq_true, not_true_eq_false, ↓reduceIte]) <;> (try simp only [hb0, decide_eq_true_eq, decide_eq_false_iff_not, simprocAttr] at hb) <;> (try (exfalso; omega))) | ((first | refine hK _ _ ?_ | (clear hK; refine hK _ _ ?_) | (clear hK; clear hK; refine hK _ _ ?_) | (clear hK; clear hK; clear hK; refine hK _ _ ?_)); clear hK; (try simp only [pst0, simprocAttr])) | (rw [if_pos]; rotate_left 1; omega; simp (maxSteps := 2000000) only [Ty.w, simprocAttr, g0, g1, gk, hll, hd]))
        rw [hinv]
theorem fparams_c {h : Heap} {l m : List Pm} (hl : l.length ≤ bigN) (hm : m.length ≤ bigN) : PCall Tryz.prog 47 [.imm 2 (pmRows l), .imm 2 (pmRows m)] h fun r h' => r = .sc (.bool (pmsEq l m)) ∧ h' = h := by
  unfold bigN at hl hm
  have hll := pmRows_len l
  have hlm := pmRows_len m
  refine pcall_body (ow := fun _ => false) (wf := fun _ => false) Ty.mixed Tryz.func47 rfl Ty.hb_47 (by rw [Tryz.ntmps47]; simp) ?_
  rw [Tryz.ntmps47, Tryz.results47]
  cases hne : ((l.length : Int) != m.length) with
  | true =>
    have : pmsEq l m = false := pmsEq_len (by simp at hne; omega)
    repeat' (first | (refine a_seq (fun K hK => ?_)) | (refine a_block ?_) | ((first | refine a_regionS ?_ | refine a_region (fun K hK => ?_) | refine a_ret ?_); simp (maxSteps := 2000000) only [Ty.w, simprocAttr, hll, hlm, hne]) | ((first | refine a_skip ?_ | refine a_exit ?_); (try simp only [pst0, simprocAttr])) | (refine a_cond _ (by (try simp (maxSteps := 2000000) only [Ty.w, simprocAttr, hll, hlm, hne]); rfl) (fun hb => ?_) (fun hb => ?_) <;> (try simp only [hb0, decide_eq_true_eq, decide_eq_false_iff_not, simprocAttr] at hb) <;> (try (exfalso; omega))) | (with_reducible refine ite_in (fun hb => ?_) (fun hb => ?_) <;> (try simp only [Decidable.not_not] at hb) <;> (try simp only [hb, if_true, if_false, not_false_eq_true, not_true_eq_false, ↓reduceIte]) <;> (try simp only [hb0, decide_eq_true_eq, decide_eq_false_iff_not, simprocAttr] at hb) <;> (try (exfalso; omega))) | ((first | refine hK _ _ ?_ | (clear hK; refine hK _ _ ?_) | (clear hK; clear hK; refine hK _ _ ?_) | (clear hK; clear hK; clear hK; refine hK _ _ ?_)); clear hK; (try simp only [pst0, simprocAttr])) | (rw [if_pos]; rotate_left 1; omega; simp (maxSteps := 2000000) only [Ty.w, simprocAttr, hll, hlm, hne]))
    rw [this]
  | false =>
    have hlen : l.length = m.length := by simp at hne; omega
    repeat' (first | (refine a_seq (fun K hK => ?_)) | (refine a_block ?_) | ((first | refine a_regionS ?_ | refine a_region (fun K hK => ?_) | refine a_ret ?_); simp (maxSteps := 2000000) only [Ty.w, simprocAttr, hll, hlm, hne]) | ((first | refine a_skip ?_ | refine a_exit ?_); (try simp only [pst0, simprocAttr])) | (refine a_cond _ (by (try simp (maxSteps := 2000000) only [Ty.w, simprocAttr, hll, hlm, hne]); rfl) (fun hb => ?_) (fun hb => ?_) <;> (try simp only [hb0, decide_eq_true_eq, decide_eq_false_iff_not, simprocAttr] at hb) <;> (try (exfalso; omega))) | (with_reducible refine ite_in (fun hb => ?_) (fun hb => ?_) <;> (try simp only [Decidable.not_not] at hb) <;> (try simp only [hb, if_true, if_false, not_false_eq_true, not_true_eq_false, ↓reduceIte]) <;> (try simp only [hb0, decide_eq_true_eq, decide_eq_false_iff_not, simprocAttr] at hb) <;> (try (exfalso; omega))) | ((first | refine hK _ _ ?_ | (clear hK; refine hK _ _ ?_) | (clear hK; clear hK; refine hK _ _ ?_) | (clear hK; clear hK; clear hK; refine hK _ _ ?_)); clear hK; (try simp only [pst0, simprocAttr])) | (rw [if_pos]; rotate_left 1; omega; simp (maxSteps := 2000000) only [Ty.w, simprocAttr, hll, hlm, hne]))
    refine a_loop (fun c S h' => h' = h ∧ S 0 = .imm 2 (pmRows l) ∧ S 1 = .imm 2 (pmRows m) ∧ S 12 = .sc (.int .i64 l.length) ∧ ∃ k : Nat, S 13 = .sc (.int .i64 k) ∧ k ≤ l.length ∧ c = l.length - k ∧ pmsEq l m = pmsEq (l.drop k) (m.drop k)) l.length ?_ ?_
    · simp only [Ty.w, simprocAttr]
      exact ⟨0, rfl, by omega, rfl, by simp⟩
    · rintro c S h' ⟨rfl, g0, g1, g12, k, gk, hkl, rfl, hinv⟩
      by_cases hlt : k < l.length
      · have hd : decide ((k : Int) < (l.length : Int)) = true := by simp; omega
        have w7 : IntKind.i64.wrap ((k : Int) + 1) = k + 1 := by rw [wrap64 (by omega) (by omega)]
        obtain ⟨a, hx⟩ : ∃ a, l[k]? = some a := ⟨_, List.getElem?_eq_getElem hlt⟩
        obtain ⟨b, hy⟩ : ∃ b, m[k]? = some b := ⟨_, List.getElem?_eq_getElem (by omega)⟩
        rw [drop_of_get hx, drop_of_get hy] at hinv
        simp only [pmsEq] at hinv
        have hr := pmRows_get hx
        have hr2 := pmRows_get hy
        cases he : pmEq a b with
        | false =>
          have he' : (a.name.data.toList == b.name.data.toList && a.type.data.toList == b.type.data.toList) = false := he
          rw [he, Bool.false_and] at hinv
          repeat' (first | (refine a_seq (fun K hK => ?_)) | (refine a_block ?_) | ((first | refine a_regionS ?_ | refine a_drawS (by decide +kernel) ?_ | refine a_region (fun K hK => ?_) | refine a_draw (by decide +kernel) (fun K hK => ?_) | refine a_ret ?_); simp (maxSteps := 2000000) only [Ty.w, simprocAttr, g0, g1, g12, gk, hll, hlm, hd, hr, hr2, he', w7, Bool.not_false, Option.map_some]) | ((first | refine a_skip ?_ | refine a_exit ?_); (try simp only [pst0, simprocAttr])) | (refine a_cond _ (by (try simp (maxSteps := 2000000) only [Ty.w, simprocAttr, g0, g1, g12, gk, hll, hlm, hd, hr, hr2, he', w7, Bool.not_false, Option.map_some]); rfl) (fun hb => ?_) (fun hb => ?_) <;> (try simp only [hb0, decide_eq_true_eq, decide_eq_false_iff_not, simprocAttr] at hb) <;> (try (exfalso; omega))) | (with_reducible refine ite_in (fun hb => ?_) (fun hb => ?_) <;> (try simp only [Decidable.not_not] at hb) <;> (try simp only [hb, if_true, if_false, not_false_eq_true, not_true_eq_false, ↓reduceIte]) <;> (try simp only [hb0, decide_eq_true_eq, decide_eq_false_iff_not, simprocAttr] at hb) <;> (try (exfalso; omega))) | ((first | refine hK _ _ ?_ | (clear hK; refine hK _ _ ?_) | (clear hK; clear hK; refine hK _ _ ?_) | (clear hK; clear hK; clear hK; refine hK _ _ ?_)); clear hK; (try simp only [pst0, simprocAttr])) | ((first | with_reducible refine a_past _ rfl (by decide +kernel) ?_ | (with_reducible refine a_past2 (by simp only [List.forall_mem_cons, Ty.w, simprocAttr, g0, g1, g12, gk, hll, hlm, hd, hr, hr2, he', w7, Bool.not_false, Option.map_some]; (repeat' apply And.intro) <;> first | trivial | exact .inl (by decide +kernel)) ?_)); try simp (maxSteps := 2000000) only [Ty.w, simprocAttr, g0, g1, g12, gk, hll, hlm, hd, hr, hr2, he', w7, Bool.not_false, Option.map_some]) | (rw [if_pos]; rotate_left 1; omega; simp (maxSteps := 2000000) only [Ty.w, simprocAttr, g0, g1, g12, gk, hll, hlm, hd, hr, hr2, he', w7, Bool.not_false, Option.map_some]))
          rw [hinv]
        | true =>
          have he' : (a.name.data.toList == b.name.data.toList && a.type.data.toList == b.type.data.toList) = true := he
          rw [he, Bool.true_and] at hinv
          repeat' (first | (refine a_seq (fun K hK => ?_)) | (refine a_block ?_) | ((first | refine a_regionS ?_ | refine a_drawS (by decide +kernel) ?_ | refine a_region (fun K hK => ?_) | refine a_draw (by decide +kernel) (fun K hK => ?_) | refine a_ret ?_); simp (maxSteps := 2000000) only [Ty.w, simprocAttr, g0, g1, g12, gk, hll, hlm, hd, hr, hr2, he', w7, Bool.not_true, Option.map_some]) | ((first | refine a_skip ?_ | refine a_exit ?_); (try simp only [pst0, simprocAttr])) | (refine a_cond _ (by (try simp (maxSteps := 2000000) only [Ty.w, simprocAttr, g0, g1, g12, gk, hll, hlm, hd, hr, hr2, he', w7, Bool.not_true, Option.map_some]); rfl) (fun hb => ?_) (fun hb => ?_) <;> (try simp only [hb0, decide_eq_true_eq, decide_eq_false_iff_not, simprocAttr] at hb) <;> (try (exfalso; omega))) | (with_reducible refine ite_in (fun hb => ?_) (fun hb => ?_) <;> (try simp only [Decidable.not_not] at hb) <;> (try simp only [hb, if_true, if_false, not_false_eq_true, not_true_eq_false, ↓reduceIte]) <;> (try simp only [hb0, decide_eq_true_eq, decide_eq_false_iff_not, simprocAttr] at hb) <;> (try (exfalso; omega))) | ((first | refine hK _ _ ?_ | (clear hK; refine hK _ _ ?_) | (clear hK; clear hK; refine hK _ _ ?_) | (clear hK; clear hK; clear hK; refine hK _ _ ?_)); clear hK; (try simp only [pst0, simprocAttr])) | ((first | with_reducible refine a_past _ rfl (by decide +kernel) ?_ | (with_reducible refine a_past2 (by simp only [List.forall_mem_cons, Ty.w, simprocAttr, g0, g1, g12, gk, hll, hlm, hd, hr, hr2, he', w7, Bool.not_true, Option.map_some]; (repeat' apply And.intro) <;> first | trivial | exact .inl (by decide +kernel)) ?_)); try simp (maxSteps := 2000000) only [Ty.w, simprocAttr, g0, g1, g12, gk, hll, hlm, hd, hr, hr2, he', w7, Bool.not_true, Option.map_some]) | (rw [if_pos]; rotate_left 1; omega; simp (maxSteps := 2000000) only [Ty.w, simprocAttr, g0, g1, g12, gk, hll, hlm, hd, hr, hr2, he', w7, Bool.not_true, Option.map_some]))
          exact ⟨l.length - (k + 1), by omega, k + 1, by simp, by omega, rfl, hinv⟩
      · have hd : decide ((k : Int) < (l.length : Int)) = false := by simp; omega
        rw [List.drop_eq_nil_of_le (by omega), List.drop_eq_nil_of_le (by omega)] at hinv
        simp only [pmsEq] at hinv
        repeat' (first | (refine a_seq (fun K hK => ?_)) | (refine a_block ?_) | ((first | refine a_regionS ?_ | refine a_region (fun K hK => ?_) | refine a_ret ?_); simp (maxSteps := 2000000) only [Ty.w, simprocAttr, g0, g1, g12, gk, hll, hd]) | ((first | refine a_skip ?_ | refine a_exit ?_); (try simp only [pst0, simprocAttr])) | (refine a_cond _ (by (try simp (maxSteps := 2000000) only [Ty.w, simprocAttr, g0, g1, g12, gk, hll, hd]); rfl) (fun hb => ?_) (fun hb => ?_) <;> (try simp only [hb0, decide_eq_true_eq, decide_eq_false_iff_not, simprocAttr] at hb) <;> (try (exfalso; omega))) | (with_reducible refine ite_in (fun hb => ?_) (fun hb => ?_) <;> (try simp only [Decidable.not_not] at hb) <;> (try simp only [hb, if_true, if_false, not_false_eq_true, not_true_eq_false, ↓reduceIte]) <;> (try simp only [hb0, decide_eq_true_eq, decide_eq_false_iff_not, simprocAttr] at hb) <;> (try (exfalso; omega))) | ((first | refine hK _ _ ?_ | (clear hK; refine hK _ _ ?_) | (clear hK; clear hK; refine hK _ _ ?_) | (clear hK; clear hK; clear hK; refine hK _ _ ?_)); clear hK; (try simp only [pst0, simprocAttr])) | (rw [if_pos]; rotate_left 1; omega; simp (maxSteps := 2000000) only [Ty.w, simprocAttr, g0, g1, g12, gk, hll, hd]))
        rw [hinv]
theorem rparams_c {h : Heap} {l m : List Pm} (hl : l.length ≤ bigN) (hm : m.length ≤ bigN) : PCall Tryz.prog 43 [.imm 2 (pmRows l), .imm 2 (pmRows m)] h fun r h' => r = .sc (.bool (pmsEq l m)) ∧ h' = h := by
  unfold bigN at hl hm
  have hll := pmRows_len l
  have hlm := pmRows_len m
  refine pcall_body (ow := fun _ => false) (wf := fun _ => false) Ty.mixed Tryz.func43 rfl Ty.hb_43 (by rw [Tryz.ntmps43]; simp) ?_
  rw [Tryz.ntmps43, Tryz.results43]
  cases hne : ((l.length : Int) != m.length) with
  | true =>
    have : pmsEq l m = false := pmsEq_len (by simp at hne; omega)
    repeat' (first | (refine a_seq (fun K hK => ?_)) | (refine a_block ?_) | ((first | refine a_regionS ?_ | refine a_region (fun K hK => ?_) | refine a_ret ?_); simp (maxSteps := 2000000) only [Ty.w, simprocAttr, hll, hlm, hne]) | ((first | refine a_skip ?_ | refine a_exit ?_); (try simp only [pst0, simprocAttr])) | (refine a_cond _ (by (try simp (maxSteps := 2000000) only [Ty.w, simprocAttr, hll, hlm, hne]); rfl) (fun hb => ?_) (fun hb => ?_) <;> (try simp only [hb0, decide_eq_true_eq, decide_eq_false_iff_not, simprocAttr] at hb) <;> (try (exfalso; omega))) | (with_reducible refine ite_in (fun hb => ?_) (fun hb => ?_) <;> (try simp only [Decidable.not_not] at hb) <;> (try simp only [hb, if_true, if_false, not_false_eq_true, not_true_eq_false, ↓reduceIte]) <;> (try simp only [hb0, decide_eq_true_eq, decide_eq_false_iff_not, simprocAttr] at hb) <;> (try (exfalso; omega))) | ((first | refine hK _ _ ?_ | (clear hK; refine hK _ _ ?_) | (clear hK; clear hK; refine hK _ _ ?_) | (clear hK; clear hK; clear hK; refine hK _ _ ?_)); clear hK; (try simp only [pst0, simprocAttr])) | (rw [if_pos]; rotate_left 1; omega; simp (maxSteps := 2000000) only [Ty.w, simprocAttr, hll, hlm, hne]))
    rw [this]
  | false =>
    have hlen : l.length = m.length := by simp at hne; omega
    repeat' (first | (refine a_seq (fun K hK => ?_)) | (refine a_block ?_) | ((first | refine a_regionS ?_ | refine a_region (fun K hK => ?_) | refine a_ret ?_); simp (maxSteps := 2000000) only [Ty.w, simprocAttr, hll, hlm, hne]) | ((first | refine a_skip ?_ | refine a_exit ?_); (try simp only [pst0, simprocAttr])) | (refine a_cond _ (by (try simp (maxSteps := 2000000) only [Ty.w, simprocAttr, hll, hlm, hne]); rfl) (fun hb => ?_) (fun hb => ?_) <;> (try simp only [hb0, decide_eq_true_eq, decide_eq_false_iff_not, simprocAttr] at hb) <;> (try (exfalso; omega))) | (with_reducible refine ite_in (fun hb => ?_) (fun hb => ?_) <;> (try simp only [Decidable.not_not] at hb) <;> (try simp only [hb, if_true, if_false, not_false_eq_true, not_true_eq_false, ↓reduceIte]) <;> (try simp only [hb0, decide_eq_true_eq, decide_eq_false_iff_not, simprocAttr] at hb) <;> (try (exfalso; omega))) | ((first | refine hK _ _ ?_ | (clear hK; refine hK _ _ ?_) | (clear hK; clear hK; refine hK _ _ ?_) | (clear hK; clear hK; clear hK; refine hK _ _ ?_)); clear hK; (try simp only [pst0, simprocAttr])) | (rw [if_pos]; rotate_left 1; omega; simp (maxSteps := 2000000) only [Ty.w, simprocAttr, hll, hlm, hne]))
    refine a_loop (fun c S h' => h' = h ∧ S 0 = .imm 2 (pmRows l) ∧ S 1 = .imm 2 (pmRows m) ∧ ∃ k : Nat, S 5 = .sc (.int .i64 k) ∧ k ≤ l.length ∧ c = l.length - k ∧ pmsEq l m = pmsEq (l.drop k) (m.drop k)) l.length ?_ ?_
    · simp only [Ty.w, simprocAttr]
      exact ⟨0, rfl, by omega, rfl, by simp⟩
    · rintro c S h' ⟨rfl, g0, g1, k, gk, hkl, rfl, hinv⟩
      by_cases hlt : k < l.length
      · have hd : decide ((k : Int) < (l.length : Int)) = true := by simp; omega
        have w7 : IntKind.i64.wrap ((k : Int) + 1) = k + 1 := by rw [wrap64 (by omega) (by omega)]
        obtain ⟨a, hx⟩ : ∃ a, l[k]? = some a := ⟨_, List.getElem?_eq_getElem hlt⟩
        obtain ⟨b, hy⟩ : ∃ b, m[k]? = some b := ⟨_, List.getElem?_eq_getElem (by omega)⟩
        rw [drop_of_get hx, drop_of_get hy] at hinv
        simp only [pmsEq] at hinv
        have hr := pmRows_get hx
        have hr2 := pmRows_get hy
        cases he : pmEq a b with
        | false =>
          have he' : (a.name.data.toList == b.name.data.toList && a.type.data.toList == b.type.data.toList) = false := he
          rw [he, Bool.false_and] at hinv
          repeat' (first | (refine a_seq (fun K hK => ?_)) | (refine a_block ?_) | ((first | refine a_regionS ?_ | refine a_drawS (by decide +kernel) ?_ | refine a_region (fun K hK => ?_) | refine a_draw (by decide +kernel) (fun K hK => ?_) | refine a_ret ?_); simp (maxSteps := 2000000) only [Ty.w, simprocAttr, g0, g1, gk, hll, hlm, hd, hr, hr2, he', w7, Bool.not_false, Option.map_some]) | ((first | refine a_skip ?_ | refine a_exit ?_); (try simp only [pst0, simprocAttr])) | (refine a_cond _ (by (try simp (maxSteps := 2000000) only [Ty.w, simprocAttr, g0, g1, gk, hll, hlm, hd, hr, hr2, he', w7, Bool.not_false, Option.map_some]); rfl) (fun hb => ?_) (fun hb => ?_) <;> (try simp only [hb0, decide_eq_true_eq, decide_eq_false_iff_not, simprocAttr] at hb) <;> (try (exfalso; omega))) | (with_reducible refine ite_in (fun hb => ?_) (fun hb => ?_) <;> (try simp only [Decidable.not_not] at hb) <;> (try simp only [hb, if_true, if_false, not_false_eq_true, not_true_eq_false, ↓reduceIte]) <;> (try simp only [hb0, decide_eq_true_eq, decide_eq_false_iff_not, simprocAttr] at hb) <;> (try (exfalso; omega))) | ((first | refine hK _ _ ?_ | (clear hK; refine hK _ _ ?_) | (clear hK; clear hK; refine hK _ _ ?_) | (clear hK; clear hK; clear hK; refine hK _ _ ?_)); clear hK; (try simp only [pst0, simprocAttr])) | ((first | with_reducible refine a_past _ rfl (by decide +kernel) ?_ | (with_reducible refine a_past2 (by simp only [List.forall_mem_cons, Ty.w, simprocAttr, g0, g1, gk, hll, hlm, hd, hr, hr2, he', w7, Bool.not_false, Option.map_some]; (repeat' apply And.intro) <;> first | trivial | exact .inl (by decide +kernel)) ?_)); try simp (maxSteps := 2000000) only [Ty.w, simprocAttr, g0, g1, gk, hll, hlm, hd, hr, hr2, he', w7, Bool.not_false, Option.map_some]) | (rw [if_pos]; rotate_left 1; omega; simp (maxSteps := 2000000) only [Ty.w, simprocAttr, g0, g1, gk, hll, hlm, hd, hr, hr2, he', w7, Bool.not_false, Option.map_some]))
          rw [hinv]
        | true =>
          have he' : (a.name.data.toList == b.name.data.toList && a.type.data.toList == b.type.data.toList) = true := he
          rw [he, Bool.true_and] at hinv
          repeat' (first | (refine a_seq (fun K hK => ?_)) | (refine a_block ?_) | ((first | refine a_regionS ?_ | refine a_drawS (by decide +kernel) ?_ | refine a_region (fun K hK => ?_) | refine a_draw (by decide +kernel) (fun K hK => ?_) | refine a_ret ?_); simp (maxSteps := 2000000) only [Ty.w, simprocAttr, g0, g1, gk, hll, hlm, hd, hr, hr2, he', w7, Bool.not_true, Option.map_some]) | ((first | refine a_skip ?_ | refine a_exit ?_); (try simp only [pst0, simprocAttr])) | (refine a_cond _ (by (try simp (maxSteps := 2000000) only [Ty.w, simprocAttr, g0, g1, gk, hll, hlm, hd, hr, hr2, he', w7, Bool.not_true, Option.map_some]); rfl) (fun hb => ?_) (fun hb => ?_) <;> (try simp only [hb0, decide_eq_true_eq, decide_eq_false_iff_not, simprocAttr] at hb) <;> (try (exfalso; omega))) | (with_reducible refine ite_in (fun hb => ?_) (fun hb => ?_) <;> (try simp only [Decidable.not_not] at hb) <;> (try simp only [hb, if_true, if_false, not_false_eq_true, not_true_eq_false, ↓reduceIte]) <;> (try simp only [hb0, decide_eq_true_eq, decide_eq_false_iff_not, simprocAttr] at hb) <;> (try (exfalso; omega))) | ((first | refine hK _ _ ?_ | (clear hK; refine hK _ _ ?_) | (clear hK; clear hK; refine hK _ _ ?_) | (clear hK; clear hK; clear hK; refine hK _ _ ?_)); clear hK; (try simp only [pst0, simprocAttr])) | ((first | with_reducible refine a_past _ rfl (by decide +kernel) ?_ | (with_reducible refine a_past2 (by simp only [List.forall_mem_cons, Ty.w, simprocAttr, g0, g1, gk, hll, hlm, hd, hr, hr2, he', w7, Bool.not_true, Option.map_some]; (repeat' apply And.intro) <;> first | trivial | exact .inl (by decide +kernel)) ?_)); try simp (maxSteps := 2000000) only [Ty.w, simprocAttr, g0, g1, gk, hll, hlm, hd, hr, hr2, he', w7, Bool.not_true, Option.map_some]) | (rw [if_pos]; rotate_left 1; omega; simp (maxSteps := 2000000) only [Ty.w, simprocAttr, g0, g1, gk, hll, hlm, hd, hr, hr2, he', w7, Bool.not_true, Option.map_some]))
          exact ⟨l.length - (k + 1), by omega, k + 1, by simp, by omega, rfl, hinv⟩
      · have hd : decide ((k : Int) < (l.length : Int)) = false := by simp; omega
        rw [List.drop_eq_nil_of_le (by omega), List.drop_eq_nil_of_le (by omega)] at hinv
        simp only [pmsEq] at hinv
        repeat' (first | (refine a_seq (fun K hK => ?_)) | (refine a_block ?_) | ((first | refine a_regionS ?_ | refine a_region (fun K hK => ?_) | refine a_ret ?_); simp (maxSteps := 2000000) only [Ty.w, simprocAttr, g0, g1, gk, hll, hd]) | ((first | refine a_skip ?_ | refine a_exit ?_); (try simp only [pst0, simprocAttr])) | (refine a_cond _ (by (try simp (maxSteps := 2000000) only [Ty.w, simprocAttr, g0, g1, gk, hll, hd]); rfl) (fun hb => ?_) (fun hb => ?_) <;> (try simp only [hb0, decide_eq_true_eq, decide_eq_false_iff_not, simprocAttr] at hb) <;> (try (exfalso; omega))) | (with_reducible refine ite_in (fun hb => ?_) (fun hb => ?_) <;> (try simp only [Decidable.not_not] at hb) <;> (try simp only [hb, if_true, if_false, not_false_eq_true, not_true_eq_false, ↓reduceIte]) <;> (try simp only [hb0, decide_eq_true_eq, decide_eq_false_iff_not, simprocAttr] at hb) <;> (try (exfalso; omega))) | ((first | refine hK _ _ ?_ | (clear hK; refine hK _ _ ?_) | (clear hK; clear hK; refine hK _ _ ?_) | (clear hK; clear hK; clear hK; refine hK _ _ ?_)); clear hK; (try simp only [pst0, simprocAttr])) | (rw [if_pos]; rotate_left 1; omega; simp (maxSteps := 2000000) only [Ty.w, simprocAttr, g0, g1, gk, hll, hd]))
        rw [hinv]
end Go.Proofs.YtikhonogkpboaaaGreat
namespace Go.Proofs.YtikhonogkpboaaaGreat
open Go.AM
set_option maxHeartbeats 4000000
set_option maxRecDepth 20000
theorem nsucc (n : Nat) : (n = n + 1) = False := by simp
theorem fEqE_c {g : FuncId} {l m : List Ex} (hl : l.length ≤ bigN) (hf : ∀ a ∈ l, ∀ b ∈ m, ∀ h : Heap, PCall Tryz.prog g [.agg a.cells, .agg b.cells] h fun r h' => r = .sc (.bool (a.same b)) ∧ h' = h) (h : Heap) :
    PCall Tryz.prog 127 [.imm 5 (Ex.rows l), .imm 5 (Ex.rows m), .sc (.func (.func g) #[] #[])] h fun r h' => r = .sc (.bool (Ex.sames l m)) ∧ h' = h := by
  unfold bigN at hl
  have hll := Ex.rows_len l
  have hlm := Ex.rows_len m
  refine PCall.quiet Ty.hb_127 ?_
  refine pcall_body (ow := fun _ => false) (wf := fun _ => false) Ty.mixed Tryz.func127 rfl Ty.hb_127 (by rw [Tryz.ntmps127]; simp) ?_
  rw [Tryz.ntmps127, Tryz.results127]
  cases hne : ((l.length : Int) != m.length) with
  | true =>
    have : Ex.sames l m = false := Ex.sames_len (by simp at hne; omega)
    repeat' (first | (refine a_seq (fun K hK => ?_)) | (refine a_block ?_) | ((first | refine a_regionS ?_ | refine a_region (fun K hK => ?_) | refine a_ret ?_); simp (maxSteps := 2000000) only [Ty.w, simprocAttr, hll, hlm, hne]) | ((first | refine a_skip ?_ | refine a_exit ?_); (try simp only [pst0, simprocAttr])) | (refine a_cond _ (by (try simp (maxSteps := 2000000) only [Ty.w, simprocAttr, hll, hlm, hne]); rfl) (fun hb => ?_) (fun hb => ?_) <;> (try simp only [hb0, decide_eq_true_eq, decide_eq_false_iff_not, simprocAttr] at hb) <;> (try (exfalso; omega))) | (with_reducible refine ite_in (fun hb => ?_) (fun hb => ?_) <;> (try simp only [Decidable.not_not] at hb) <;> (try simp only [hb, if_true, if_false, not_false_eq_true, not_true_eq_false, ↓reduceIte]) <;> (try simp only [hb0, decide_eq_true_eq, decide_eq_false_iff_not, simprocAttr] at hb) <;> (try (exfalso; omega))) | ((first | refine hK _ _ ?_ | (clear hK; refine hK _ _ ?_) | (clear hK; clear hK; refine hK _ _ ?_) | (clear hK; clear hK; clear hK; refine hK _ _ ?_)); clear hK; (try simp only [pst0, simprocAttr])) | (rw [if_pos]; rotate_left 1; omega; simp (maxSteps := 2000000) only [Ty.w, simprocAttr, hll, hlm, hne]))
    rw [this]
    exact ⟨rfl, Grow.refl _⟩
  | false =>
    have hlen : l.length = m.length := by simp at hne; omega
    repeat' (first | (refine a_seq (fun K hK => ?_)) | (refine a_block ?_) | ((first | refine a_regionS ?_ | refine a_region (fun K hK => ?_) | refine a_ret ?_); simp (maxSteps := 2000000) only [Ty.w, simprocAttr, hll, hlm, hne]) | ((first | refine a_skip ?_ | refine a_exit ?_); (try simp only [pst0, simprocAttr])) | (refine a_cond _ (by (try simp (maxSteps := 2000000) only [Ty.w, simprocAttr, hll, hlm, hne]); rfl) (fun hb => ?_) (fun hb => ?_) <;> (try simp only [hb0, decide_eq_true_eq, decide_eq_false_iff_not, simprocAttr] at hb) <;> (try (exfalso; omega))) | (with_reducible refine ite_in (fun hb => ?_) (fun hb => ?_) <;> (try simp only [Decidable.not_not] at hb) <;> (try simp only [hb, if_true, if_false, not_false_eq_true, not_true_eq_false, ↓reduceIte]) <;> (try simp only [hb0, decide_eq_true_eq, decide_eq_false_iff_not, simprocAttr] at hb) <;> (try (exfalso; omega))) | ((first | refine hK _ _ ?_ | (clear hK; refine hK _ _ ?_) | (clear hK; clear hK; refine hK _ _ ?_) | (clear hK; clear hK; clear hK; refine hK _ _ ?_)); clear hK; (try simp only [pst0, simprocAttr])) | (rw [if_pos]; rotate_left 1; omega; simp (maxSteps := 2000000) only [Ty.w, simprocAttr, hll, hlm, hne]))
    refine a_loop (fun c S h' => Grow h h' ∧ S 1 = .imm 5 (Ex.rows m) ∧ S 2 = .sc (.func (.func g) #[] #[]) ∧ S 15 = .imm 5 (Ex.rows l) ∧ S 16 = .sc (.int .i64 l.length) ∧ ∃ k : Nat, S 17 = .sc (.int .i64 k) ∧ k ≤ l.length ∧ c = l.length - k ∧ Ex.sames l m = Ex.sames (l.drop k) (m.drop k)) l.length ?_ ?_
    · simp only [Ty.w, simprocAttr]
      exact ⟨Grow.refl _, 0, rfl, by omega, rfl, by simp⟩
    · rintro c S h' ⟨hg, g1, g2, g15, g16, k, gk, hkl, rfl, hinv⟩
      by_cases hlt : k < l.length
      · have hd : decide ((k : Int) < (l.length : Int)) = true := by simp; omega
        have w7 : IntKind.i64.wrap ((k : Int) + 1) = k + 1 := by rw [wrap64 (by omega) (by omega)]
        obtain ⟨a, hx⟩ : ∃ a, l[k]? = some a := ⟨_, List.getElem?_eq_getElem hlt⟩
        obtain ⟨b, hy⟩ : ∃ b, m[k]? = some b := ⟨_, List.getElem?_eq_getElem (by omega)⟩
        have hc := hf a (List.mem_of_getElem? hx) b (List.mem_of_getElem? hy)
        rw [drop_of_get hx, drop_of_get hy] at hinv
        simp only [Ex.sames] at hinv
        have hr := Ex.rows_get hx
        have hr2 := Ex.rows_get hy
        generalize he : a.same b = e at hc hinv
        clear he hf
        obtain ⟨op2, name2, n2, args2, kids2⟩ := a
        obtain ⟨op3, name3, n3, args3, kids3⟩ := b
        simp only [Ex.cells] at hr hr2 hc
        repeat' (first | (refine a_seq (fun K hK => ?_)) | (refine a_block ?_) | ((first | refine a_regionS ?_ | refine a_drawS (by decide +kernel) ?_ | refine a_region (fun K hK => ?_) | refine a_draw (by decide +kernel) (fun K hK => ?_) | refine a_ret ?_); simp (maxSteps := 2000000) only [Ty.w, simprocAttr, g1, g2, g15, g16, gk, hll, hlm, hd, hr, hr2, w7, nsucc]) | ((first | refine a_skip ?_ | refine a_exit ?_); (try simp only [pst0, simprocAttr])) | (refine a_cond _ (by (try simp (maxSteps := 2000000) only [Ty.w, simprocAttr, g1, g2, g15, g16, gk, hll, hlm, hd, hr, hr2, w7, nsucc]); rfl) (fun hb => ?_) (fun hb => ?_) <;> (try simp only [hb0, decide_eq_true_eq, decide_eq_false_iff_not, simprocAttr] at hb) <;> (try (exfalso; omega))) | (with_reducible refine ite_in (fun hb => ?_) (fun hb => ?_) <;> (try simp only [Decidable.not_not] at hb) <;> (try simp only [hb, if_true, if_false, not_false_eq_true, not_true_eq_false, ↓reduceIte]) <;> (try simp only [hb0, decide_eq_true_eq, decide_eq_false_iff_not, simprocAttr] at hb) <;> (try (exfalso; omega))) | ((first | refine hK _ _ ?_ | (clear hK; refine hK _ _ ?_) | (clear hK; clear hK; refine hK _ _ ?_) | (clear hK; clear hK; clear hK; refine hK _ _ ?_)); clear hK; (try simp only [pst0, simprocAttr])) | ((first | with_reducible refine a_past _ rfl (by decide +kernel) ?_ | (with_reducible refine a_past2 (by simp only [List.forall_mem_cons, Ty.w, simprocAttr, g1, g2, g15, g16, gk, hll, hlm, hd, hr, hr2, w7, nsucc]; (repeat' apply And.intro) <;> first | trivial | exact .inl (by decide +kernel)) ?_)); try simp (maxSteps := 2000000) only [Ty.w, simprocAttr, g1, g2, g15, g16, gk, hll, hlm, hd, hr, hr2, w7, nsucc]) | (rw [if_pos]; rotate_left 1; omega; simp (maxSteps := 2000000) only [Ty.w, simprocAttr, g1, g2, g15, g16, gk, hll, hlm, hd, hr, hr2, w7, nsucc]))
        refine owp_useV (by simp only [Ty.w, simprocAttr, g2]) (hc _) (by simp only [Ty.w, simprocAttr, g1, g2, g15, g16, gk]; try rfl) ?_
        simp (maxSteps := 2000000) only [Ty.w, simprocAttr, Ty.all]
        cases e with
        | false =>
          repeat' (first | (refine a_seq (fun K hK => ?_)) | (refine a_block ?_) | ((first | refine a_regionS ?_ | refine a_drawS (by decide +kernel) ?_ | refine a_region (fun K hK => ?_) | refine a_draw (by decide +kernel) (fun K hK => ?_) | refine a_ret ?_); simp (maxSteps := 2000000) only [Ty.w, simprocAttr, g1, g2, g15, g16, gk, w7, Bool.not_false]) | ((first | refine a_skip ?_ | refine a_exit ?_); (try simp only [pst0, simprocAttr])) | (refine a_cond _ (by (try simp (maxSteps := 2000000) only [Ty.w, simprocAttr, g1, g2, g15, g16, gk, w7, Bool.not_false]); rfl) (fun hb => ?_) (fun hb => ?_) <;> (try simp only [hb0, decide_eq_true_eq, decide_eq_false_iff_not, simprocAttr] at hb) <;> (try (exfalso; omega))) | (with_reducible refine ite_in (fun hb => ?_) (fun hb => ?_) <;> (try simp only [Decidable.not_not] at hb) <;> (try simp only [hb, if_true, if_false, not_false_eq_true, not_true_eq_false, ↓reduceIte]) <;> (try simp only [hb0, decide_eq_true_eq, decide_eq_false_iff_not, simprocAttr] at hb) <;> (try (exfalso; omega))) | ((first | refine hK _ _ ?_ | (clear hK; refine hK _ _ ?_) | (clear hK; clear hK; refine hK _ _ ?_) | (clear hK; clear hK; clear hK; refine hK _ _ ?_)); clear hK; (try simp only [pst0, simprocAttr])) | ((first | with_reducible refine a_past _ rfl (by decide +kernel) ?_ | (with_reducible refine a_past2 (by simp only [List.forall_mem_cons, Ty.w, simprocAttr, g1, g2, g15, g16, gk, w7, Bool.not_false]; (repeat' apply And.intro) <;> first | trivial | exact .inl (by decide +kernel)) ?_)); try simp (maxSteps := 2000000) only [Ty.w, simprocAttr, g1, g2, g15, g16, gk, w7, Bool.not_false]) | (rw [if_pos]; rotate_left 1; omega; simp (maxSteps := 2000000) only [Ty.w, simprocAttr, g1, g2, g15, g16, gk, w7, Bool.not_false]))
          rw [hinv]
          exact ⟨rfl, (((hg.new _).set hg.le _).new _).set (Nat.le_succ_of_le hg.le) _⟩
        | true =>
          repeat' (first | (refine a_seq (fun K hK => ?_)) | (refine a_block ?_) | ((first | refine a_regionS ?_ | refine a_drawS (by decide +kernel) ?_ | refine a_region (fun K hK => ?_) | refine a_draw (by decide +kernel) (fun K hK => ?_) | refine a_ret ?_); simp (maxSteps := 2000000) only [Ty.w, simprocAttr, g1, g2, g15, g16, gk, w7, Bool.not_true]) | ((first | refine a_skip ?_ | refine a_exit ?_); (try simp only [pst0, simprocAttr])) | (refine a_cond _ (by (try simp (maxSteps := 2000000) only [Ty.w, simprocAttr, g1, g2, g15, g16, gk, w7, Bool.not_true]); rfl) (fun hb => ?_) (fun hb => ?_) <;> (try simp only [hb0, decide_eq_true_eq, decide_eq_false_iff_not, simprocAttr] at hb) <;> (try (exfalso; omega))) | (with_reducible refine ite_in (fun hb => ?_) (fun hb => ?_) <;> (try simp only [Decidable.not_not] at hb) <;> (try simp only [hb, if_true, if_false, not_false_eq_true, not_true_eq_false, ↓reduceIte]) <;> (try simp only [hb0, decide_eq_true_eq, decide_eq_false_iff_not, simprocAttr] at hb) <;> (try (exfalso; omega))) | ((first | refine hK _ _ ?_ | (clear hK; refine hK _ _ ?_) | (clear hK; clear hK; refine hK _ _ ?_) | (clear hK; clear hK; clear hK; refine hK _ _ ?_)); clear hK; (try simp only [pst0, simprocAttr])) | ((first | with_reducible refine a_past _ rfl (by decide +kernel) ?_ | (with_reducible refine a_past2 (by simp only [List.forall_mem_cons, Ty.w, simprocAttr, g1, g2, g15, g16, gk, w7, Bool.not_true]; (repeat' apply And.intro) <;> first | trivial | exact .inl (by decide +kernel)) ?_)); try simp (maxSteps := 2000000) only [Ty.w, simprocAttr, g1, g2, g15, g16, gk, w7, Bool.not_true]) | (rw [if_pos]; rotate_left 1; omega; simp (maxSteps := 2000000) only [Ty.w, simprocAttr, g1, g2, g15, g16, gk, w7, Bool.not_true]))
          rw [Bool.true_and] at hinv
          exact ⟨l.length - (k + 1), by omega, (((hg.new _).set hg.le _).new _).set (Nat.le_succ_of_le hg.le) _, k + 1, by simp, by omega, rfl, hinv⟩
      · have hd : decide ((k : Int) < (l.length : Int)) = false := by simp; omega
        rw [List.drop_eq_nil_of_le (by omega), List.drop_eq_nil_of_le (by omega)] at hinv
        simp only [Ex.sames] at hinv
        repeat' (first | (refine a_seq (fun K hK => ?_)) | (refine a_block ?_) | ((first | refine a_regionS ?_ | refine a_region (fun K hK => ?_) | refine a_ret ?_); simp (maxSteps := 2000000) only [Ty.w, simprocAttr, g1, g2, g15, g16, gk, hll, hd]) | ((first | refine a_skip ?_ | refine a_exit ?_); (try simp only [pst0, simprocAttr])) | (refine a_cond _ (by (try simp (maxSteps := 2000000) only [Ty.w, simprocAttr, g1, g2, g15, g16, gk, hll, hd]); rfl) (fun hb => ?_) (fun hb => ?_) <;> (try simp only [hb0, decide_eq_true_eq, decide_eq_false_iff_not, simprocAttr] at hb) <;> (try (exfalso; omega))) | (with_reducible refine ite_in (fun hb => ?_) (fun hb => ?_) <;> (try simp only [Decidable.not_not] at hb) <;> (try simp only [hb, if_true, if_false, not_false_eq_true, not_true_eq_false, ↓reduceIte]) <;> (try simp only [hb0, decide_eq_true_eq, decide_eq_false_iff_not, simprocAttr] at hb) <;> (try (exfalso; omega))) | ((first | refine hK _ _ ?_ | (clear hK; refine hK _ _ ?_) | (clear hK; clear hK; refine hK _ _ ?_) | (clear hK; clear hK; clear hK; refine hK _ _ ?_)); clear hK; (try simp only [pst0, simprocAttr])) | (rw [if_pos]; rotate_left 1; omega; simp (maxSteps := 2000000) only [Ty.w, simprocAttr, g1, g2, g15, g16, gk, hll, hd]))
        rw [hinv]
        exact ⟨rfl, hg⟩
theorem fsameE_c : ∀ a : Ex, a.ok → ∀ b : Ex, b.ok → ∀ h : Heap, PCall Tryz.prog 128 [.agg a.cells, .agg b.cells] h fun r h' => r = .sc (.bool (a.same b)) ∧ h' = h := by
  refine Ex.ind ?_
  intro op name n args kids ih hok
  rintro ⟨op3, name3, n3, args3, kids3⟩ hok3 h
  simp only [Ex.ok] at hok hok3
  obtain ⟨_, _, _, ⟨ha, _⟩, hk, hks⟩ := hok
  obtain ⟨_, _, _, ⟨ha3, _⟩, hk3, hks3⟩ := hok3
  rw [Ex.oks_iff] at hks hks3
  have hfk : ∀ a ∈ kids, ∀ b ∈ kids3, ∀ h : Heap, PCall Tryz.prog 128 [.agg a.cells, .agg b.cells] h fun r h' => r = .sc (.bool (a.same b)) ∧ h' = h := fun a ha b hb => ih a ha (hks a ha) b (hks3 b hb)
  clear ih
  simp only [Ex.cells]
  refine pcall_body (ow := fun _ => false) (wf := fun _ => false) Ty.mixed Tryz.func128 rfl Ty.hb_128 (by rw [Tryz.ntmps128]; simp) ?_
  rw [Tryz.ntmps128, Tryz.results128]
  cases e0 : (op.data.toList == op3.data.toList) with
  | false =>
    have hs : (Ex.mk op name n args kids).same (.mk op3 name3 n3 args3 kids3) = false := by simp only [Ex.same, bEq, e0, Bool.false_and, Bool.and_false]
    repeat' (first | (refine a_seq (fun K hK => ?_)) | (refine a_block ?_) | ((first | refine a_regionS ?_ | refine a_region (fun K hK => ?_) | refine a_ret ?_); simp (maxSteps := 2000000) only [Ty.w, simprocAttr, e0]) | ((first | refine a_skip ?_ | refine a_exit ?_); (try simp only [pst0, simprocAttr])) | (refine a_cond _ (by (try simp (maxSteps := 2000000) only [Ty.w, simprocAttr, e0]); rfl) (fun hb => ?_) (fun hb => ?_) <;> (try simp only [hb0, decide_eq_true_eq, decide_eq_false_iff_not, simprocAttr] at hb) <;> (try (exfalso; omega))) | (with_reducible refine ite_in (fun hb => ?_) (fun hb => ?_) <;> (try simp only [Decidable.not_not] at hb) <;> (try simp only [hb, if_true, if_false, not_false_eq_true, not_true_eq_false, ↓reduceIte]) <;> (try simp only [hb0, decide_eq_true_eq, decide_eq_false_iff_not, simprocAttr] at hb) <;> (try (exfalso; omega))) | ((first | refine hK _ _ ?_ | (clear hK; refine hK _ _ ?_) | (clear hK; clear hK; refine hK _ _ ?_) | (clear hK; clear hK; clear hK; refine hK _ _ ?_)); clear hK; (try simp only [pst0, simprocAttr])) | (rw [if_pos]; rotate_left 1; omega; simp (maxSteps := 2000000) only [Ty.w, simprocAttr, e0]))
    rw [hs]
  | true =>
    cases e1 : (name.data.toList == name3.data.toList) with
    | false =>
      have hs : (Ex.mk op name n args kids).same (.mk op3 name3 n3 args3 kids3) = false := by simp only [Ex.same, bEq, e0, e1, Bool.false_and, Bool.and_false]
      repeat' (first | (refine a_seq (fun K hK => ?_)) | (refine a_block ?_) | ((first | refine a_regionS ?_ | refine a_region (fun K hK => ?_) | refine a_ret ?_); simp (maxSteps := 2000000) only [Ty.w, simprocAttr, e0, e1]) | ((first | refine a_skip ?_ | refine a_exit ?_); (try simp only [pst0, simprocAttr])) | (refine a_cond _ (by (try simp (maxSteps := 2000000) only [Ty.w, simprocAttr, e0, e1]); rfl) (fun hb => ?_) (fun hb => ?_) <;> (try simp only [hb0, decide_eq_true_eq, decide_eq_false_iff_not, simprocAttr] at hb) <;> (try (exfalso; omega))) | (with_reducible refine ite_in (fun hb => ?_) (fun hb => ?_) <;> (try simp only [Decidable.not_not] at hb) <;> (try simp only [hb, if_true, if_false, not_false_eq_true, not_true_eq_false, ↓reduceIte]) <;> (try simp only [hb0, decide_eq_true_eq, decide_eq_false_iff_not, simprocAttr] at hb) <;> (try (exfalso; omega))) | ((first | refine hK _ _ ?_ | (clear hK; refine hK _ _ ?_) | (clear hK; clear hK; refine hK _ _ ?_) | (clear hK; clear hK; clear hK; refine hK _ _ ?_)); clear hK; (try simp only [pst0, simprocAttr])) | (rw [if_pos]; rotate_left 1; omega; simp (maxSteps := 2000000) only [Ty.w, simprocAttr, e0, e1]))
      rw [hs]
    | true =>
      cases e2 : (n == n3) with
      | false =>
        have hs : (Ex.mk op name n args kids).same (.mk op3 name3 n3 args3 kids3) = false := by simp only [Ex.same, bEq, e0, e1, e2, Bool.false_and, Bool.and_false]
        repeat' (first | (refine a_seq (fun K hK => ?_)) | (refine a_block ?_) | ((first | refine a_regionS ?_ | refine a_region (fun K hK => ?_) | refine a_ret ?_); simp (maxSteps := 2000000) only [Ty.w, simprocAttr, e0, e1, e2]) | ((first | refine a_skip ?_ | refine a_exit ?_); (try simp only [pst0, simprocAttr])) | (refine a_cond _ (by (try simp (maxSteps := 2000000) only [Ty.w, simprocAttr, e0, e1, e2]); rfl) (fun hb => ?_) (fun hb => ?_) <;> (try simp only [hb0, decide_eq_true_eq, decide_eq_false_iff_not, simprocAttr] at hb) <;> (try (exfalso; omega))) | (with_reducible refine ite_in (fun hb => ?_) (fun hb => ?_) <;> (try simp only [Decidable.not_not] at hb) <;> (try simp only [hb, if_true, if_false, not_false_eq_true, not_true_eq_false, ↓reduceIte]) <;> (try simp only [hb0, decide_eq_true_eq, decide_eq_false_iff_not, simprocAttr] at hb) <;> (try (exfalso; omega))) | ((first | refine hK _ _ ?_ | (clear hK; refine hK _ _ ?_) | (clear hK; clear hK; refine hK _ _ ?_) | (clear hK; clear hK; clear hK; refine hK _ _ ?_)); clear hK; (try simp only [pst0, simprocAttr])) | (rw [if_pos]; rotate_left 1; omega; simp (maxSteps := 2000000) only [Ty.w, simprocAttr, e0, e1, e2]))
        rw [hs]
      | true =>
        repeat' (first | (refine a_seq (fun K hK => ?_)) | (refine a_block ?_) | ((first | refine a_regionS ?_ | refine a_region (fun K hK => ?_) | refine a_ret ?_); simp (maxSteps := 2000000) only [Ty.w, simprocAttr, e0, e1, e2]) | ((first | refine a_skip ?_ | refine a_exit ?_); (try simp only [pst0, simprocAttr])) | (refine a_cond _ (by (try simp (maxSteps := 2000000) only [Ty.w, simprocAttr, e0, e1, e2]); rfl) (fun hb => ?_) (fun hb => ?_) <;> (try simp only [hb0, decide_eq_true_eq, decide_eq_false_iff_not, simprocAttr] at hb) <;> (try (exfalso; omega))) | (with_reducible refine ite_in (fun hb => ?_) (fun hb => ?_) <;> (try simp only [Decidable.not_not] at hb) <;> (try simp only [hb, if_true, if_false, not_false_eq_true, not_true_eq_false, ↓reduceIte]) <;> (try simp only [hb0, decide_eq_true_eq, decide_eq_false_iff_not, simprocAttr] at hb) <;> (try (exfalso; omega))) | ((first | refine hK _ _ ?_ | (clear hK; refine hK _ _ ?_) | (clear hK; clear hK; refine hK _ _ ?_) | (clear hK; clear hK; clear hK; refine hK _ _ ?_)); clear hK; (try simp only [pst0, simprocAttr])) | (rw [if_pos]; rotate_left 1; omega; simp (maxSteps := 2000000) only [Ty.w, simprocAttr, e0, e1, e2]))
        cases e3 : bsEq args args3 with
        | false =>
          have hs : (Ex.mk op name n args kids).same (.mk op3 name3 n3 args3 kids3) = false := by simp only [Ex.same, bEq, e0, e1, e2, e3, Bool.false_and, Bool.and_false]
          refine owp_useQ (ftexts_c (l := args) (m := args3) ha ha3) (by (try simp only [Ty.w, simprocAttr, e0, e1, e2, e3]); try rfl) ?_; simp (maxSteps := 2000000) only [Ty.w, simprocAttr, e0, e1, e2, e3]
          repeat' (first | (refine a_seq (fun K hK => ?_)) | (refine a_block ?_) | ((first | refine a_regionS ?_ | refine a_region (fun K hK => ?_) | refine a_ret ?_); simp (maxSteps := 2000000) only [Ty.w, simprocAttr, e0, e1, e2, e3]) | ((first | refine a_skip ?_ | refine a_exit ?_); (try simp only [pst0, simprocAttr])) | (refine a_cond _ (by (try simp (maxSteps := 2000000) only [Ty.w, simprocAttr, e0, e1, e2, e3]); rfl) (fun hb => ?_) (fun hb => ?_) <;> (try simp only [hb0, decide_eq_true_eq, decide_eq_false_iff_not, simprocAttr] at hb) <;> (try (exfalso; omega))) | (with_reducible refine ite_in (fun hb => ?_) (fun hb => ?_) <;> (try simp only [Decidable.not_not] at hb) <;> (try simp only [hb, if_true, if_false, not_false_eq_true, not_true_eq_false, ↓reduceIte]) <;> (try simp only [hb0, decide_eq_true_eq, decide_eq_false_iff_not, simprocAttr] at hb) <;> (try (exfalso; omega))) | ((first | refine hK _ _ ?_ | (clear hK; refine hK _ _ ?_) | (clear hK; clear hK; refine hK _ _ ?_) | (clear hK; clear hK; clear hK; refine hK _ _ ?_)); clear hK; (try simp only [pst0, simprocAttr])) | (rw [if_pos]; rotate_left 1; omega; simp (maxSteps := 2000000) only [Ty.w, simprocAttr, e0, e1, e2, e3]))
          rw [hs]
        | true =>
          refine owp_useQ (ftexts_c (l := args) (m := args3) ha ha3) (by (try simp only [Ty.w, simprocAttr, e0, e1, e2, e3]); try rfl) ?_; simp (maxSteps := 2000000) only [Ty.w, simprocAttr, e0, e1, e2, e3]
          repeat' (first | (refine a_seq (fun K hK => ?_)) | (refine a_block ?_) | ((first | refine a_regionS ?_ | refine a_region (fun K hK => ?_) | refine a_ret ?_); simp (maxSteps := 2000000) only [Ty.w, simprocAttr, e0, e1, e2, e3]) | ((first | refine a_skip ?_ | refine a_exit ?_); (try simp only [pst0, simprocAttr])) | (refine a_cond _ (by (try simp (maxSteps := 2000000) only [Ty.w, simprocAttr, e0, e1, e2, e3]); rfl) (fun hb => ?_) (fun hb => ?_) <;> (try simp only [hb0, decide_eq_true_eq, decide_eq_false_iff_not, simprocAttr] at hb) <;> (try (exfalso; omega))) | (with_reducible refine ite_in (fun hb => ?_) (fun hb => ?_) <;> (try simp only [Decidable.not_not] at hb) <;> (try simp only [hb, if_true, if_false, not_false_eq_true, not_true_eq_false, ↓reduceIte]) <;> (try simp only [hb0, decide_eq_true_eq, decide_eq_false_iff_not, simprocAttr] at hb) <;> (try (exfalso; omega))) | ((first | refine hK _ _ ?_ | (clear hK; refine hK _ _ ?_) | (clear hK; clear hK; refine hK _ _ ?_) | (clear hK; clear hK; clear hK; refine hK _ _ ?_)); clear hK; (try simp only [pst0, simprocAttr])) | (rw [if_pos]; rotate_left 1; omega; simp (maxSteps := 2000000) only [Ty.w, simprocAttr, e0, e1, e2, e3]))
          have hs : (Ex.mk op name n args kids).same (.mk op3 name3 n3 args3 kids3) = Ex.sames kids kids3 := by simp only [Ex.same, bEq, e0, e1, e2, e3, Bool.true_and]
          refine owp_useQ (fEqE_c hk hfk _) (by (try simp only [Ty.w, simprocAttr, e0, e1, e2, e3]); try rfl) ?_; simp (maxSteps := 2000000) only [Ty.w, simprocAttr, e0, e1, e2, e3]
          repeat' (first | (refine a_seq (fun K hK => ?_)) | (refine a_block ?_) | ((first | refine a_regionS ?_ | refine a_region (fun K hK => ?_) | refine a_ret ?_); simp (maxSteps := 2000000) only [Ty.w, simprocAttr, e0, e1, e2, e3]) | ((first | refine a_skip ?_ | refine a_exit ?_); (try simp only [pst0, simprocAttr])) | (refine a_cond _ (by (try simp (maxSteps := 2000000) only [Ty.w, simprocAttr, e0, e1, e2, e3]); rfl) (fun hb => ?_) (fun hb => ?_) <;> (try simp only [hb0, decide_eq_true_eq, decide_eq_false_iff_not, simprocAttr] at hb) <;> (try (exfalso; omega))) | (with_reducible refine ite_in (fun hb => ?_) (fun hb => ?_) <;> (try simp only [Decidable.not_not] at hb) <;> (try simp only [hb, if_true, if_false, not_false_eq_true, not_true_eq_false, ↓reduceIte]) <;> (try simp only [hb0, decide_eq_true_eq, decide_eq_false_iff_not, simprocAttr] at hb) <;> (try (exfalso; omega))) | ((first | refine hK _ _ ?_ | (clear hK; refine hK _ _ ?_) | (clear hK; clear hK; refine hK _ _ ?_) | (clear hK; clear hK; clear hK; refine hK _ _ ?_)); clear hK; (try simp only [pst0, simprocAttr])) | (rw [if_pos]; rotate_left 1; omega; simp (maxSteps := 2000000) only [Ty.w, simprocAttr, e0, e1, e2, e3]))
          rw [hs]
theorem fEqF_c {g : FuncId} {l m : List Fm} (hl : l.length ≤ bigN) (hf : ∀ a ∈ l, ∀ b ∈ m, ∀ h : Heap, PCall Tryz.prog g [.agg a.cells, .agg b.cells] h fun r h' => r = .sc (.bool (a.same b)) ∧ h' = h) (h : Heap) :
    PCall Tryz.prog 129 [.imm 6 (Fm.rows l), .imm 6 (Fm.rows m), .sc (.func (.func g) #[] #[])] h fun r h' => r = .sc (.bool (Fm.sames l m)) ∧ h' = h := by
  unfold bigN at hl
  have hll := Fm.rows_len l
  have hlm := Fm.rows_len m
  refine PCall.quiet Ty.hb_129 ?_
  refine pcall_body (ow := fun _ => false) (wf := fun _ => false) Ty.mixed Tryz.func129 rfl Ty.hb_129 (by rw [Tryz.ntmps129]; simp) ?_
  rw [Tryz.ntmps129, Tryz.results129]
  cases hne : ((l.length : Int) != m.length) with
  | true =>
    have : Fm.sames l m = false := Fm.sames_len (by simp at hne; omega)
    repeat' (first | (refine a_seq (fun K hK => ?_)) | (refine a_block ?_) | ((first | refine a_regionS ?_ | refine a_region (fun K hK => ?_) | refine a_ret ?_); simp (maxSteps := 2000000) only [Ty.w, simprocAttr, hll, hlm, hne]) | ((first | refine a_skip ?_ | refine a_exit ?_); (try simp only [pst0, simprocAttr])) | (refine a_cond _ (by (try simp (maxSteps := 2000000) only [Ty.w, simprocAttr, hll, hlm, hne]); rfl) (fun hb => ?_) (fun hb => ?_) <;> (try simp only [hb0, decide_eq_true_eq, decide_eq_false_iff_not, simprocAttr] at hb) <;> (try (exfalso; omega))) | (with_reducible refine ite_in (fun hb => ?_) (fun hb => ?_) <;> (try simp only [Decidable.not_not] at hb) <;> (try simp only [hb, if_true, if_false, not_false_eq_true, not_true_eq_false, ↓reduceIte]) <;> (try simp only [hb0, decide_eq_true_eq, decide_eq_false_iff_not, simprocAttr] at hb) <;> (try (exfalso; omega))) | ((first | refine hK _ _ ?_ | (clear hK; refine hK _ _ ?_) | (clear hK; clear hK; refine hK _ _ ?_) | (clear hK; clear hK; clear hK; refine hK _ _ ?_)); clear hK; (try simp only [pst0, simprocAttr])) | (rw [if_pos]; rotate_left 1; omega; simp (maxSteps := 2000000) only [Ty.w, simprocAttr, hll, hlm, hne]))
    rw [this]
    exact ⟨rfl, Grow.refl _⟩
  | false =>
    have hlen : l.length = m.length := by simp at hne; omega
    repeat' (first | (refine a_seq (fun K hK => ?_)) | (refine a_block ?_) | ((first | refine a_regionS ?_ | refine a_region (fun K hK => ?_) | refine a_ret ?_); simp (maxSteps := 2000000) only [Ty.w, simprocAttr, hll, hlm, hne]) | ((first | refine a_skip ?_ | refine a_exit ?_); (try simp only [pst0, simprocAttr])) | (refine a_cond _ (by (try simp (maxSteps := 2000000) only [Ty.w, simprocAttr, hll, hlm, hne]); rfl) (fun hb => ?_) (fun hb => ?_) <;> (try simp only [hb0, decide_eq_true_eq, decide_eq_false_iff_not, simprocAttr] at hb) <;> (try (exfalso; omega))) | (with_reducible refine ite_in (fun hb => ?_) (fun hb => ?_) <;> (try simp only [Decidable.not_not] at hb) <;> (try simp only [hb, if_true, if_false, not_false_eq_true, not_true_eq_false, ↓reduceIte]) <;> (try simp only [hb0, decide_eq_true_eq, decide_eq_false_iff_not, simprocAttr] at hb) <;> (try (exfalso; omega))) | ((first | refine hK _ _ ?_ | (clear hK; refine hK _ _ ?_) | (clear hK; clear hK; refine hK _ _ ?_) | (clear hK; clear hK; clear hK; refine hK _ _ ?_)); clear hK; (try simp only [pst0, simprocAttr])) | (rw [if_pos]; rotate_left 1; omega; simp (maxSteps := 2000000) only [Ty.w, simprocAttr, hll, hlm, hne]))
    refine a_loop (fun c S h' => Grow h h' ∧ S 1 = .imm 6 (Fm.rows m) ∧ S 2 = .sc (.func (.func g) #[] #[]) ∧ S 15 = .imm 6 (Fm.rows l) ∧ S 16 = .sc (.int .i64 l.length) ∧ ∃ k : Nat, S 17 = .sc (.int .i64 k) ∧ k ≤ l.length ∧ c = l.length - k ∧ Fm.sames l m = Fm.sames (l.drop k) (m.drop k)) l.length ?_ ?_
    · simp only [Ty.w, simprocAttr]
      exact ⟨Grow.refl _, 0, rfl, by omega, rfl, by simp⟩
    · rintro c S h' ⟨hg, g1, g2, g15, g16, k, gk, hkl, rfl, hinv⟩
      by_cases hlt : k < l.length
      · have hd : decide ((k : Int) < (l.length : Int)) = true := by simp; omega
        have w7 : IntKind.i64.wrap ((k : Int) + 1) = k + 1 := by rw [wrap64 (by omega) (by omega)]
        obtain ⟨a, hx⟩ : ∃ a, l[k]? = some a := ⟨_, List.getElem?_eq_getElem hlt⟩
        obtain ⟨b, hy⟩ : ∃ b, m[k]? = some b := ⟨_, List.getElem?_eq_getElem (by omega)⟩
        have hc := hf a (List.mem_of_getElem? hx) b (List.mem_of_getElem? hy)
        rw [drop_of_get hx, drop_of_get hy] at hinv
        simp only [Fm.sames] at hinv
        have hr := Fm.rows_get hx
        have hr2 := Fm.rows_get hy
        generalize he : a.same b = e at hc hinv
        clear he hf
        obtain ⟨op2, name2, args2, params2, exprs2, kids2⟩ := a
        obtain ⟨op3, name3, args3, params3, exprs3, kids3⟩ := b
        simp only [Fm.cells] at hr hr2 hc
        repeat' (first | (refine a_seq (fun K hK => ?_)) | (refine a_block ?_) | ((first | refine a_regionS ?_ | refine a_drawS (by decide +kernel) ?_ | refine a_region (fun K hK => ?_) | refine a_draw (by decide +kernel) (fun K hK => ?_) | refine a_ret ?_); simp (maxSteps := 2000000) only [Ty.w, simprocAttr, g1, g2, g15, g16, gk, hll, hlm, hd, hr, hr2, w7, nsucc]) | ((first | refine a_skip ?_ | refine a_exit ?_); (try simp only [pst0, simprocAttr])) | (refine a_cond _ (by (try simp (maxSteps := 2000000) only [Ty.w, simprocAttr, g1, g2, g15, g16, gk, hll, hlm, hd, hr, hr2, w7, nsucc]); rfl) (fun hb => ?_) (fun hb => ?_) <;> (try simp only [hb0, decide_eq_true_eq, decide_eq_false_iff_not, simprocAttr] at hb) <;> (try (exfalso; omega))) | (with_reducible refine ite_in (fun hb => ?_) (fun hb => ?_) <;> (try simp only [Decidable.not_not] at hb) <;> (try simp only [hb, if_true, if_false, not_false_eq_true, not_true_eq_false, ↓reduceIte]) <;> (try simp only [hb0, decide_eq_true_eq, decide_eq_false_iff_not, simprocAttr] at hb) <;> (try (exfalso; omega))) | ((first | refine hK _ _ ?_ | (clear hK; refine hK _ _ ?_) | (clear hK; clear hK; refine hK _ _ ?_) | (clear hK; clear hK; clear hK; refine hK _ _ ?_)); clear hK; (try simp only [pst0, simprocAttr])) | ((first | with_reducible refine a_past _ rfl (by decide +kernel) ?_ | (with_reducible refine a_past2 (by simp only [List.forall_mem_cons, Ty.w, simprocAttr, g1, g2, g15, g16, gk, hll, hlm, hd, hr, hr2, w7, nsucc]; (repeat' apply And.intro) <;> first | trivial | exact .inl (by decide +kernel)) ?_)); try simp (maxSteps := 2000000) only [Ty.w, simprocAttr, g1, g2, g15, g16, gk, hll, hlm, hd, hr, hr2, w7, nsucc]) | (rw [if_pos]; rotate_left 1; omega; simp (maxSteps := 2000000) only [Ty.w, simprocAttr, g1, g2, g15, g16, gk, hll, hlm, hd, hr, hr2, w7, nsucc]))
        refine owp_useV (by simp only [Ty.w, simprocAttr, g2]) (hc _) (by simp only [Ty.w, simprocAttr, g1, g2, g15, g16, gk]; try rfl) ?_
        simp (maxSteps := 2000000) only [Ty.w, simprocAttr, Ty.all]
        cases e with
        | false =>
          repeat' (first | (refine a_seq (fun K hK => ?_)) | (refine a_block ?_) | ((first | refine a_regionS ?_ | refine a_drawS (by decide +kernel) ?_ | refine a_region (fun K hK => ?_) | refine a_draw (by decide +kernel) (fun K hK => ?_) | refine a_ret ?_); simp (maxSteps := 2000000) only [Ty.w, simprocAttr, g1, g2, g15, g16, gk, w7, Bool.not_false]) | ((first | refine a_skip ?_ | refine a_exit ?_); (try simp only [pst0, simprocAttr])) | (refine a_cond _ (by (try simp (maxSteps := 2000000) only [Ty.w, simprocAttr, g1, g2, g15, g16, gk, w7, Bool.not_false]); rfl) (fun hb => ?_) (fun hb => ?_) <;> (try simp only [hb0, decide_eq_true_eq, decide_eq_false_iff_not, simprocAttr] at hb) <;> (try (exfalso; omega))) | (with_reducible refine ite_in (fun hb => ?_) (fun hb => ?_) <;> (try simp only [Decidable.not_not] at hb) <;> (try simp only [hb, if_true, if_false, not_false_eq_true, not_true_eq_false, ↓reduceIte]) <;> (try simp only [hb0, decide_eq_true_eq, decide_eq_false_iff_not, simprocAttr] at hb) <;> (try (exfalso; omega))) | ((first | refine hK _ _ ?_ | (clear hK; refine hK _ _ ?_) | (clear hK; clear hK; refine hK _ _ ?_) | (clear hK; clear hK; clear hK; refine hK _ _ ?_)); clear hK; (try simp only [pst0, simprocAttr])) | ((first | with_reducible refine a_past _ rfl (by decide +kernel) ?_ | (with_reducible refine a_past2 (by simp only [List.forall_mem_cons, Ty.w, simprocAttr, g1, g2, g15, g16, gk, w7, Bool.not_false]; (repeat' apply And.intro) <;> first | trivial | exact .inl (by decide +kernel)) ?_)); try simp (maxSteps := 2000000) only [Ty.w, simprocAttr, g1, g2, g15, g16, gk, w7, Bool.not_false]) | (rw [if_pos]; rotate_left 1; omega; simp (maxSteps := 2000000) only [Ty.w, simprocAttr, g1, g2, g15, g16, gk, w7, Bool.not_false]))
          rw [hinv]
          exact ⟨rfl, (((hg.new _).set hg.le _).new _).set (Nat.le_succ_of_le hg.le) _⟩
        | true =>
          repeat' (first | (refine a_seq (fun K hK => ?_)) | (refine a_block ?_) | ((first | refine a_regionS ?_ | refine a_drawS (by decide +kernel) ?_ | refine a_region (fun K hK => ?_) | refine a_draw (by decide +kernel) (fun K hK => ?_) | refine a_ret ?_); simp (maxSteps := 2000000) only [Ty.w, simprocAttr, g1, g2, g15, g16, gk, w7, Bool.not_true]) | ((first | refine a_skip ?_ | refine a_exit ?_); (try simp only [pst0, simprocAttr])) | (refine a_cond _ (by (try simp (maxSteps := 2000000) only [Ty.w, simprocAttr, g1, g2, g15, g16, gk, w7, Bool.not_true]); rfl) (fun hb => ?_) (fun hb => ?_) <;> (try simp only [hb0, decide_eq_true_eq, decide_eq_false_iff_not, simprocAttr] at hb) <;> (try (exfalso; omega))) | (with_reducible refine ite_in (fun hb => ?_) (fun hb => ?_) <;> (try simp only [Decidable.not_not] at hb) <;> (try simp only [hb, if_true, if_false, not_false_eq_true, not_true_eq_false, ↓reduceIte]) <;> (try simp only [hb0, decide_eq_true_eq, decide_eq_false_iff_not, simprocAttr] at hb) <;> (try (exfalso; omega))) | ((first | refine hK _ _ ?_ | (clear hK; refine hK _ _ ?_) | (clear hK; clear hK; refine hK _ _ ?_) | (clear hK; clear hK; clear hK; refine hK _ _ ?_)); clear hK; (try simp only [pst0, simprocAttr])) | ((first | with_reducible refine a_past _ rfl (by decide +kernel) ?_ | (with_reducible refine a_past2 (by simp only [List.forall_mem_cons, Ty.w, simprocAttr, g1, g2, g15, g16, gk, w7, Bool.not_true]; (repeat' apply And.intro) <;> first | trivial | exact .inl (by decide +kernel)) ?_)); try simp (maxSteps := 2000000) only [Ty.w, simprocAttr, g1, g2, g15, g16, gk, w7, Bool.not_true]) | (rw [if_pos]; rotate_left 1; omega; simp (maxSteps := 2000000) only [Ty.w, simprocAttr, g1, g2, g15, g16, gk, w7, Bool.not_true]))
          rw [Bool.true_and] at hinv
          exact ⟨l.length - (k + 1), by omega, (((hg.new _).set hg.le _).new _).set (Nat.le_succ_of_le hg.le) _, k + 1, by simp, by omega, rfl, hinv⟩
      · have hd : decide ((k : Int) < (l.length : Int)) = false := by simp; omega
        rw [List.drop_eq_nil_of_le (by omega), List.drop_eq_nil_of_le (by omega)] at hinv
        simp only [Fm.sames] at hinv
        repeat' (first | (refine a_seq (fun K hK => ?_)) | (refine a_block ?_) | ((first | refine a_regionS ?_ | refine a_region (fun K hK => ?_) | refine a_ret ?_); simp (maxSteps := 2000000) only [Ty.w, simprocAttr, g1, g2, g15, g16, gk, hll, hd]) | ((first | refine a_skip ?_ | refine a_exit ?_); (try simp only [pst0, simprocAttr])) | (refine a_cond _ (by (try simp (maxSteps := 2000000) only [Ty.w, simprocAttr, g1, g2, g15, g16, gk, hll, hd]); rfl) (fun hb => ?_) (fun hb => ?_) <;> (try simp only [hb0, decide_eq_true_eq, decide_eq_false_iff_not, simprocAttr] at hb) <;> (try (exfalso; omega))) | (with_reducible refine ite_in (fun hb => ?_) (fun hb => ?_) <;> (try simp only [Decidable.not_not] at hb) <;> (try simp only [hb, if_true, if_false, not_false_eq_true, not_true_eq_false, ↓reduceIte]) <;> (try simp only [hb0, decide_eq_true_eq, decide_eq_false_iff_not, simprocAttr] at hb) <;> (try (exfalso; omega))) | ((first | refine hK _ _ ?_ | (clear hK; refine hK _ _ ?_) | (clear hK; clear hK; refine hK _ _ ?_) | (clear hK; clear hK; clear hK; refine hK _ _ ?_)); clear hK; (try simp only [pst0, simprocAttr])) | (rw [if_pos]; rotate_left 1; omega; simp (maxSteps := 2000000) only [Ty.w, simprocAttr, g1, g2, g15, g16, gk, hll, hd]))
        rw [hinv]
        exact ⟨rfl, hg⟩
theorem fsame_c : ∀ a : Fm, a.ok → ∀ b : Fm, b.ok → ∀ h : Heap, PCall Tryz.prog 73 [.agg a.cells, .agg b.cells] h fun r h' => r = .sc (.bool (a.same b)) ∧ h' = h := by
  refine Fm.ind ?_
  intro op name args params exprs kids ih hok
  rintro ⟨op3, name3, args3, params3, exprs3, kids3⟩ hok3 h
  simp only [Fm.ok] at hok hok3
  obtain ⟨_, _, ⟨ha, _⟩, ⟨hp, _⟩, ⟨he, hes⟩, hk, hks⟩ := hok
  obtain ⟨_, _, ⟨ha3, _⟩, ⟨hp3, _⟩, ⟨he3, hes3⟩, hk3, hks3⟩ := hok3
  rw [Fm.oks_iff] at hks hks3
  have hfk : ∀ a ∈ kids, ∀ b ∈ kids3, ∀ h : Heap, PCall Tryz.prog 73 [.agg a.cells, .agg b.cells] h fun r h' => r = .sc (.bool (a.same b)) ∧ h' = h := fun a ha b hb => ih a ha (hks a ha) b (hks3 b hb)
  rw [Ex.oks_iff] at hes hes3
  have hfe : ∀ a ∈ exprs, ∀ b ∈ exprs3, ∀ h : Heap, PCall Tryz.prog 128 [.agg a.cells, .agg b.cells] h fun r h' => r = .sc (.bool (a.same b)) ∧ h' = h := fun a ha b hb => fsameE_c a (hes a ha) b (hes3 b hb)
  clear ih
  simp only [Fm.cells]
  refine pcall_body (ow := fun _ => false) (wf := fun _ => false) Ty.mixed Tryz.func73 rfl Ty.hb_73 (by rw [Tryz.ntmps73]; simp) ?_
  rw [Tryz.ntmps73, Tryz.results73]
  cases e0 : (op.data.toList == op3.data.toList) with
  | false =>
    have hs : (Fm.mk op name args params exprs kids).same (.mk op3 name3 args3 params3 exprs3 kids3) = false := by simp only [Fm.same, bEq, e0, Bool.false_and, Bool.and_false]
    repeat' (first | (refine a_seq (fun K hK => ?_)) | (refine a_block ?_) | ((first | refine a_regionS ?_ | refine a_region (fun K hK => ?_) | refine a_ret ?_); simp (maxSteps := 2000000) only [Ty.w, simprocAttr, e0]) | ((first | refine a_skip ?_ | refine a_exit ?_); (try simp only [pst0, simprocAttr])) | (refine a_cond _ (by (try simp (maxSteps := 2000000) only [Ty.w, simprocAttr, e0]); rfl) (fun hb => ?_) (fun hb => ?_) <;> (try simp only [hb0, decide_eq_true_eq, decide_eq_false_iff_not, simprocAttr] at hb) <;> (try (exfalso; omega))) | (with_reducible refine ite_in (fun hb => ?_) (fun hb => ?_) <;> (try simp only [Decidable.not_not] at hb) <;> (try simp only [hb, if_true, if_false, not_false_eq_true, not_true_eq_false, ↓reduceIte]) <;> (try simp only [hb0, decide_eq_true_eq, decide_eq_false_iff_not, simprocAttr] at hb) <;> (try (exfalso; omega))) | ((first | refine hK _ _ ?_ | (clear hK; refine hK _ _ ?_) | (clear hK; clear hK; refine hK _ _ ?_) | (clear hK; clear hK; clear hK; refine hK _ _ ?_)); clear hK; (try simp only [pst0, simprocAttr])) | (rw [if_pos]; rotate_left 1; omega; simp (maxSteps := 2000000) only [Ty.w, simprocAttr, e0]))
    rw [hs]
  | true =>
    cases e1 : (name.data.toList == name3.data.toList) with
    | false =>
      have hs : (Fm.mk op name args params exprs kids).same (.mk op3 name3 args3 params3 exprs3 kids3) = false := by simp only [Fm.same, bEq, e0, e1, Bool.false_and, Bool.and_false]
      repeat' (first | (refine a_seq (fun K hK => ?_)) | (refine a_block ?_) | ((first | refine a_regionS ?_ | refine a_region (fun K hK => ?_) | refine a_ret ?_); simp (maxSteps := 2000000) only [Ty.w, simprocAttr, e0, e1]) | ((first | refine a_skip ?_ | refine a_exit ?_); (try simp only [pst0, simprocAttr])) | (refine a_cond _ (by (try simp (maxSteps := 2000000) only [Ty.w, simprocAttr, e0, e1]); rfl) (fun hb => ?_) (fun hb => ?_) <;> (try simp only [hb0, decide_eq_true_eq, decide_eq_false_iff_not, simprocAttr] at hb) <;> (try (exfalso; omega))) | (with_reducible refine ite_in (fun hb => ?_) (fun hb => ?_) <;> (try simp only [Decidable.not_not] at hb) <;> (try simp only [hb, if_true, if_false, not_false_eq_true, not_true_eq_false, ↓reduceIte]) <;> (try simp only [hb0, decide_eq_true_eq, decide_eq_false_iff_not, simprocAttr] at hb) <;> (try (exfalso; omega))) | ((first | refine hK _ _ ?_ | (clear hK; refine hK _ _ ?_) | (clear hK; clear hK; refine hK _ _ ?_) | (clear hK; clear hK; clear hK; refine hK _ _ ?_)); clear hK; (try simp only [pst0, simprocAttr])) | (rw [if_pos]; rotate_left 1; omega; simp (maxSteps := 2000000) only [Ty.w, simprocAttr, e0, e1]))
      rw [hs]
    | true =>
      repeat' (first | (refine a_seq (fun K hK => ?_)) | (refine a_block ?_) | ((first | refine a_regionS ?_ | refine a_region (fun K hK => ?_) | refine a_ret ?_); simp (maxSteps := 2000000) only [Ty.w, simprocAttr, e0, e1]) | ((first | refine a_skip ?_ | refine a_exit ?_); (try simp only [pst0, simprocAttr])) | (refine a_cond _ (by (try simp (maxSteps := 2000000) only [Ty.w, simprocAttr, e0, e1]); rfl) (fun hb => ?_) (fun hb => ?_) <;> (try simp only [hb0, decide_eq_true_eq, decide_eq_false_iff_not, simprocAttr] at hb) <;> (try (exfalso; omega))) | (with_reducible refine ite_in (fun hb => ?_) (fun hb => ?_) <;> (try simp only [Decidable.not_not] at hb) <;> (try simp only [hb, if_true, if_false, not_false_eq_true, not_true_eq_false, ↓reduceIte]) <;> (try simp only [hb0, decide_eq_true_eq, decide_eq_false_iff_not, simprocAttr] at hb) <;> (try (exfalso; omega))) | ((first | refine hK _ _ ?_ | (clear hK; refine hK _ _ ?_) | (clear hK; clear hK; refine hK _ _ ?_) | (clear hK; clear hK; clear hK; refine hK _ _ ?_)); clear hK; (try simp only [pst0, simprocAttr])) | (rw [if_pos]; rotate_left 1; omega; simp (maxSteps := 2000000) only [Ty.w, simprocAttr, e0, e1]))
      cases e2 : bsEq args args3 with
      | false =>
        have hs : (Fm.mk op name args params exprs kids).same (.mk op3 name3 args3 params3 exprs3 kids3) = false := by simp only [Fm.same, bEq, e0, e1, e2, Bool.false_and, Bool.and_false]
        refine owp_useQ (ftexts_c (l := args) (m := args3) ha ha3) (by (try simp only [Ty.w, simprocAttr, e0, e1, e2]); try rfl) ?_; simp (maxSteps := 2000000) only [Ty.w, simprocAttr, e0, e1, e2]
        repeat' (first | (refine a_seq (fun K hK => ?_)) | (refine a_block ?_) | ((first | refine a_regionS ?_ | refine a_region (fun K hK => ?_) | refine a_ret ?_); simp (maxSteps := 2000000) only [Ty.w, simprocAttr, e0, e1, e2]) | ((first | refine a_skip ?_ | refine a_exit ?_); (try simp only [pst0, simprocAttr])) | (refine a_cond _ (by (try simp (maxSteps := 2000000) only [Ty.w, simprocAttr, e0, e1, e2]); rfl) (fun hb => ?_) (fun hb => ?_) <;> (try simp only [hb0, decide_eq_true_eq, decide_eq_false_iff_not, simprocAttr] at hb) <;> (try (exfalso; omega))) | (with_reducible refine ite_in (fun hb => ?_) (fun hb => ?_) <;> (try simp only [Decidable.not_not] at hb) <;> (try simp only [hb, if_true, if_false, not_false_eq_true, not_true_eq_false, ↓reduceIte]) <;> (try simp only [hb0, decide_eq_true_eq, decide_eq_false_iff_not, simprocAttr] at hb) <;> (try (exfalso; omega))) | ((first | refine hK _ _ ?_ | (clear hK; refine hK _ _ ?_) | (clear hK; clear hK; refine hK _ _ ?_) | (clear hK; clear hK; clear hK; refine hK _ _ ?_)); clear hK; (try simp only [pst0, simprocAttr])) | (rw [if_pos]; rotate_left 1; omega; simp (maxSteps := 2000000) only [Ty.w, simprocAttr, e0, e1, e2]))
        rw [hs]
      | true =>
        refine owp_useQ (ftexts_c (l := args) (m := args3) ha ha3) (by (try simp only [Ty.w, simprocAttr, e0, e1, e2]); try rfl) ?_; simp (maxSteps := 2000000) only [Ty.w, simprocAttr, e0, e1, e2]
        repeat' (first | (refine a_seq (fun K hK => ?_)) | (refine a_block ?_) | ((first | refine a_regionS ?_ | refine a_region (fun K hK => ?_) | refine a_ret ?_); simp (maxSteps := 2000000) only [Ty.w, simprocAttr, e0, e1, e2]) | ((first | refine a_skip ?_ | refine a_exit ?_); (try simp only [pst0, simprocAttr])) | (refine a_cond _ (by (try simp (maxSteps := 2000000) only [Ty.w, simprocAttr, e0, e1, e2]); rfl) (fun hb => ?_) (fun hb => ?_) <;> (try simp only [hb0, decide_eq_true_eq, decide_eq_false_iff_not, simprocAttr] at hb) <;> (try (exfalso; omega))) | (with_reducible refine ite_in (fun hb => ?_) (fun hb => ?_) <;> (try simp only [Decidable.not_not] at hb) <;> (try simp only [hb, if_true, if_false, not_false_eq_true, not_true_eq_false, ↓reduceIte]) <;> (try simp only [hb0, decide_eq_true_eq, decide_eq_false_iff_not, simprocAttr] at hb) <;> (try (exfalso; omega))) | ((first | refine hK _ _ ?_ | (clear hK; refine hK _ _ ?_) | (clear hK; clear hK; refine hK _ _ ?_) | (clear hK; clear hK; clear hK; refine hK _ _ ?_)); clear hK; (try simp only [pst0, simprocAttr])) | (rw [if_pos]; rotate_left 1; omega; simp (maxSteps := 2000000) only [Ty.w, simprocAttr, e0, e1, e2]))
        cases e3 : pmsEq params params3 with
        | false =>
          have hs : (Fm.mk op name args params exprs kids).same (.mk op3 name3 args3 params3 exprs3 kids3) = false := by simp only [Fm.same, bEq, e0, e1, e2, e3, Bool.false_and, Bool.and_false]
          refine owp_useQ (fparams_c (l := params) (m := params3) hp hp3) (by (try simp only [Ty.w, simprocAttr, e0, e1, e2, e3]); try rfl) ?_; simp (maxSteps := 2000000) only [Ty.w, simprocAttr, e0, e1, e2, e3]
          repeat' (first | (refine a_seq (fun K hK => ?_)) | (refine a_block ?_) | ((first | refine a_regionS ?_ | refine a_region (fun K hK => ?_) | refine a_ret ?_); simp (maxSteps := 2000000) only [Ty.w, simprocAttr, e0, e1, e2, e3]) | ((first | refine a_skip ?_ | refine a_exit ?_); (try simp only [pst0, simprocAttr])) | (refine a_cond _ (by (try simp (maxSteps := 2000000) only [Ty.w, simprocAttr, e0, e1, e2, e3]); rfl) (fun hb => ?_) (fun hb => ?_) <;> (try simp only [hb0, decide_eq_true_eq, decide_eq_false_iff_not, simprocAttr] at hb) <;> (try (exfalso; omega))) | (with_reducible refine ite_in (fun hb => ?_) (fun hb => ?_) <;> (try simp only [Decidable.not_not] at hb) <;> (try simp only [hb, if_true, if_false, not_false_eq_true, not_true_eq_false, ↓reduceIte]) <;> (try simp only [hb0, decide_eq_true_eq, decide_eq_false_iff_not, simprocAttr] at hb) <;> (try (exfalso; omega))) | ((first | refine hK _ _ ?_ | (clear hK; refine hK _ _ ?_) | (clear hK; clear hK; refine hK _ _ ?_) | (clear hK; clear hK; clear hK; refine hK _ _ ?_)); clear hK; (try simp only [pst0, simprocAttr])) | (rw [if_pos]; rotate_left 1; omega; simp (maxSteps := 2000000) only [Ty.w, simprocAttr, e0, e1, e2, e3]))
          rw [hs]
        | true =>
          refine owp_useQ (fparams_c (l := params) (m := params3) hp hp3) (by (try simp only [Ty.w, simprocAttr, e0, e1, e2, e3]); try rfl) ?_; simp (maxSteps := 2000000) only [Ty.w, simprocAttr, e0, e1, e2, e3]
          repeat' (first | (refine a_seq (fun K hK => ?_)) | (refine a_block ?_) | ((first | refine a_regionS ?_ | refine a_region (fun K hK => ?_) | refine a_ret ?_); simp (maxSteps := 2000000) only [Ty.w, simprocAttr, e0, e1, e2, e3]) | ((first | refine a_skip ?_ | refine a_exit ?_); (try simp only [pst0, simprocAttr])) | (refine a_cond _ (by (try simp (maxSteps := 2000000) only [Ty.w, simprocAttr, e0, e1, e2, e3]); rfl) (fun hb => ?_) (fun hb => ?_) <;> (try simp only [hb0, decide_eq_true_eq, decide_eq_false_iff_not, simprocAttr] at hb) <;> (try (exfalso; omega))) | (with_reducible refine ite_in (fun hb => ?_) (fun hb => ?_) <;> (try simp only [Decidable.not_not] at hb) <;> (try simp only [hb, if_true, if_false, not_false_eq_true, not_true_eq_false, ↓reduceIte]) <;> (try simp only [hb0, decide_eq_true_eq, decide_eq_false_iff_not, simprocAttr] at hb) <;> (try (exfalso; omega))) | ((first | refine hK _ _ ?_ | (clear hK; refine hK _ _ ?_) | (clear hK; clear hK; refine hK _ _ ?_) | (clear hK; clear hK; clear hK; refine hK _ _ ?_)); clear hK; (try simp only [pst0, simprocAttr])) | (rw [if_pos]; rotate_left 1; omega; simp (maxSteps := 2000000) only [Ty.w, simprocAttr, e0, e1, e2, e3]))
          cases e4 : Ex.sames exprs exprs3 with
          | false =>
            have hs : (Fm.mk op name args params exprs kids).same (.mk op3 name3 args3 params3 exprs3 kids3) = false := by simp only [Fm.same, bEq, e0, e1, e2, e3, e4, Bool.false_and, Bool.and_false]
            refine owp_useQ (fEqE_c he hfe _) (by (try simp only [Ty.w, simprocAttr, e0, e1, e2, e3, e4]); try rfl) ?_; simp (maxSteps := 2000000) only [Ty.w, simprocAttr, e0, e1, e2, e3, e4]
            repeat' (first | (refine a_seq (fun K hK => ?_)) | (refine a_block ?_) | ((first | refine a_regionS ?_ | refine a_region (fun K hK => ?_) | refine a_ret ?_); simp (maxSteps := 2000000) only [Ty.w, simprocAttr, e0, e1, e2, e3, e4]) | ((first | refine a_skip ?_ | refine a_exit ?_); (try simp only [pst0, simprocAttr])) | (refine a_cond _ (by (try simp (maxSteps := 2000000) only [Ty.w, simprocAttr, e0, e1, e2, e3, e4]); rfl) (fun hb => ?_) (fun hb => ?_) <;> (try simp only [hb0, decide_eq_true_eq, decide_eq_false_iff_not, simprocAttr] at hb) <;> (try (exfalso; omega))) | (with_reducible refine ite_in (fun hb => ?_) (fun hb => ?_) <;> (try simp only [Decidable.not_not] at hb) <;> (try simp only [hb, if_true, if_false, not_false_eq_true, not_true_eq_false, ↓reduceIte]) <;> (try simp only [hb0, decide_eq_true_eq, decide_eq_false_iff_not, simprocAttr] at hb) <;> (try (exfalso; omega))) | ((first | refine hK _ _ ?_ | (clear hK; refine hK _ _ ?_) | (clear hK; clear hK; refine hK _ _ ?_) | (clear hK; clear hK; clear hK; refine hK _ _ ?_)); clear hK; (try simp only [pst0, simprocAttr])) | (rw [if_pos]; rotate_left 1; omega; simp (maxSteps := 2000000) only [Ty.w, simprocAttr, e0, e1, e2, e3, e4]))
            rw [hs]
          | true =>
            refine owp_useQ (fEqE_c he hfe _) (by (try simp only [Ty.w, simprocAttr, e0, e1, e2, e3, e4]); try rfl) ?_; simp (maxSteps := 2000000) only [Ty.w, simprocAttr, e0, e1, e2, e3, e4]
            repeat' (first | (refine a_seq (fun K hK => ?_)) | (refine a_block ?_) | ((first | refine a_regionS ?_ | refine a_region (fun K hK => ?_) | refine a_ret ?_); simp (maxSteps := 2000000) only [Ty.w, simprocAttr, e0, e1, e2, e3, e4]) | ((first | refine a_skip ?_ | refine a_exit ?_); (try simp only [pst0, simprocAttr])) | (refine a_cond _ (by (try simp (maxSteps := 2000000) only [Ty.w, simprocAttr, e0, e1, e2, e3, e4]); rfl) (fun hb => ?_) (fun hb => ?_) <;> (try simp only [hb0, decide_eq_true_eq, decide_eq_false_iff_not, simprocAttr] at hb) <;> (try (exfalso; omega))) | (with_reducible refine ite_in (fun hb => ?_) (fun hb => ?_) <;> (try simp only [Decidable.not_not] at hb) <;> (try simp only [hb, if_true, if_false, not_false_eq_true, not_true_eq_false, ↓reduceIte]) <;> (try simp only [hb0, decide_eq_true_eq, decide_eq_false_iff_not, simprocAttr] at hb) <;> (try (exfalso; omega))) | ((first | refine hK _ _ ?_ | (clear hK; refine hK _ _ ?_) | (clear hK; clear hK; refine hK _ _ ?_) | (clear hK; clear hK; clear hK; refine hK _ _ ?_)); clear hK; (try simp only [pst0, simprocAttr])) | (rw [if_pos]; rotate_left 1; omega; simp (maxSteps := 2000000) only [Ty.w, simprocAttr, e0, e1, e2, e3, e4]))
            have hs : (Fm.mk op name args params exprs kids).same (.mk op3 name3 args3 params3 exprs3 kids3) = Fm.sames kids kids3 := by simp only [Fm.same, bEq, e0, e1, e2, e3, e4, Bool.true_and]
            refine owp_useQ (fEqF_c hk hfk _) (by (try simp only [Ty.w, simprocAttr, e0, e1, e2, e3, e4]); try rfl) ?_; simp (maxSteps := 2000000) only [Ty.w, simprocAttr, e0, e1, e2, e3, e4]
            repeat' (first | (refine a_seq (fun K hK => ?_)) | (refine a_block ?_) | ((first | refine a_regionS ?_ | refine a_region (fun K hK => ?_) | refine a_ret ?_); simp (maxSteps := 2000000) only [Ty.w, simprocAttr, e0, e1, e2, e3, e4]) | ((first | refine a_skip ?_ | refine a_exit ?_); (try simp only [pst0, simprocAttr])) | (refine a_cond _ (by (try simp (maxSteps := 2000000) only [Ty.w, simprocAttr, e0, e1, e2, e3, e4]); rfl) (fun hb => ?_) (fun hb => ?_) <;> (try simp only [hb0, decide_eq_true_eq, decide_eq_false_iff_not, simprocAttr] at hb) <;> (try (exfalso; omega))) | (with_reducible refine ite_in (fun hb => ?_) (fun hb => ?_) <;> (try simp only [Decidable.not_not] at hb) <;> (try simp only [hb, if_true, if_false, not_false_eq_true, not_true_eq_false, ↓reduceIte]) <;> (try simp only [hb0, decide_eq_true_eq, decide_eq_false_iff_not, simprocAttr] at hb) <;> (try (exfalso; omega))) | ((first | refine hK _ _ ?_ | (clear hK; refine hK _ _ ?_) | (clear hK; clear hK; refine hK _ _ ?_) | (clear hK; clear hK; clear hK; refine hK _ _ ?_)); clear hK; (try simp only [pst0, simprocAttr])) | (rw [if_pos]; rotate_left 1; omega; simp (maxSteps := 2000000) only [Ty.w, simprocAttr, e0, e1, e2, e3, e4]))
            rw [hs]
end Go.Proofs.YtikhonogkpboaaaGreat
namespace Go.Proofs.YtikhonogkpboaaaGreat
open Go.AM
set_option maxHeartbeats 4000000
set_option maxRecDepth 20000
theorem rsameE_c : ∀ a : Ex, a.ok → ∀ b : Ex, b.ok → ∀ h : Heap, PCall Tryz.prog 103 [.agg a.cells, .agg b.cells] h fun r h' => r = .sc (.bool (a.same b)) ∧ h' = h := by
  refine Ex.ind ?_
  intro op name n args kids ih hok
  rintro ⟨op3, name3, n3, args3, kids3⟩ hok3 h
  simp only [Ex.ok] at hok hok3
  obtain ⟨_, _, _, ⟨ha, _⟩, hk, hks⟩ := hok
  obtain ⟨_, _, _, ⟨ha3, _⟩, hk3, hks3⟩ := hok3
  rw [Ex.oks_iff] at hks hks3
  have hfk : ∀ a ∈ kids, ∀ b ∈ kids3, ∀ h : Heap, PCall Tryz.prog 103 [.agg a.cells, .agg b.cells] h fun r h' => r = .sc (.bool (a.same b)) ∧ h' = h := fun a ha b hb => ih a ha (hks a ha) b (hks3 b hb)
  clear ih
  have hl_kids := Ex.rows_len kids
  have hl_kids3 := Ex.rows_len kids3
  have cellsA : (Ex.mk op name n args kids).cells = (Ex.mk op name n args kids).cells := rfl
  have cellsB : (Ex.mk op3 name3 n3 args3 kids3).cells = (Ex.mk op3 name3 n3 args3 kids3).cells := rfl
  conv at cellsA => rhs; simp only [Ex.cells]
  conv at cellsB => rhs; simp only [Ex.cells]
  rw [cellsA, cellsB]
  refine pcall_body (ow := fun _ => false) (wf := fun _ => false) Ty.mixed Tryz.func103 rfl Ty.hb_103 (by rw [Tryz.ntmps103]; simp) ?_
  rw [Tryz.ntmps103, Tryz.results103]
  cases e0 : (op.data.toList == op3.data.toList) with
  | false =>
    have hs : (Ex.mk op name n args kids).same (.mk op3 name3 n3 args3 kids3) = false := by simp only [Ex.same, bEq, e0, Bool.false_and, Bool.and_false]
    repeat' (first | (refine a_seq (fun K hK => ?_)) | (refine a_block ?_) | ((first | refine a_regionS ?_ | refine a_region (fun K hK => ?_) | refine a_ret ?_); simp (maxSteps := 2000000) only [Ty.w, simprocAttr, Bool.not_true, Bool.not_false, e0]) | ((first | refine a_skip ?_ | refine a_exit ?_); (try simp only [pst0, simprocAttr])) | (refine a_cond _ (by (try simp (maxSteps := 2000000) only [Ty.w, simprocAttr, Bool.not_true, Bool.not_false, e0]); rfl) (fun hb => ?_) (fun hb => ?_) <;> (try simp only [hb0, decide_eq_true_eq, decide_eq_false_iff_not, simprocAttr] at hb) <;> (try (exfalso; omega))) | (with_reducible refine ite_in (fun hb => ?_) (fun hb => ?_) <;> (try simp only [Decidable.not_not] at hb) <;> (try simp only [hb, if_true, if_false, not_false_eq_true, not_true_eq_false, ↓reduceIte]) <;> (try simp only [hb0, decide_eq_true_eq, decide_eq_false_iff_not, simprocAttr] at hb) <;> (try (exfalso; omega))) | ((first | refine hK _ _ ?_ | (clear hK; refine hK _ _ ?_) | (clear hK; clear hK; refine hK _ _ ?_) | (clear hK; clear hK; clear hK; refine hK _ _ ?_)); clear hK; (try simp only [pst0, simprocAttr])) | (rw [if_pos]; rotate_left 1; omega; simp (maxSteps := 2000000) only [Ty.w, simprocAttr, Bool.not_true, Bool.not_false, e0]))
    rw [hs]
  | true =>
    cases e1 : (name.data.toList == name3.data.toList) with
    | false =>
      have hs : (Ex.mk op name n args kids).same (.mk op3 name3 n3 args3 kids3) = false := by simp only [Ex.same, bEq, e0, e1, Bool.false_and, Bool.and_false]
      repeat' (first | (refine a_seq (fun K hK => ?_)) | (refine a_block ?_) | ((first | refine a_regionS ?_ | refine a_region (fun K hK => ?_) | refine a_ret ?_); simp (maxSteps := 2000000) only [Ty.w, simprocAttr, Bool.not_true, Bool.not_false, e0, e1]) | ((first | refine a_skip ?_ | refine a_exit ?_); (try simp only [pst0, simprocAttr])) | (refine a_cond _ (by (try simp (maxSteps := 2000000) only [Ty.w, simprocAttr, Bool.not_true, Bool.not_false, e0, e1]); rfl) (fun hb => ?_) (fun hb => ?_) <;> (try simp only [hb0, decide_eq_true_eq, decide_eq_false_iff_not, simprocAttr] at hb) <;> (try (exfalso; omega))) | (with_reducible refine ite_in (fun hb => ?_) (fun hb => ?_) <;> (try simp only [Decidable.not_not] at hb) <;> (try simp only [hb, if_true, if_false, not_false_eq_true, not_true_eq_false, ↓reduceIte]) <;> (try simp only [hb0, decide_eq_true_eq, decide_eq_false_iff_not, simprocAttr] at hb) <;> (try (exfalso; omega))) | ((first | refine hK _ _ ?_ | (clear hK; refine hK _ _ ?_) | (clear hK; clear hK; refine hK _ _ ?_) | (clear hK; clear hK; clear hK; refine hK _ _ ?_)); clear hK; (try simp only [pst0, simprocAttr])) | (rw [if_pos]; rotate_left 1; omega; simp (maxSteps := 2000000) only [Ty.w, simprocAttr, Bool.not_true, Bool.not_false, e0, e1]))
      rw [hs]
    | true =>
      cases e2 : (n != n3) with
      | true =>
        have en : (n == n3) = false := by simpa using e2
        have hs : (Ex.mk op name n args kids).same (.mk op3 name3 n3 args3 kids3) = false := by simp only [Ex.same, bEq, e0, e1, en, Bool.false_and, Bool.and_false]
        repeat' (first | (refine a_seq (fun K hK => ?_)) | (refine a_block ?_) | ((first | refine a_regionS ?_ | refine a_region (fun K hK => ?_) | refine a_ret ?_); simp (maxSteps := 2000000) only [Ty.w, simprocAttr, Bool.not_true, Bool.not_false, e0, e1, e2]) | ((first | refine a_skip ?_ | refine a_exit ?_); (try simp only [pst0, simprocAttr])) | (refine a_cond _ (by (try simp (maxSteps := 2000000) only [Ty.w, simprocAttr, Bool.not_true, Bool.not_false, e0, e1, e2]); rfl) (fun hb => ?_) (fun hb => ?_) <;> (try simp only [hb0, decide_eq_true_eq, decide_eq_false_iff_not, simprocAttr] at hb) <;> (try (exfalso; omega))) | (with_reducible refine ite_in (fun hb => ?_) (fun hb => ?_) <;> (try simp only [Decidable.not_not] at hb) <;> (try simp only [hb, if_true, if_false, not_false_eq_true, not_true_eq_false, ↓reduceIte]) <;> (try simp only [hb0, decide_eq_true_eq, decide_eq_false_iff_not, simprocAttr] at hb) <;> (try (exfalso; omega))) | ((first | refine hK _ _ ?_ | (clear hK; refine hK _ _ ?_) | (clear hK; clear hK; refine hK _ _ ?_) | (clear hK; clear hK; clear hK; refine hK _ _ ?_)); clear hK; (try simp only [pst0, simprocAttr])) | (rw [if_pos]; rotate_left 1; omega; simp (maxSteps := 2000000) only [Ty.w, simprocAttr, Bool.not_true, Bool.not_false, e0, e1, e2]))
        rw [hs]
      | false =>
        have en : (n == n3) = true := by simpa using e2
        repeat' (first | (refine a_seq (fun K hK => ?_)) | (refine a_block ?_) | ((first | refine a_regionS ?_ | refine a_region (fun K hK => ?_) | refine a_ret ?_); simp (maxSteps := 2000000) only [Ty.w, simprocAttr, Bool.not_true, Bool.not_false, e0, e1, e2]) | ((first | refine a_skip ?_ | refine a_exit ?_); (try simp only [pst0, simprocAttr])) | (refine a_cond _ (by (try simp (maxSteps := 2000000) only [Ty.w, simprocAttr, Bool.not_true, Bool.not_false, e0, e1, e2]); rfl) (fun hb => ?_) (fun hb => ?_) <;> (try simp only [hb0, decide_eq_true_eq, decide_eq_false_iff_not, simprocAttr] at hb) <;> (try (exfalso; omega))) | (with_reducible refine ite_in (fun hb => ?_) (fun hb => ?_) <;> (try simp only [Decidable.not_not] at hb) <;> (try simp only [hb, if_true, if_false, not_false_eq_true, not_true_eq_false, ↓reduceIte]) <;> (try simp only [hb0, decide_eq_true_eq, decide_eq_false_iff_not, simprocAttr] at hb) <;> (try (exfalso; omega))) | ((first | refine hK _ _ ?_ | (clear hK; refine hK _ _ ?_) | (clear hK; clear hK; refine hK _ _ ?_) | (clear hK; clear hK; clear hK; refine hK _ _ ?_)); clear hK; (try simp only [pst0, simprocAttr])) | (rw [if_pos]; rotate_left 1; omega; simp (maxSteps := 2000000) only [Ty.w, simprocAttr, Bool.not_true, Bool.not_false, e0, e1, e2]))
        cases e3 : bsEq args args3 with
        | false =>
          have hs : (Ex.mk op name n args kids).same (.mk op3 name3 n3 args3 kids3) = false := by simp only [Ex.same, bEq, e0, e1, en, e3, Bool.false_and, Bool.and_false]
          refine owp_useQ (rtexts_c (l := args) (m := args3) ha ha3) (by (try simp only [Ty.w, simprocAttr, Bool.not_true, Bool.not_false, e0, e1, e2, e3]); try rfl) ?_; simp (maxSteps := 2000000) only [Ty.w, simprocAttr, Bool.not_true, Bool.not_false, e0, e1, e2, e3]
          repeat' (first | (refine a_seq (fun K hK => ?_)) | (refine a_block ?_) | ((first | refine a_regionS ?_ | refine a_region (fun K hK => ?_) | refine a_ret ?_); simp (maxSteps := 2000000) only [Ty.w, simprocAttr, Bool.not_true, Bool.not_false, e0, e1, e2, e3]) | ((first | refine a_skip ?_ | refine a_exit ?_); (try simp only [pst0, simprocAttr])) | (refine a_cond _ (by (try simp (maxSteps := 2000000) only [Ty.w, simprocAttr, Bool.not_true, Bool.not_false, e0, e1, e2, e3]); rfl) (fun hb => ?_) (fun hb => ?_) <;> (try simp only [hb0, decide_eq_true_eq, decide_eq_false_iff_not, simprocAttr] at hb) <;> (try (exfalso; omega))) | (with_reducible refine ite_in (fun hb => ?_) (fun hb => ?_) <;> (try simp only [Decidable.not_not] at hb) <;> (try simp only [hb, if_true, if_false, not_false_eq_true, not_true_eq_false, ↓reduceIte]) <;> (try simp only [hb0, decide_eq_true_eq, decide_eq_false_iff_not, simprocAttr] at hb) <;> (try (exfalso; omega))) | ((first | refine hK _ _ ?_ | (clear hK; refine hK _ _ ?_) | (clear hK; clear hK; refine hK _ _ ?_) | (clear hK; clear hK; clear hK; refine hK _ _ ?_)); clear hK; (try simp only [pst0, simprocAttr])) | (rw [if_pos]; rotate_left 1; omega; simp (maxSteps := 2000000) only [Ty.w, simprocAttr, Bool.not_true, Bool.not_false, e0, e1, e2, e3]))
          rw [hs]
        | true =>
          cases l_kids : ((kids.length : Int) != kids3.length) with
          | true =>
            have hlen : Ex.sames kids kids3 = false := Ex.sames_len (by simp at l_kids; omega)
            have hs : (Ex.mk op name n args kids).same (.mk op3 name3 n3 args3 kids3) = false := by simp only [Ex.same, bEq, e0, e1, en, e3, hlen, Bool.false_and, Bool.and_false]
            refine owp_useQ (rtexts_c (l := args) (m := args3) ha ha3) (by (try simp only [Ty.w, simprocAttr, Bool.not_true, Bool.not_false, e0, e1, e2, e3, l_kids, hl_kids, hl_kids3]); try rfl) ?_; simp (maxSteps := 2000000) only [Ty.w, simprocAttr, Bool.not_true, Bool.not_false, e0, e1, e2, e3, l_kids, hl_kids, hl_kids3]
            repeat' (first | (refine a_seq (fun K hK => ?_)) | (refine a_block ?_) | ((first | refine a_regionS ?_ | refine a_region (fun K hK => ?_) | refine a_ret ?_); simp (maxSteps := 2000000) only [Ty.w, simprocAttr, Bool.not_true, Bool.not_false, e0, e1, e2, e3, l_kids, hl_kids, hl_kids3]) | ((first | refine a_skip ?_ | refine a_exit ?_); (try simp only [pst0, simprocAttr])) | (refine a_cond _ (by (try simp (maxSteps := 2000000) only [Ty.w, simprocAttr, Bool.not_true, Bool.not_false, e0, e1, e2, e3, l_kids, hl_kids, hl_kids3]); rfl) (fun hb => ?_) (fun hb => ?_) <;> (try simp only [hb0, decide_eq_true_eq, decide_eq_false_iff_not, simprocAttr] at hb) <;> (try (exfalso; omega))) | (with_reducible refine ite_in (fun hb => ?_) (fun hb => ?_) <;> (try simp only [Decidable.not_not] at hb) <;> (try simp only [hb, if_true, if_false, not_false_eq_true, not_true_eq_false, ↓reduceIte]) <;> (try simp only [hb0, decide_eq_true_eq, decide_eq_false_iff_not, simprocAttr] at hb) <;> (try (exfalso; omega))) | ((first | refine hK _ _ ?_ | (clear hK; refine hK _ _ ?_) | (clear hK; clear hK; refine hK _ _ ?_) | (clear hK; clear hK; clear hK; refine hK _ _ ?_)); clear hK; (try simp only [pst0, simprocAttr])) | (rw [if_pos]; rotate_left 1; omega; simp (maxSteps := 2000000) only [Ty.w, simprocAttr, Bool.not_true, Bool.not_false, e0, e1, e2, e3, l_kids, hl_kids, hl_kids3]))
            rw [hs]
          | false =>
            have hn_kids : kids.length = kids3.length := by simp at l_kids; omega
            refine owp_useQ (rtexts_c (l := args) (m := args3) ha ha3) (by (try simp only [Ty.w, simprocAttr, Bool.not_true, Bool.not_false, e0, e1, e2, e3, l_kids, hl_kids, hl_kids3]); try rfl) ?_; simp (maxSteps := 2000000) only [Ty.w, simprocAttr, Bool.not_true, Bool.not_false, e0, e1, e2, e3, l_kids, hl_kids, hl_kids3]
            repeat' (first | (refine a_seq (fun K hK => ?_)) | (refine a_block ?_) | ((first | refine a_regionS ?_ | refine a_region (fun K hK => ?_) | refine a_ret ?_); simp (maxSteps := 2000000) only [Ty.w, simprocAttr, Bool.not_true, Bool.not_false, e0, e1, e2, e3, l_kids, hl_kids, hl_kids3]) | ((first | refine a_skip ?_ | refine a_exit ?_); (try simp only [pst0, simprocAttr])) | (refine a_cond _ (by (try simp (maxSteps := 2000000) only [Ty.w, simprocAttr, Bool.not_true, Bool.not_false, e0, e1, e2, e3, l_kids, hl_kids, hl_kids3]); rfl) (fun hb => ?_) (fun hb => ?_) <;> (try simp only [hb0, decide_eq_true_eq, decide_eq_false_iff_not, simprocAttr] at hb) <;> (try (exfalso; omega))) | (with_reducible refine ite_in (fun hb => ?_) (fun hb => ?_) <;> (try simp only [Decidable.not_not] at hb) <;> (try simp only [hb, if_true, if_false, not_false_eq_true, not_true_eq_false, ↓reduceIte]) <;> (try simp only [hb0, decide_eq_true_eq, decide_eq_false_iff_not, simprocAttr] at hb) <;> (try (exfalso; omega))) | ((first | refine hK _ _ ?_ | (clear hK; refine hK _ _ ?_) | (clear hK; clear hK; refine hK _ _ ?_) | (clear hK; clear hK; clear hK; refine hK _ _ ?_)); clear hK; (try simp only [pst0, simprocAttr])) | (rw [if_pos]; rotate_left 1; omega; simp (maxSteps := 2000000) only [Ty.w, simprocAttr, Bool.not_true, Bool.not_false, e0, e1, e2, e3, l_kids, hl_kids, hl_kids3]))
            refine a_loop (fun c S h7 => h7 = h ∧ S 2 = .cptr (Ex.mk op name n args kids).cells ∧ S 3 = .cptr (Ex.mk op3 name3 n3 args3 kids3).cells ∧ ∃ k : Nat, S 5 = .sc (.int .i64 k) ∧ k ≤ kids.length ∧ c = kids.length - k ∧ Ex.sames kids kids3 = Ex.sames (kids.drop k) (kids3.drop k)) kids.length ?_ ?_
            · simp only [Ty.w, simprocAttr, cellsA, cellsB]
              exact ⟨0, rfl, by omega, rfl, by simp⟩
            · rintro c S h7 ⟨rfl, g2, g3, k, gk, hkl, rfl, hinv⟩
              rw [cellsA] at g2
              rw [cellsB] at g3
              by_cases hlt : k < kids.length
              · have hd : decide ((k : Int) < (kids.length : Int)) = true := by simp; omega
                have w7 : IntKind.i64.wrap ((k : Int) + 1) = k + 1 := by unfold bigN at hk; rw [wrap64 (by omega) (by omega)]
                obtain ⟨a, hx⟩ : ∃ a, kids[k]? = some a := ⟨_, List.getElem?_eq_getElem hlt⟩
                obtain ⟨b, hy⟩ : ∃ b, kids3[k]? = some b := ⟨_, List.getElem?_eq_getElem (by omega)⟩
                have hc := hfk a (List.mem_of_getElem? hx) b (List.mem_of_getElem? hy)
                rw [drop_of_get hx, drop_of_get hy] at hinv
                simp only [Ex.sames] at hinv
                have hr := Ex.rows_get hx
                have hr2 := Ex.rows_get hy
                generalize he : a.same b = e at hc hinv
                clear he
                obtain ⟨op2, name2, n2, args2, kids2⟩ := a
                obtain ⟨op4, name4, n4, args4, kids4⟩ := b
                simp only [Ex.cells] at hr hr2 hc
                cases e with
                | false =>
                  have hs : (Ex.mk op name n args kids).same (.mk op3 name3 n3 args3 kids3) = false := by simp only [Ex.same, bEq, hinv, e0, e1, en, e3, Bool.false_and, Bool.and_false]
                  repeat' (first | (refine a_seq (fun K hK => ?_)) | (refine a_block ?_) | ((first | refine a_regionS ?_ | refine a_drawS (by decide +kernel) ?_ | refine a_region (fun K hK => ?_) | refine a_draw (by decide +kernel) (fun K hK => ?_) | refine a_ret ?_); simp (maxSteps := 2000000) only [Ty.w, simprocAttr, g2, g3, gk, hl_kids, hl_kids3, hd, hr, hr2, w7, Bool.not_false]) | ((first | refine a_skip ?_ | refine a_exit ?_); (try simp only [pst0, simprocAttr])) | (refine a_cond _ (by (try simp (maxSteps := 2000000) only [Ty.w, simprocAttr, g2, g3, gk, hl_kids, hl_kids3, hd, hr, hr2, w7, Bool.not_false]); rfl) (fun hb => ?_) (fun hb => ?_) <;> (try simp only [hb0, decide_eq_true_eq, decide_eq_false_iff_not, simprocAttr] at hb) <;> (try (exfalso; omega))) | (with_reducible refine ite_in (fun hb => ?_) (fun hb => ?_) <;> (try simp only [Decidable.not_not] at hb) <;> (try simp only [hb, if_true, if_false, not_false_eq_true, not_true_eq_false, ↓reduceIte]) <;> (try simp only [hb0, decide_eq_true_eq, decide_eq_false_iff_not, simprocAttr] at hb) <;> (try (exfalso; omega))) | ((first | refine hK _ _ ?_ | (clear hK; refine hK _ _ ?_) | (clear hK; clear hK; refine hK _ _ ?_) | (clear hK; clear hK; clear hK; refine hK _ _ ?_)); clear hK; (try simp only [pst0, simprocAttr])) | ((first | with_reducible refine a_past _ rfl (by decide +kernel) ?_ | (with_reducible refine a_past2 (by simp only [List.forall_mem_cons, Ty.w, simprocAttr, g2, g3, gk, hl_kids, hl_kids3, hd, hr, hr2, w7, Bool.not_false]; (repeat' apply And.intro) <;> first | trivial | exact .inl (by decide +kernel)) ?_)); try simp (maxSteps := 2000000) only [Ty.w, simprocAttr, g2, g3, gk, hl_kids, hl_kids3, hd, hr, hr2, w7, Bool.not_false]) | (rw [if_pos]; rotate_left 1; omega; simp (maxSteps := 2000000) only [Ty.w, simprocAttr, g2, g3, gk, hl_kids, hl_kids3, hd, hr, hr2, w7, Bool.not_false]))
                  (first | refine a_dcall0 (hc _) (by (try simp only [Ty.w, simprocAttr, g2, g3, gk, hl_kids, hl_kids3, hd, hr, hr2]); try rfl) ?_ | refine a_dcallA (hc _) (by (try simp only [Ty.w, simprocAttr, g2, g3, gk, hl_kids, hl_kids3, hd, hr, hr2]); try rfl) (by simp only [Ty.w, simprocAttr, g2, g3, gk, hl_kids, hl_kids3, hd, hr, hr2]; try trivial) ?_); simp (maxSteps := 2000000) only [Ty.w, simprocAttr, Option.getD_some, g2, g3, gk, hl_kids, hl_kids3, hd, hr, hr2]
                  repeat' (first | (refine a_seq (fun K hK => ?_)) | (refine a_block ?_) | ((first | refine a_regionS ?_ | refine a_drawS (by decide +kernel) ?_ | refine a_region (fun K hK => ?_) | refine a_draw (by decide +kernel) (fun K hK => ?_) | refine a_ret ?_); simp (maxSteps := 2000000) only [Ty.w, simprocAttr, g2, g3, gk, w7, Bool.not_false]) | ((first | refine a_skip ?_ | refine a_exit ?_); (try simp only [pst0, simprocAttr])) | (refine a_cond _ (by (try simp (maxSteps := 2000000) only [Ty.w, simprocAttr, g2, g3, gk, w7, Bool.not_false]); rfl) (fun hb => ?_) (fun hb => ?_) <;> (try simp only [hb0, decide_eq_true_eq, decide_eq_false_iff_not, simprocAttr] at hb) <;> (try (exfalso; omega))) | (with_reducible refine ite_in (fun hb => ?_) (fun hb => ?_) <;> (try simp only [Decidable.not_not] at hb) <;> (try simp only [hb, if_true, if_false, not_false_eq_true, not_true_eq_false, ↓reduceIte]) <;> (try simp only [hb0, decide_eq_true_eq, decide_eq_false_iff_not, simprocAttr] at hb) <;> (try (exfalso; omega))) | ((first | refine hK _ _ ?_ | (clear hK; refine hK _ _ ?_) | (clear hK; clear hK; refine hK _ _ ?_) | (clear hK; clear hK; clear hK; refine hK _ _ ?_)); clear hK; (try simp only [pst0, simprocAttr])) | ((first | with_reducible refine a_past _ rfl (by decide +kernel) ?_ | (with_reducible refine a_past2 (by simp only [List.forall_mem_cons, Ty.w, simprocAttr, g2, g3, gk, w7, Bool.not_false]; (repeat' apply And.intro) <;> first | trivial | exact .inl (by decide +kernel)) ?_)); try simp (maxSteps := 2000000) only [Ty.w, simprocAttr, g2, g3, gk, w7, Bool.not_false]) | (rw [if_pos]; rotate_left 1; omega; simp (maxSteps := 2000000) only [Ty.w, simprocAttr, g2, g3, gk, w7, Bool.not_false]))
                  rw [hs]
                | true =>
                  rw [Bool.true_and] at hinv
                  repeat' (first | (refine a_seq (fun K hK => ?_)) | (refine a_block ?_) | ((first | refine a_regionS ?_ | refine a_drawS (by decide +kernel) ?_ | refine a_region (fun K hK => ?_) | refine a_draw (by decide +kernel) (fun K hK => ?_) | refine a_ret ?_); simp (maxSteps := 2000000) only [Ty.w, simprocAttr, g2, g3, gk, hl_kids, hl_kids3, hd, hr, hr2, w7, Bool.not_true]) | ((first | refine a_skip ?_ | refine a_exit ?_); (try simp only [pst0, simprocAttr])) | (refine a_cond _ (by (try simp (maxSteps := 2000000) only [Ty.w, simprocAttr, g2, g3, gk, hl_kids, hl_kids3, hd, hr, hr2, w7, Bool.not_true]); rfl) (fun hb => ?_) (fun hb => ?_) <;> (try simp only [hb0, decide_eq_true_eq, decide_eq_false_iff_not, simprocAttr] at hb) <;> (try (exfalso; omega))) | (with_reducible refine ite_in (fun hb => ?_) (fun hb => ?_) <;> (try simp only [Decidable.not_not] at hb) <;> (try simp only [hb, if_true, if_false, not_false_eq_true, not_true_eq_false, ↓reduceIte]) <;> (try simp only [hb0, decide_eq_true_eq, decide_eq_false_iff_not, simprocAttr] at hb) <;> (try (exfalso; omega))) | ((first | refine hK _ _ ?_ | (clear hK; refine hK _ _ ?_) | (clear hK; clear hK; refine hK _ _ ?_) | (clear hK; clear hK; clear hK; refine hK _ _ ?_)); clear hK; (try simp only [pst0, simprocAttr])) | ((first | with_reducible refine a_past _ rfl (by decide +kernel) ?_ | (with_reducible refine a_past2 (by simp only [List.forall_mem_cons, Ty.w, simprocAttr, g2, g3, gk, hl_kids, hl_kids3, hd, hr, hr2, w7, Bool.not_true]; (repeat' apply And.intro) <;> first | trivial | exact .inl (by decide +kernel)) ?_)); try simp (maxSteps := 2000000) only [Ty.w, simprocAttr, g2, g3, gk, hl_kids, hl_kids3, hd, hr, hr2, w7, Bool.not_true]) | (rw [if_pos]; rotate_left 1; omega; simp (maxSteps := 2000000) only [Ty.w, simprocAttr, g2, g3, gk, hl_kids, hl_kids3, hd, hr, hr2, w7, Bool.not_true]))
                  (first | refine a_dcall0 (hc _) (by (try simp only [Ty.w, simprocAttr, g2, g3, gk, hl_kids, hl_kids3, hd, hr, hr2]); try rfl) ?_ | refine a_dcallA (hc _) (by (try simp only [Ty.w, simprocAttr, g2, g3, gk, hl_kids, hl_kids3, hd, hr, hr2]); try rfl) (by simp only [Ty.w, simprocAttr, g2, g3, gk, hl_kids, hl_kids3, hd, hr, hr2]; try trivial) ?_); simp (maxSteps := 2000000) only [Ty.w, simprocAttr, Option.getD_some, g2, g3, gk, hl_kids, hl_kids3, hd, hr, hr2]
                  repeat' (first | (refine a_seq (fun K hK => ?_)) | (refine a_block ?_) | ((first | refine a_regionS ?_ | refine a_drawS (by decide +kernel) ?_ | refine a_region (fun K hK => ?_) | refine a_draw (by decide +kernel) (fun K hK => ?_) | refine a_ret ?_); simp (maxSteps := 2000000) only [Ty.w, simprocAttr, g2, g3, gk, w7, Bool.not_true]) | ((first | refine a_skip ?_ | refine a_exit ?_); (try simp only [pst0, simprocAttr])) | (refine a_cond _ (by (try simp (maxSteps := 2000000) only [Ty.w, simprocAttr, g2, g3, gk, w7, Bool.not_true]); rfl) (fun hb => ?_) (fun hb => ?_) <;> (try simp only [hb0, decide_eq_true_eq, decide_eq_false_iff_not, simprocAttr] at hb) <;> (try (exfalso; omega))) | (with_reducible refine ite_in (fun hb => ?_) (fun hb => ?_) <;> (try simp only [Decidable.not_not] at hb) <;> (try simp only [hb, if_true, if_false, not_false_eq_true, not_true_eq_false, ↓reduceIte]) <;> (try simp only [hb0, decide_eq_true_eq, decide_eq_false_iff_not, simprocAttr] at hb) <;> (try (exfalso; omega))) | ((first | refine hK _ _ ?_ | (clear hK; refine hK _ _ ?_) | (clear hK; clear hK; refine hK _ _ ?_) | (clear hK; clear hK; clear hK; refine hK _ _ ?_)); clear hK; (try simp only [pst0, simprocAttr])) | ((first | with_reducible refine a_past _ rfl (by decide +kernel) ?_ | (with_reducible refine a_past2 (by simp only [List.forall_mem_cons, Ty.w, simprocAttr, g2, g3, gk, w7, Bool.not_true]; (repeat' apply And.intro) <;> first | trivial | exact .inl (by decide +kernel)) ?_)); try simp (maxSteps := 2000000) only [Ty.w, simprocAttr, g2, g3, gk, w7, Bool.not_true]) | (rw [if_pos]; rotate_left 1; omega; simp (maxSteps := 2000000) only [Ty.w, simprocAttr, g2, g3, gk, w7, Bool.not_true]))
                  exact ⟨kids.length - (k + 1), by omega, by rw [cellsA], by rw [cellsB], k + 1, by simp, by omega, rfl, hinv⟩
              · have hd : decide ((k : Int) < (kids.length : Int)) = false := by simp; omega
                rw [List.drop_eq_nil_of_le (by omega), List.drop_eq_nil_of_le (by omega)] at hinv
                have hq0 := hinv
                simp only [Ex.sames] at hq0
                clear hinv
                have hs : (Ex.mk op name n args kids).same (.mk op3 name3 n3 args3 kids3) = true := by simp only [Ex.same, bEq, e0, e1, en, e3, hq0, Bool.true_and]
                repeat' (first | (refine a_seq (fun K hK => ?_)) | (refine a_block ?_) | ((first | refine a_regionS ?_ | refine a_region (fun K hK => ?_) | refine a_ret ?_); simp (maxSteps := 2000000) only [Ty.w, simprocAttr, g2, g3, gk, hl_kids, hl_kids3, hd]) | ((first | refine a_skip ?_ | refine a_exit ?_); (try simp only [pst0, simprocAttr])) | (refine a_cond _ (by (try simp (maxSteps := 2000000) only [Ty.w, simprocAttr, g2, g3, gk, hl_kids, hl_kids3, hd]); rfl) (fun hb => ?_) (fun hb => ?_) <;> (try simp only [hb0, decide_eq_true_eq, decide_eq_false_iff_not, simprocAttr] at hb) <;> (try (exfalso; omega))) | (with_reducible refine ite_in (fun hb => ?_) (fun hb => ?_) <;> (try simp only [Decidable.not_not] at hb) <;> (try simp only [hb, if_true, if_false, not_false_eq_true, not_true_eq_false, ↓reduceIte]) <;> (try simp only [hb0, decide_eq_true_eq, decide_eq_false_iff_not, simprocAttr] at hb) <;> (try (exfalso; omega))) | ((first | refine hK _ _ ?_ | (clear hK; refine hK _ _ ?_) | (clear hK; clear hK; refine hK _ _ ?_) | (clear hK; clear hK; clear hK; refine hK _ _ ?_)); clear hK; (try simp only [pst0, simprocAttr])) | (rw [if_pos]; rotate_left 1; omega; simp (maxSteps := 2000000) only [Ty.w, simprocAttr, g2, g3, gk, hl_kids, hl_kids3, hd]))
                rw [hs]
theorem rsame_c : ∀ a : Fm, a.ok → ∀ b : Fm, b.ok → ∀ h : Heap, PCall Tryz.prog 68 [.agg a.cells, .agg b.cells] h fun r h' => r = .sc (.bool (a.same b)) ∧ h' = h := by
  refine Fm.ind ?_
  intro op name args params exprs kids ih hok
  rintro ⟨op3, name3, args3, params3, exprs3, kids3⟩ hok3 h
  simp only [Fm.ok] at hok hok3
  obtain ⟨_, _, ⟨ha, _⟩, ⟨hp, _⟩, ⟨he, hes⟩, hk, hks⟩ := hok
  obtain ⟨_, _, ⟨ha3, _⟩, ⟨hp3, _⟩, ⟨he3, hes3⟩, hk3, hks3⟩ := hok3
  rw [Fm.oks_iff] at hks hks3
  have hfk : ∀ a ∈ kids, ∀ b ∈ kids3, ∀ h : Heap, PCall Tryz.prog 68 [.agg a.cells, .agg b.cells] h fun r h' => r = .sc (.bool (a.same b)) ∧ h' = h := fun a ha b hb => ih a ha (hks a ha) b (hks3 b hb)
  rw [Ex.oks_iff] at hes hes3
  have hfe : ∀ a ∈ exprs, ∀ b ∈ exprs3, ∀ h : Heap, PCall Tryz.prog 103 [.agg a.cells, .agg b.cells] h fun r h' => r = .sc (.bool (a.same b)) ∧ h' = h := fun a ha b hb => rsameE_c a (hes a ha) b (hes3 b hb)
  clear ih
  have hl_exprs := Ex.rows_len exprs
  have hl_exprs3 := Ex.rows_len exprs3
  have hl_kids := Fm.rows_len kids
  have hl_kids3 := Fm.rows_len kids3
  have cellsA : (Fm.mk op name args params exprs kids).cells = (Fm.mk op name args params exprs kids).cells := rfl
  have cellsB : (Fm.mk op3 name3 args3 params3 exprs3 kids3).cells = (Fm.mk op3 name3 args3 params3 exprs3 kids3).cells := rfl
  conv at cellsA => rhs; simp only [Fm.cells]
  conv at cellsB => rhs; simp only [Fm.cells]
  rw [cellsA, cellsB]
  refine pcall_body (ow := fun _ => false) (wf := fun _ => false) Ty.mixed Tryz.func68 rfl Ty.hb_68 (by rw [Tryz.ntmps68]; simp) ?_
  rw [Tryz.ntmps68, Tryz.results68]
  cases e0 : (op.data.toList == op3.data.toList) with
  | false =>
    have hs : (Fm.mk op name args params exprs kids).same (.mk op3 name3 args3 params3 exprs3 kids3) = false := by simp only [Fm.same, bEq, e0, Bool.false_and, Bool.and_false]
    repeat' (first | (refine a_seq (fun K hK => ?_)) | (refine a_block ?_) | ((first | refine a_regionS ?_ | refine a_region (fun K hK => ?_) | refine a_ret ?_); simp (maxSteps := 2000000) only [Ty.w, simprocAttr, Bool.not_true, Bool.not_false, e0]) | ((first | refine a_skip ?_ | refine a_exit ?_); (try simp only [pst0, simprocAttr])) | (refine a_cond _ (by (try simp (maxSteps := 2000000) only [Ty.w, simprocAttr, Bool.not_true, Bool.not_false, e0]); rfl) (fun hb => ?_) (fun hb => ?_) <;> (try simp only [hb0, decide_eq_true_eq, decide_eq_false_iff_not, simprocAttr] at hb) <;> (try (exfalso; omega))) | (with_reducible refine ite_in (fun hb => ?_) (fun hb => ?_) <;> (try simp only [Decidable.not_not] at hb) <;> (try simp only [hb, if_true, if_false, not_false_eq_true, not_true_eq_false, ↓reduceIte]) <;> (try simp only [hb0, decide_eq_true_eq, decide_eq_false_iff_not, simprocAttr] at hb) <;> (try (exfalso; omega))) | ((first | refine hK _ _ ?_ | (clear hK; refine hK _ _ ?_) | (clear hK; clear hK; refine hK _ _ ?_) | (clear hK; clear hK; clear hK; refine hK _ _ ?_)); clear hK; (try simp only [pst0, simprocAttr])) | (rw [if_pos]; rotate_left 1; omega; simp (maxSteps := 2000000) only [Ty.w, simprocAttr, Bool.not_true, Bool.not_false, e0]))
    rw [hs]
  | true =>
    cases e1 : (name.data.toList == name3.data.toList) with
    | false =>
      have hs : (Fm.mk op name args params exprs kids).same (.mk op3 name3 args3 params3 exprs3 kids3) = false := by simp only [Fm.same, bEq, e0, e1, Bool.false_and, Bool.and_false]
      repeat' (first | (refine a_seq (fun K hK => ?_)) | (refine a_block ?_) | ((first | refine a_regionS ?_ | refine a_region (fun K hK => ?_) | refine a_ret ?_); simp (maxSteps := 2000000) only [Ty.w, simprocAttr, Bool.not_true, Bool.not_false, e0, e1]) | ((first | refine a_skip ?_ | refine a_exit ?_); (try simp only [pst0, simprocAttr])) | (refine a_cond _ (by (try simp (maxSteps := 2000000) only [Ty.w, simprocAttr, Bool.not_true, Bool.not_false, e0, e1]); rfl) (fun hb => ?_) (fun hb => ?_) <;> (try simp only [hb0, decide_eq_true_eq, decide_eq_false_iff_not, simprocAttr] at hb) <;> (try (exfalso; omega))) | (with_reducible refine ite_in (fun hb => ?_) (fun hb => ?_) <;> (try simp only [Decidable.not_not] at hb) <;> (try simp only [hb, if_true, if_false, not_false_eq_true, not_true_eq_false, ↓reduceIte]) <;> (try simp only [hb0, decide_eq_true_eq, decide_eq_false_iff_not, simprocAttr] at hb) <;> (try (exfalso; omega))) | ((first | refine hK _ _ ?_ | (clear hK; refine hK _ _ ?_) | (clear hK; clear hK; refine hK _ _ ?_) | (clear hK; clear hK; clear hK; refine hK _ _ ?_)); clear hK; (try simp only [pst0, simprocAttr])) | (rw [if_pos]; rotate_left 1; omega; simp (maxSteps := 2000000) only [Ty.w, simprocAttr, Bool.not_true, Bool.not_false, e0, e1]))
      rw [hs]
    | true =>
      repeat' (first | (refine a_seq (fun K hK => ?_)) | (refine a_block ?_) | ((first | refine a_regionS ?_ | refine a_region (fun K hK => ?_) | refine a_ret ?_); simp (maxSteps := 2000000) only [Ty.w, simprocAttr, Bool.not_true, Bool.not_false, e0, e1]) | ((first | refine a_skip ?_ | refine a_exit ?_); (try simp only [pst0, simprocAttr])) | (refine a_cond _ (by (try simp (maxSteps := 2000000) only [Ty.w, simprocAttr, Bool.not_true, Bool.not_false, e0, e1]); rfl) (fun hb => ?_) (fun hb => ?_) <;> (try simp only [hb0, decide_eq_true_eq, decide_eq_false_iff_not, simprocAttr] at hb) <;> (try (exfalso; omega))) | (with_reducible refine ite_in (fun hb => ?_) (fun hb => ?_) <;> (try simp only [Decidable.not_not] at hb) <;> (try simp only [hb, if_true, if_false, not_false_eq_true, not_true_eq_false, ↓reduceIte]) <;> (try simp only [hb0, decide_eq_true_eq, decide_eq_false_iff_not, simprocAttr] at hb) <;> (try (exfalso; omega))) | ((first | refine hK _ _ ?_ | (clear hK; refine hK _ _ ?_) | (clear hK; clear hK; refine hK _ _ ?_) | (clear hK; clear hK; clear hK; refine hK _ _ ?_)); clear hK; (try simp only [pst0, simprocAttr])) | (rw [if_pos]; rotate_left 1; omega; simp (maxSteps := 2000000) only [Ty.w, simprocAttr, Bool.not_true, Bool.not_false, e0, e1]))
      cases e2 : bsEq args args3 with
      | false =>
        have hs : (Fm.mk op name args params exprs kids).same (.mk op3 name3 args3 params3 exprs3 kids3) = false := by simp only [Fm.same, bEq, e0, e1, e2, Bool.false_and, Bool.and_false]
        refine owp_useQ (rtexts_c (l := args) (m := args3) ha ha3) (by (try simp only [Ty.w, simprocAttr, Bool.not_true, Bool.not_false, e0, e1, e2]); try rfl) ?_; simp (maxSteps := 2000000) only [Ty.w, simprocAttr, Bool.not_true, Bool.not_false, e0, e1, e2]
        repeat' (first | (refine a_seq (fun K hK => ?_)) | (refine a_block ?_) | ((first | refine a_regionS ?_ | refine a_region (fun K hK => ?_) | refine a_ret ?_); simp (maxSteps := 2000000) only [Ty.w, simprocAttr, Bool.not_true, Bool.not_false, e0, e1, e2]) | ((first | refine a_skip ?_ | refine a_exit ?_); (try simp only [pst0, simprocAttr])) | (refine a_cond _ (by (try simp (maxSteps := 2000000) only [Ty.w, simprocAttr, Bool.not_true, Bool.not_false, e0, e1, e2]); rfl) (fun hb => ?_) (fun hb => ?_) <;> (try simp only [hb0, decide_eq_true_eq, decide_eq_false_iff_not, simprocAttr] at hb) <;> (try (exfalso; omega))) | (with_reducible refine ite_in (fun hb => ?_) (fun hb => ?_) <;> (try simp only [Decidable.not_not] at hb) <;> (try simp only [hb, if_true, if_false, not_false_eq_true, not_true_eq_false, ↓reduceIte]) <;> (try simp only [hb0, decide_eq_true_eq, decide_eq_false_iff_not, simprocAttr] at hb) <;> (try (exfalso; omega))) | ((first | refine hK _ _ ?_ | (clear hK; refine hK _ _ ?_) | (clear hK; clear hK; refine hK _ _ ?_) | (clear hK; clear hK; clear hK; refine hK _ _ ?_)); clear hK; (try simp only [pst0, simprocAttr])) | (rw [if_pos]; rotate_left 1; omega; simp (maxSteps := 2000000) only [Ty.w, simprocAttr, Bool.not_true, Bool.not_false, e0, e1, e2]))
        rw [hs]
      | true =>
        refine owp_useQ (rtexts_c (l := args) (m := args3) ha ha3) (by (try simp only [Ty.w, simprocAttr, Bool.not_true, Bool.not_false, e0, e1, e2, hl_exprs, hl_exprs3, hl_kids, hl_kids3]); try rfl) ?_; simp (maxSteps := 2000000) only [Ty.w, simprocAttr, Bool.not_true, Bool.not_false, e0, e1, e2, hl_exprs, hl_exprs3, hl_kids, hl_kids3]
        repeat' (first | (refine a_seq (fun K hK => ?_)) | (refine a_block ?_) | ((first | refine a_regionS ?_ | refine a_region (fun K hK => ?_) | refine a_ret ?_); simp (maxSteps := 2000000) only [Ty.w, simprocAttr, Bool.not_true, Bool.not_false, e0, e1, e2, hl_exprs, hl_exprs3, hl_kids, hl_kids3]) | ((first | refine a_skip ?_ | refine a_exit ?_); (try simp only [pst0, simprocAttr])) | (refine a_cond _ (by (try simp (maxSteps := 2000000) only [Ty.w, simprocAttr, Bool.not_true, Bool.not_false, e0, e1, e2, hl_exprs, hl_exprs3, hl_kids, hl_kids3]); rfl) (fun hb => ?_) (fun hb => ?_) <;> (try simp only [hb0, decide_eq_true_eq, decide_eq_false_iff_not, simprocAttr] at hb) <;> (try (exfalso; omega))) | (with_reducible refine ite_in (fun hb => ?_) (fun hb => ?_) <;> (try simp only [Decidable.not_not] at hb) <;> (try simp only [hb, if_true, if_false, not_false_eq_true, not_true_eq_false, ↓reduceIte]) <;> (try simp only [hb0, decide_eq_true_eq, decide_eq_false_iff_not, simprocAttr] at hb) <;> (try (exfalso; omega))) | ((first | refine hK _ _ ?_ | (clear hK; refine hK _ _ ?_) | (clear hK; clear hK; refine hK _ _ ?_) | (clear hK; clear hK; clear hK; refine hK _ _ ?_)); clear hK; (try simp only [pst0, simprocAttr])) | (rw [if_pos]; rotate_left 1; omega; simp (maxSteps := 2000000) only [Ty.w, simprocAttr, Bool.not_true, Bool.not_false, e0, e1, e2, hl_exprs, hl_exprs3, hl_kids, hl_kids3]))
        cases e3 : pmsEq params params3 with
        | false =>
          have hs : (Fm.mk op name args params exprs kids).same (.mk op3 name3 args3 params3 exprs3 kids3) = false := by simp only [Fm.same, bEq, e0, e1, e2, e3, Bool.false_and, Bool.and_false]
          refine owp_useQ (rparams_c (l := params) (m := params3) hp hp3) (by (try simp only [Ty.w, simprocAttr, Bool.not_true, Bool.not_false, e0, e1, e2, e3]); try rfl) ?_; simp (maxSteps := 2000000) only [Ty.w, simprocAttr, Bool.not_true, Bool.not_false, e0, e1, e2, e3]
          repeat' (first | (refine a_seq (fun K hK => ?_)) | (refine a_block ?_) | ((first | refine a_regionS ?_ | refine a_region (fun K hK => ?_) | refine a_ret ?_); simp (maxSteps := 2000000) only [Ty.w, simprocAttr, Bool.not_true, Bool.not_false, e0, e1, e2, e3]) | ((first | refine a_skip ?_ | refine a_exit ?_); (try simp only [pst0, simprocAttr])) | (refine a_cond _ (by (try simp (maxSteps := 2000000) only [Ty.w, simprocAttr, Bool.not_true, Bool.not_false, e0, e1, e2, e3]); rfl) (fun hb => ?_) (fun hb => ?_) <;> (try simp only [hb0, decide_eq_true_eq, decide_eq_false_iff_not, simprocAttr] at hb) <;> (try (exfalso; omega))) | (with_reducible refine ite_in (fun hb => ?_) (fun hb => ?_) <;> (try simp only [Decidable.not_not] at hb) <;> (try simp only [hb, if_true, if_false, not_false_eq_true, not_true_eq_false, ↓reduceIte]) <;> (try simp only [hb0, decide_eq_true_eq, decide_eq_false_iff_not, simprocAttr] at hb) <;> (try (exfalso; omega))) | ((first | refine hK _ _ ?_ | (clear hK; refine hK _ _ ?_) | (clear hK; clear hK; refine hK _ _ ?_) | (clear hK; clear hK; clear hK; refine hK _ _ ?_)); clear hK; (try simp only [pst0, simprocAttr])) | (rw [if_pos]; rotate_left 1; omega; simp (maxSteps := 2000000) only [Ty.w, simprocAttr, Bool.not_true, Bool.not_false, e0, e1, e2, e3]))
          rw [hs]
        | true =>
          cases l_exprs : ((exprs.length : Int) != exprs3.length) with
          | true =>
            have hlen : Ex.sames exprs exprs3 = false := Ex.sames_len (by simp at l_exprs; omega)
            have hs : (Fm.mk op name args params exprs kids).same (.mk op3 name3 args3 params3 exprs3 kids3) = false := by simp only [Fm.same, bEq, e0, e1, e2, e3, hlen, Bool.false_and, Bool.and_false]
            refine owp_useQ (rparams_c (l := params) (m := params3) hp hp3) (by (try simp only [Ty.w, simprocAttr, Bool.not_true, Bool.not_false, e0, e1, e2, e3, l_exprs, hl_exprs, hl_exprs3, hl_kids, hl_kids3]); try rfl) ?_; simp (maxSteps := 2000000) only [Ty.w, simprocAttr, Bool.not_true, Bool.not_false, e0, e1, e2, e3, l_exprs, hl_exprs, hl_exprs3, hl_kids, hl_kids3]
            repeat' (first | (refine a_seq (fun K hK => ?_)) | (refine a_block ?_) | ((first | refine a_regionS ?_ | refine a_region (fun K hK => ?_) | refine a_ret ?_); simp (maxSteps := 2000000) only [Ty.w, simprocAttr, Bool.not_true, Bool.not_false, e0, e1, e2, e3, l_exprs, hl_exprs, hl_exprs3, hl_kids, hl_kids3]) | ((first | refine a_skip ?_ | refine a_exit ?_); (try simp only [pst0, simprocAttr])) | (refine a_cond _ (by (try simp (maxSteps := 2000000) only [Ty.w, simprocAttr, Bool.not_true, Bool.not_false, e0, e1, e2, e3, l_exprs, hl_exprs, hl_exprs3, hl_kids, hl_kids3]); rfl) (fun hb => ?_) (fun hb => ?_) <;> (try simp only [hb0, decide_eq_true_eq, decide_eq_false_iff_not, simprocAttr] at hb) <;> (try (exfalso; omega))) | (with_reducible refine ite_in (fun hb => ?_) (fun hb => ?_) <;> (try simp only [Decidable.not_not] at hb) <;> (try simp only [hb, if_true, if_false, not_false_eq_true, not_true_eq_false, ↓reduceIte]) <;> (try simp only [hb0, decide_eq_true_eq, decide_eq_false_iff_not, simprocAttr] at hb) <;> (try (exfalso; omega))) | ((first | refine hK _ _ ?_ | (clear hK; refine hK _ _ ?_) | (clear hK; clear hK; refine hK _ _ ?_) | (clear hK; clear hK; clear hK; refine hK _ _ ?_)); clear hK; (try simp only [pst0, simprocAttr])) | (rw [if_pos]; rotate_left 1; omega; simp (maxSteps := 2000000) only [Ty.w, simprocAttr, Bool.not_true, Bool.not_false, e0, e1, e2, e3, l_exprs, hl_exprs, hl_exprs3, hl_kids, hl_kids3]))
            rw [hs]
          | false =>
            have hn_exprs : exprs.length = exprs3.length := by simp at l_exprs; omega
            cases l_kids : ((kids.length : Int) != kids3.length) with
            | true =>
              have hlen : Fm.sames kids kids3 = false := Fm.sames_len (by simp at l_kids; omega)
              have hs : (Fm.mk op name args params exprs kids).same (.mk op3 name3 args3 params3 exprs3 kids3) = false := by simp only [Fm.same, bEq, e0, e1, e2, e3, hlen, Bool.false_and, Bool.and_false]
              refine owp_useQ (rparams_c (l := params) (m := params3) hp hp3) (by (try simp only [Ty.w, simprocAttr, Bool.not_true, Bool.not_false, e0, e1, e2, e3, l_exprs, l_kids, hl_exprs, hl_exprs3, hl_kids, hl_kids3]); try rfl) ?_; simp (maxSteps := 2000000) only [Ty.w, simprocAttr, Bool.not_true, Bool.not_false, e0, e1, e2, e3, l_exprs, l_kids, hl_exprs, hl_exprs3, hl_kids, hl_kids3]
              repeat' (first | (refine a_seq (fun K hK => ?_)) | (refine a_block ?_) | ((first | refine a_regionS ?_ | refine a_region (fun K hK => ?_) | refine a_ret ?_); simp (maxSteps := 2000000) only [Ty.w, simprocAttr, Bool.not_true, Bool.not_false, e0, e1, e2, e3, l_exprs, l_kids, hl_exprs, hl_exprs3, hl_kids, hl_kids3]) | ((first | refine a_skip ?_ | refine a_exit ?_); (try simp only [pst0, simprocAttr])) | (refine a_cond _ (by (try simp (maxSteps := 2000000) only [Ty.w, simprocAttr, Bool.not_true, Bool.not_false, e0, e1, e2, e3, l_exprs, l_kids, hl_exprs, hl_exprs3, hl_kids, hl_kids3]); rfl) (fun hb => ?_) (fun hb => ?_) <;> (try simp only [hb0, decide_eq_true_eq, decide_eq_false_iff_not, simprocAttr] at hb) <;> (try (exfalso; omega))) | (with_reducible refine ite_in (fun hb => ?_) (fun hb => ?_) <;> (try simp only [Decidable.not_not] at hb) <;> (try simp only [hb, if_true, if_false, not_false_eq_true, not_true_eq_false, ↓reduceIte]) <;> (try simp only [hb0, decide_eq_true_eq, decide_eq_false_iff_not, simprocAttr] at hb) <;> (try (exfalso; omega))) | ((first | refine hK _ _ ?_ | (clear hK; refine hK _ _ ?_) | (clear hK; clear hK; refine hK _ _ ?_) | (clear hK; clear hK; clear hK; refine hK _ _ ?_)); clear hK; (try simp only [pst0, simprocAttr])) | (rw [if_pos]; rotate_left 1; omega; simp (maxSteps := 2000000) only [Ty.w, simprocAttr, Bool.not_true, Bool.not_false, e0, e1, e2, e3, l_exprs, l_kids, hl_exprs, hl_exprs3, hl_kids, hl_kids3]))
              rw [hs]
            | false =>
              have hn_kids : kids.length = kids3.length := by simp at l_kids; omega
              refine owp_useQ (rparams_c (l := params) (m := params3) hp hp3) (by (try simp only [Ty.w, simprocAttr, Bool.not_true, Bool.not_false, e0, e1, e2, e3, l_exprs, l_kids, hl_exprs, hl_exprs3, hl_kids, hl_kids3]); try rfl) ?_; simp (maxSteps := 2000000) only [Ty.w, simprocAttr, Bool.not_true, Bool.not_false, e0, e1, e2, e3, l_exprs, l_kids, hl_exprs, hl_exprs3, hl_kids, hl_kids3]
              repeat' (first | (refine a_seq (fun K hK => ?_)) | (refine a_block ?_) | ((first | refine a_regionS ?_ | refine a_region (fun K hK => ?_) | refine a_ret ?_); simp (maxSteps := 2000000) only [Ty.w, simprocAttr, Bool.not_true, Bool.not_false, e0, e1, e2, e3, l_exprs, l_kids, hl_exprs, hl_exprs3, hl_kids, hl_kids3]) | ((first | refine a_skip ?_ | refine a_exit ?_); (try simp only [pst0, simprocAttr])) | (refine a_cond _ (by (try simp (maxSteps := 2000000) only [Ty.w, simprocAttr, Bool.not_true, Bool.not_false, e0, e1, e2, e3, l_exprs, l_kids, hl_exprs, hl_exprs3, hl_kids, hl_kids3]); rfl) (fun hb => ?_) (fun hb => ?_) <;> (try simp only [hb0, decide_eq_true_eq, decide_eq_false_iff_not, simprocAttr] at hb) <;> (try (exfalso; omega))) | (with_reducible refine ite_in (fun hb => ?_) (fun hb => ?_) <;> (try simp only [Decidable.not_not] at hb) <;> (try simp only [hb, if_true, if_false, not_false_eq_true, not_true_eq_false, ↓reduceIte]) <;> (try simp only [hb0, decide_eq_true_eq, decide_eq_false_iff_not, simprocAttr] at hb) <;> (try (exfalso; omega))) | ((first | refine hK _ _ ?_ | (clear hK; refine hK _ _ ?_) | (clear hK; clear hK; refine hK _ _ ?_) | (clear hK; clear hK; clear hK; refine hK _ _ ?_)); clear hK; (try simp only [pst0, simprocAttr])) | (rw [if_pos]; rotate_left 1; omega; simp (maxSteps := 2000000) only [Ty.w, simprocAttr, Bool.not_true, Bool.not_false, e0, e1, e2, e3, l_exprs, l_kids, hl_exprs, hl_exprs3, hl_kids, hl_kids3]))
              refine a_loop (fun c S h7 => h7 = h ∧ S 2 = .cptr (Fm.mk op name args params exprs kids).cells ∧ S 3 = .cptr (Fm.mk op3 name3 args3 params3 exprs3 kids3).cells ∧ ∃ k : Nat, S 5 = .sc (.int .i64 k) ∧ k ≤ exprs.length ∧ c = exprs.length - k ∧ Ex.sames exprs exprs3 = Ex.sames (exprs.drop k) (exprs3.drop k)) exprs.length ?_ ?_
              · simp only [Ty.w, simprocAttr, cellsA, cellsB]
                exact ⟨0, rfl, by omega, rfl, by simp⟩
              · rintro c S h7 ⟨rfl, g2, g3, k, gk, hkl, rfl, hinv⟩
                rw [cellsA] at g2
                rw [cellsB] at g3
                by_cases hlt : k < exprs.length
                · have hd : decide ((k : Int) < (exprs.length : Int)) = true := by simp; omega
                  have w7 : IntKind.i64.wrap ((k : Int) + 1) = k + 1 := by unfold bigN at he; rw [wrap64 (by omega) (by omega)]
                  obtain ⟨a, hx⟩ : ∃ a, exprs[k]? = some a := ⟨_, List.getElem?_eq_getElem hlt⟩
                  obtain ⟨b, hy⟩ : ∃ b, exprs3[k]? = some b := ⟨_, List.getElem?_eq_getElem (by omega)⟩
                  have hc := hfe a (List.mem_of_getElem? hx) b (List.mem_of_getElem? hy)
                  rw [drop_of_get hx, drop_of_get hy] at hinv
                  simp only [Ex.sames] at hinv
                  have hr := Ex.rows_get hx
                  have hr2 := Ex.rows_get hy
                  generalize he : a.same b = e at hc hinv
                  clear he
                  obtain ⟨op2, name2, n2, args2, kids2⟩ := a
                  obtain ⟨op4, name4, n4, args4, kids4⟩ := b
                  simp only [Ex.cells] at hr hr2 hc
                  cases e with
                  | false =>
                    have hs : (Fm.mk op name args params exprs kids).same (.mk op3 name3 args3 params3 exprs3 kids3) = false := by simp only [Fm.same, bEq, hinv, e0, e1, e2, e3, Bool.false_and, Bool.and_false]
                    repeat' (first | (refine a_seq (fun K hK => ?_)) | (refine a_block ?_) | ((first | refine a_regionS ?_ | refine a_drawS (by decide +kernel) ?_ | refine a_region (fun K hK => ?_) | refine a_draw (by decide +kernel) (fun K hK => ?_) | refine a_ret ?_); simp (maxSteps := 2000000) only [Ty.w, simprocAttr, g2, g3, gk, hl_exprs, hl_exprs3, hl_kids, hl_kids3, hd, hr, hr2, w7, Bool.not_false]) | ((first | refine a_skip ?_ | refine a_exit ?_); (try simp only [pst0, simprocAttr])) | (refine a_cond _ (by (try simp (maxSteps := 2000000) only [Ty.w, simprocAttr, g2, g3, gk, hl_exprs, hl_exprs3, hl_kids, hl_kids3, hd, hr, hr2, w7, Bool.not_false]); rfl) (fun hb => ?_) (fun hb => ?_) <;> (try simp only [hb0, decide_eq_true_eq, decide_eq_false_iff_not, simprocAttr] at hb) <;> (try (exfalso; omega))) | (with_reducible refine ite_in (fun hb => ?_) (fun hb => ?_) <;> (try simp only [Decidable.not_not] at hb) <;> (try simp only [hb, if_true, if_false, not_false_eq_true, not_true_eq_false, ↓reduceIte]) <;> (try simp only [hb0, decide_eq_true_eq, decide_eq_false_iff_not, simprocAttr] at hb) <;> (try (exfalso; omega))) | ((first | refine hK _ _ ?_ | (clear hK; refine hK _ _ ?_) | (clear hK; clear hK; refine hK _ _ ?_) | (clear hK; clear hK; clear hK; refine hK _ _ ?_)); clear hK; (try simp only [pst0, simprocAttr])) | ((first | with_reducible refine a_past _ rfl (by decide +kernel) ?_ | (with_reducible refine a_past2 (by simp only [List.forall_mem_cons, Ty.w, simprocAttr, g2, g3, gk, hl_exprs, hl_exprs3, hl_kids, hl_kids3, hd, hr, hr2, w7, Bool.not_false]; (repeat' apply And.intro) <;> first | trivial | exact .inl (by decide +kernel)) ?_)); try simp (maxSteps := 2000000) only [Ty.w, simprocAttr, g2, g3, gk, hl_exprs, hl_exprs3, hl_kids, hl_kids3, hd, hr, hr2, w7, Bool.not_false]) | (rw [if_pos]; rotate_left 1; omega; simp (maxSteps := 2000000) only [Ty.w, simprocAttr, g2, g3, gk, hl_exprs, hl_exprs3, hl_kids, hl_kids3, hd, hr, hr2, w7, Bool.not_false]))
                    (first | refine a_dcall0 (hc _) (by (try simp only [Ty.w, simprocAttr, g2, g3, gk, hl_exprs, hl_exprs3, hl_kids, hl_kids3, hd, hr, hr2]); try rfl) ?_ | refine a_dcallA (hc _) (by (try simp only [Ty.w, simprocAttr, g2, g3, gk, hl_exprs, hl_exprs3, hl_kids, hl_kids3, hd, hr, hr2]); try rfl) (by simp only [Ty.w, simprocAttr, g2, g3, gk, hl_exprs, hl_exprs3, hl_kids, hl_kids3, hd, hr, hr2]; try trivial) ?_); simp (maxSteps := 2000000) only [Ty.w, simprocAttr, Option.getD_some, g2, g3, gk, hl_exprs, hl_exprs3, hl_kids, hl_kids3, hd, hr, hr2]
                    repeat' (first | (refine a_seq (fun K hK => ?_)) | (refine a_block ?_) | ((first | refine a_regionS ?_ | refine a_drawS (by decide +kernel) ?_ | refine a_region (fun K hK => ?_) | refine a_draw (by decide +kernel) (fun K hK => ?_) | refine a_ret ?_); simp (maxSteps := 2000000) only [Ty.w, simprocAttr, g2, g3, gk, w7, Bool.not_false]) | ((first | refine a_skip ?_ | refine a_exit ?_); (try simp only [pst0, simprocAttr])) | (refine a_cond _ (by (try simp (maxSteps := 2000000) only [Ty.w, simprocAttr, g2, g3, gk, w7, Bool.not_false]); rfl) (fun hb => ?_) (fun hb => ?_) <;> (try simp only [hb0, decide_eq_true_eq, decide_eq_false_iff_not, simprocAttr] at hb) <;> (try (exfalso; omega))) | (with_reducible refine ite_in (fun hb => ?_) (fun hb => ?_) <;> (try simp only [Decidable.not_not] at hb) <;> (try simp only [hb, if_true, if_false, not_false_eq_true, not_true_eq_false, ↓reduceIte]) <;> (try simp only [hb0, decide_eq_true_eq, decide_eq_false_iff_not, simprocAttr] at hb) <;> (try (exfalso; omega))) | ((first | refine hK _ _ ?_ | (clear hK; refine hK _ _ ?_) | (clear hK; clear hK; refine hK _ _ ?_) | (clear hK; clear hK; clear hK; refine hK _ _ ?_)); clear hK; (try simp only [pst0, simprocAttr])) | ((first | with_reducible refine a_past _ rfl (by decide +kernel) ?_ | (with_reducible refine a_past2 (by simp only [List.forall_mem_cons, Ty.w, simprocAttr, g2, g3, gk, w7, Bool.not_false]; (repeat' apply And.intro) <;> first | trivial | exact .inl (by decide +kernel)) ?_)); try simp (maxSteps := 2000000) only [Ty.w, simprocAttr, g2, g3, gk, w7, Bool.not_false]) | (rw [if_pos]; rotate_left 1; omega; simp (maxSteps := 2000000) only [Ty.w, simprocAttr, g2, g3, gk, w7, Bool.not_false]))
                    rw [hs]
                  | true =>
                    rw [Bool.true_and] at hinv
                    repeat' (first | (refine a_seq (fun K hK => ?_)) | (refine a_block ?_) | ((first | refine a_regionS ?_ | refine a_drawS (by decide +kernel) ?_ | refine a_region (fun K hK => ?_) | refine a_draw (by decide +kernel) (fun K hK => ?_) | refine a_ret ?_); simp (maxSteps := 2000000) only [Ty.w, simprocAttr, g2, g3, gk, hl_exprs, hl_exprs3, hl_kids, hl_kids3, hd, hr, hr2, w7, Bool.not_true]) | ((first | refine a_skip ?_ | refine a_exit ?_); (try simp only [pst0, simprocAttr])) | (refine a_cond _ (by (try simp (maxSteps := 2000000) only [Ty.w, simprocAttr, g2, g3, gk, hl_exprs, hl_exprs3, hl_kids, hl_kids3, hd, hr, hr2, w7, Bool.not_true]); rfl) (fun hb => ?_) (fun hb => ?_) <;> (try simp only [hb0, decide_eq_true_eq, decide_eq_false_iff_not, simprocAttr] at hb) <;> (try (exfalso; omega))) | (with_reducible refine ite_in (fun hb => ?_) (fun hb => ?_) <;> (try simp only [Decidable.not_not] at hb) <;> (try simp only [hb, if_true, if_false, not_false_eq_true, not_true_eq_false, ↓reduceIte]) <;> (try simp only [hb0, decide_eq_true_eq, decide_eq_false_iff_not, simprocAttr] at hb) <;> (try (exfalso; omega))) | ((first | refine hK _ _ ?_ | (clear hK; refine hK _ _ ?_) | (clear hK; clear hK; refine hK _ _ ?_) | (clear hK; clear hK; clear hK; refine hK _ _ ?_)); clear hK; (try simp only [pst0, simprocAttr])) | ((first | with_reducible refine a_past _ rfl (by decide +kernel) ?_ | (with_reducible refine a_past2 (by simp only [List.forall_mem_cons, Ty.w, simprocAttr, g2, g3, gk, hl_exprs, hl_exprs3, hl_kids, hl_kids3, hd, hr, hr2, w7, Bool.not_true]; (repeat' apply And.intro) <;> first | trivial | exact .inl (by decide +kernel)) ?_)); try simp (maxSteps := 2000000) only [Ty.w, simprocAttr, g2, g3, gk, hl_exprs, hl_exprs3, hl_kids, hl_kids3, hd, hr, hr2, w7, Bool.not_true]) | (rw [if_pos]; rotate_left 1; omega; simp (maxSteps := 2000000) only [Ty.w, simprocAttr, g2, g3, gk, hl_exprs, hl_exprs3, hl_kids, hl_kids3, hd, hr, hr2, w7, Bool.not_true]))
                    (first | refine a_dcall0 (hc _) (by (try simp only [Ty.w, simprocAttr, g2, g3, gk, hl_exprs, hl_exprs3, hl_kids, hl_kids3, hd, hr, hr2]); try rfl) ?_ | refine a_dcallA (hc _) (by (try simp only [Ty.w, simprocAttr, g2, g3, gk, hl_exprs, hl_exprs3, hl_kids, hl_kids3, hd, hr, hr2]); try rfl) (by simp only [Ty.w, simprocAttr, g2, g3, gk, hl_exprs, hl_exprs3, hl_kids, hl_kids3, hd, hr, hr2]; try trivial) ?_); simp (maxSteps := 2000000) only [Ty.w, simprocAttr, Option.getD_some, g2, g3, gk, hl_exprs, hl_exprs3, hl_kids, hl_kids3, hd, hr, hr2]
                    repeat' (first | (refine a_seq (fun K hK => ?_)) | (refine a_block ?_) | ((first | refine a_regionS ?_ | refine a_drawS (by decide +kernel) ?_ | refine a_region (fun K hK => ?_) | refine a_draw (by decide +kernel) (fun K hK => ?_) | refine a_ret ?_); simp (maxSteps := 2000000) only [Ty.w, simprocAttr, g2, g3, gk, w7, Bool.not_true]) | ((first | refine a_skip ?_ | refine a_exit ?_); (try simp only [pst0, simprocAttr])) | (refine a_cond _ (by (try simp (maxSteps := 2000000) only [Ty.w, simprocAttr, g2, g3, gk, w7, Bool.not_true]); rfl) (fun hb => ?_) (fun hb => ?_) <;> (try simp only [hb0, decide_eq_true_eq, decide_eq_false_iff_not, simprocAttr] at hb) <;> (try (exfalso; omega))) | (with_reducible refine ite_in (fun hb => ?_) (fun hb => ?_) <;> (try simp only [Decidable.not_not] at hb) <;> (try simp only [hb, if_true, if_false, not_false_eq_true, not_true_eq_false, ↓reduceIte]) <;> (try simp only [hb0, decide_eq_true_eq, decide_eq_false_iff_not, simprocAttr] at hb) <;> (try (exfalso; omega))) | ((first | refine hK _ _ ?_ | (clear hK; refine hK _ _ ?_) | (clear hK; clear hK; refine hK _ _ ?_) | (clear hK; clear hK; clear hK; refine hK _ _ ?_)); clear hK; (try simp only [pst0, simprocAttr])) | ((first | with_reducible refine a_past _ rfl (by decide +kernel) ?_ | (with_reducible refine a_past2 (by simp only [List.forall_mem_cons, Ty.w, simprocAttr, g2, g3, gk, w7, Bool.not_true]; (repeat' apply And.intro) <;> first | trivial | exact .inl (by decide +kernel)) ?_)); try simp (maxSteps := 2000000) only [Ty.w, simprocAttr, g2, g3, gk, w7, Bool.not_true]) | (rw [if_pos]; rotate_left 1; omega; simp (maxSteps := 2000000) only [Ty.w, simprocAttr, g2, g3, gk, w7, Bool.not_true]))
                    exact ⟨exprs.length - (k + 1), by omega, by rw [cellsA], by rw [cellsB], k + 1, by simp, by omega, rfl, hinv⟩
                · have hd : decide ((k : Int) < (exprs.length : Int)) = false := by simp; omega
                  rw [List.drop_eq_nil_of_le (by omega), List.drop_eq_nil_of_le (by omega)] at hinv
                  have hq0 := hinv
                  simp only [Ex.sames] at hq0
                  clear hinv
                  repeat' (first | (refine a_seq (fun K hK => ?_)) | (refine a_block ?_) | ((first | refine a_regionS ?_ | refine a_region (fun K hK => ?_) | refine a_ret ?_); simp (maxSteps := 2000000) only [Ty.w, simprocAttr, g2, g3, gk, hl_exprs, hl_exprs3, hl_kids, hl_kids3, hd]) | ((first | refine a_skip ?_ | refine a_exit ?_); (try simp only [pst0, simprocAttr])) | (refine a_cond _ (by (try simp (maxSteps := 2000000) only [Ty.w, simprocAttr, g2, g3, gk, hl_exprs, hl_exprs3, hl_kids, hl_kids3, hd]); rfl) (fun hb => ?_) (fun hb => ?_) <;> (try simp only [hb0, decide_eq_true_eq, decide_eq_false_iff_not, simprocAttr] at hb) <;> (try (exfalso; omega))) | (with_reducible refine ite_in (fun hb => ?_) (fun hb => ?_) <;> (try simp only [Decidable.not_not] at hb) <;> (try simp only [hb, if_true, if_false, not_false_eq_true, not_true_eq_false, ↓reduceIte]) <;> (try simp only [hb0, decide_eq_true_eq, decide_eq_false_iff_not, simprocAttr] at hb) <;> (try (exfalso; omega))) | ((first | refine hK _ _ ?_ | (clear hK; refine hK _ _ ?_) | (clear hK; clear hK; refine hK _ _ ?_) | (clear hK; clear hK; clear hK; refine hK _ _ ?_)); clear hK; (try simp only [pst0, simprocAttr])) | (rw [if_pos]; rotate_left 1; omega; simp (maxSteps := 2000000) only [Ty.w, simprocAttr, g2, g3, gk, hl_exprs, hl_exprs3, hl_kids, hl_kids3, hd]))
                  clear gk
                  refine a_loop (fun c S h8 => h8 = h7 ∧ S 2 = .cptr (Fm.mk op name args params exprs kids).cells ∧ S 3 = .cptr (Fm.mk op3 name3 args3 params3 exprs3 kids3).cells ∧ ∃ k : Nat, S 6 = .sc (.int .i64 k) ∧ k ≤ kids.length ∧ c = kids.length - k ∧ Fm.sames kids kids3 = Fm.sames (kids.drop k) (kids3.drop k)) kids.length ?_ ?_
                  · simp only [Ty.w, simprocAttr, cellsA, cellsB, g2, g3]
                    exact ⟨0, rfl, by omega, rfl, by simp⟩
                  · clear g2 g3; rintro c S h8 ⟨rfl, g2, g3, k, gk, hkl, rfl, hinv⟩
                    rw [cellsA] at g2
                    rw [cellsB] at g3
                    by_cases hlt : k < kids.length
                    · have hd : decide ((k : Int) < (kids.length : Int)) = true := by simp; omega
                      have w7 : IntKind.i64.wrap ((k : Int) + 1) = k + 1 := by unfold bigN at hk; rw [wrap64 (by omega) (by omega)]
                      obtain ⟨a, hx⟩ : ∃ a, kids[k]? = some a := ⟨_, List.getElem?_eq_getElem hlt⟩
                      obtain ⟨b, hy⟩ : ∃ b, kids3[k]? = some b := ⟨_, List.getElem?_eq_getElem (by omega)⟩
                      have hc := hfk a (List.mem_of_getElem? hx) b (List.mem_of_getElem? hy)
                      rw [drop_of_get hx, drop_of_get hy] at hinv
                      simp only [Fm.sames] at hinv
                      have hr := Fm.rows_get hx
                      have hr2 := Fm.rows_get hy
                      generalize he : a.same b = e at hc hinv
                      clear he
                      obtain ⟨op2, name2, args2, params2, exprs2, kids2⟩ := a
                      obtain ⟨op4, name4, args4, params4, exprs4, kids4⟩ := b
                      simp only [Fm.cells] at hr hr2 hc
                      cases e with
                      | false =>
                        have hs : (Fm.mk op name args params exprs kids).same (.mk op3 name3 args3 params3 exprs3 kids3) = false := by simp only [Fm.same, bEq, hinv, e0, e1, e2, e3, hq0, Bool.false_and, Bool.and_false]
                        repeat' (first | (refine a_seq (fun K hK => ?_)) | (refine a_block ?_) | ((first | refine a_regionS ?_ | refine a_drawS (by decide +kernel) ?_ | refine a_region (fun K hK => ?_) | refine a_draw (by decide +kernel) (fun K hK => ?_) | refine a_ret ?_); simp (maxSteps := 2000000) only [Ty.w, simprocAttr, g2, g3, gk, hl_exprs, hl_exprs3, hl_kids, hl_kids3, hd, hr, hr2, w7, Bool.not_false]) | ((first | refine a_skip ?_ | refine a_exit ?_); (try simp only [pst0, simprocAttr])) | (refine a_cond _ (by (try simp (maxSteps := 2000000) only [Ty.w, simprocAttr, g2, g3, gk, hl_exprs, hl_exprs3, hl_kids, hl_kids3, hd, hr, hr2, w7, Bool.not_false]); rfl) (fun hb => ?_) (fun hb => ?_) <;> (try simp only [hb0, decide_eq_true_eq, decide_eq_false_iff_not, simprocAttr] at hb) <;> (try (exfalso; omega))) | (with_reducible refine ite_in (fun hb => ?_) (fun hb => ?_) <;> (try simp only [Decidable.not_not] at hb) <;> (try simp only [hb, if_true, if_false, not_false_eq_true, not_true_eq_false, ↓reduceIte]) <;> (try simp only [hb0, decide_eq_true_eq, decide_eq_false_iff_not, simprocAttr] at hb) <;> (try (exfalso; omega))) | ((first | refine hK _ _ ?_ | (clear hK; refine hK _ _ ?_) | (clear hK; clear hK; refine hK _ _ ?_) | (clear hK; clear hK; clear hK; refine hK _ _ ?_)); clear hK; (try simp only [pst0, simprocAttr])) | ((first | with_reducible refine a_past _ rfl (by decide +kernel) ?_ | (with_reducible refine a_past2 (by simp only [List.forall_mem_cons, Ty.w, simprocAttr, g2, g3, gk, hl_exprs, hl_exprs3, hl_kids, hl_kids3, hd, hr, hr2, w7, Bool.not_false]; (repeat' apply And.intro) <;> first | trivial | exact .inl (by decide +kernel)) ?_)); try simp (maxSteps := 2000000) only [Ty.w, simprocAttr, g2, g3, gk, hl_exprs, hl_exprs3, hl_kids, hl_kids3, hd, hr, hr2, w7, Bool.not_false]) | (rw [if_pos]; rotate_left 1; omega; simp (maxSteps := 2000000) only [Ty.w, simprocAttr, g2, g3, gk, hl_exprs, hl_exprs3, hl_kids, hl_kids3, hd, hr, hr2, w7, Bool.not_false]))
                        (first | refine a_dcall0 (hc _) (by (try simp only [Ty.w, simprocAttr, g2, g3, gk, hl_exprs, hl_exprs3, hl_kids, hl_kids3, hd, hr, hr2]); try rfl) ?_ | refine a_dcallA (hc _) (by (try simp only [Ty.w, simprocAttr, g2, g3, gk, hl_exprs, hl_exprs3, hl_kids, hl_kids3, hd, hr, hr2]); try rfl) (by simp only [Ty.w, simprocAttr, g2, g3, gk, hl_exprs, hl_exprs3, hl_kids, hl_kids3, hd, hr, hr2]; try trivial) ?_); simp (maxSteps := 2000000) only [Ty.w, simprocAttr, Option.getD_some, g2, g3, gk, hl_exprs, hl_exprs3, hl_kids, hl_kids3, hd, hr, hr2]
                        repeat' (first | (refine a_seq (fun K hK => ?_)) | (refine a_block ?_) | ((first | refine a_regionS ?_ | refine a_drawS (by decide +kernel) ?_ | refine a_region (fun K hK => ?_) | refine a_draw (by decide +kernel) (fun K hK => ?_) | refine a_ret ?_); simp (maxSteps := 2000000) only [Ty.w, simprocAttr, g2, g3, gk, w7, Bool.not_false]) | ((first | refine a_skip ?_ | refine a_exit ?_); (try simp only [pst0, simprocAttr])) | (refine a_cond _ (by (try simp (maxSteps := 2000000) only [Ty.w, simprocAttr, g2, g3, gk, w7, Bool.not_false]); rfl) (fun hb => ?_) (fun hb => ?_) <;> (try simp only [hb0, decide_eq_true_eq, decide_eq_false_iff_not, simprocAttr] at hb) <;> (try (exfalso; omega))) | (with_reducible refine ite_in (fun hb => ?_) (fun hb => ?_) <;> (try simp only [Decidable.not_not] at hb) <;> (try simp only [hb, if_true, if_false, not_false_eq_true, not_true_eq_false, ↓reduceIte]) <;> (try simp only [hb0, decide_eq_true_eq, decide_eq_false_iff_not, simprocAttr] at hb) <;> (try (exfalso; omega))) | ((first | refine hK _ _ ?_ | (clear hK; refine hK _ _ ?_) | (clear hK; clear hK; refine hK _ _ ?_) | (clear hK; clear hK; clear hK; refine hK _ _ ?_)); clear hK; (try simp only [pst0, simprocAttr])) | ((first | with_reducible refine a_past _ rfl (by decide +kernel) ?_ | (with_reducible refine a_past2 (by simp only [List.forall_mem_cons, Ty.w, simprocAttr, g2, g3, gk, w7, Bool.not_false]; (repeat' apply And.intro) <;> first | trivial | exact .inl (by decide +kernel)) ?_)); try simp (maxSteps := 2000000) only [Ty.w, simprocAttr, g2, g3, gk, w7, Bool.not_false]) | (rw [if_pos]; rotate_left 1; omega; simp (maxSteps := 2000000) only [Ty.w, simprocAttr, g2, g3, gk, w7, Bool.not_false]))
                        rw [hs]
                      | true =>
                        rw [Bool.true_and] at hinv
                        repeat' (first | (refine a_seq (fun K hK => ?_)) | (refine a_block ?_) | ((first | refine a_regionS ?_ | refine a_drawS (by decide +kernel) ?_ | refine a_region (fun K hK => ?_) | refine a_draw (by decide +kernel) (fun K hK => ?_) | refine a_ret ?_); simp (maxSteps := 2000000) only [Ty.w, simprocAttr, g2, g3, gk, hl_exprs, hl_exprs3, hl_kids, hl_kids3, hd, hr, hr2, w7, Bool.not_true]) | ((first | refine a_skip ?_ | refine a_exit ?_); (try simp only [pst0, simprocAttr])) | (refine a_cond _ (by (try simp (maxSteps := 2000000) only [Ty.w, simprocAttr, g2, g3, gk, hl_exprs, hl_exprs3, hl_kids, hl_kids3, hd, hr, hr2, w7, Bool.not_true]); rfl) (fun hb => ?_) (fun hb => ?_) <;> (try simp only [hb0, decide_eq_true_eq, decide_eq_false_iff_not, simprocAttr] at hb) <;> (try (exfalso; omega))) | (with_reducible refine ite_in (fun hb => ?_) (fun hb => ?_) <;> (try simp only [Decidable.not_not] at hb) <;> (try simp only [hb, if_true, if_false, not_false_eq_true, not_true_eq_false, ↓reduceIte]) <;> (try simp only [hb0, decide_eq_true_eq, decide_eq_false_iff_not, simprocAttr] at hb) <;> (try (exfalso; omega))) | ((first | refine hK _ _ ?_ | (clear hK; refine hK _ _ ?_) | (clear hK; clear hK; refine hK _ _ ?_) | (clear hK; clear hK; clear hK; refine hK _ _ ?_)); clear hK; (try simp only [pst0, simprocAttr])) | ((first | with_reducible refine a_past _ rfl (by decide +kernel) ?_ | (with_reducible refine a_past2 (by simp only [List.forall_mem_cons, Ty.w, simprocAttr, g2, g3, gk, hl_exprs, hl_exprs3, hl_kids, hl_kids3, hd, hr, hr2, w7, Bool.not_true]; (repeat' apply And.intro) <;> first | trivial | exact .inl (by decide +kernel)) ?_)); try simp (maxSteps := 2000000) only [Ty.w, simprocAttr, g2, g3, gk, hl_exprs, hl_exprs3, hl_kids, hl_kids3, hd, hr, hr2, w7, Bool.not_true]) | (rw [if_pos]; rotate_left 1; omega; simp (maxSteps := 2000000) only [Ty.w, simprocAttr, g2, g3, gk, hl_exprs, hl_exprs3, hl_kids, hl_kids3, hd, hr, hr2, w7, Bool.not_true]))
                        (first | refine a_dcall0 (hc _) (by (try simp only [Ty.w, simprocAttr, g2, g3, gk, hl_exprs, hl_exprs3, hl_kids, hl_kids3, hd, hr, hr2]); try rfl) ?_ | refine a_dcallA (hc _) (by (try simp only [Ty.w, simprocAttr, g2, g3, gk, hl_exprs, hl_exprs3, hl_kids, hl_kids3, hd, hr, hr2]); try rfl) (by simp only [Ty.w, simprocAttr, g2, g3, gk, hl_exprs, hl_exprs3, hl_kids, hl_kids3, hd, hr, hr2]; try trivial) ?_); simp (maxSteps := 2000000) only [Ty.w, simprocAttr, Option.getD_some, g2, g3, gk, hl_exprs, hl_exprs3, hl_kids, hl_kids3, hd, hr, hr2]
                        repeat' (first | (refine a_seq (fun K hK => ?_)) | (refine a_block ?_) | ((first | refine a_regionS ?_ | refine a_drawS (by decide +kernel) ?_ | refine a_region (fun K hK => ?_) | refine a_draw (by decide +kernel) (fun K hK => ?_) | refine a_ret ?_); simp (maxSteps := 2000000) only [Ty.w, simprocAttr, g2, g3, gk, w7, Bool.not_true]) | ((first | refine a_skip ?_ | refine a_exit ?_); (try simp only [pst0, simprocAttr])) | (refine a_cond _ (by (try simp (maxSteps := 2000000) only [Ty.w, simprocAttr, g2, g3, gk, w7, Bool.not_true]); rfl) (fun hb => ?_) (fun hb => ?_) <;> (try simp only [hb0, decide_eq_true_eq, decide_eq_false_iff_not, simprocAttr] at hb) <;> (try (exfalso; omega))) | (with_reducible refine ite_in (fun hb => ?_) (fun hb => ?_) <;> (try simp only [Decidable.not_not] at hb) <;> (try simp only [hb, if_true, if_false, not_false_eq_true, not_true_eq_false, ↓reduceIte]) <;> (try simp only [hb0, decide_eq_true_eq, decide_eq_false_iff_not, simprocAttr] at hb) <;> (try (exfalso; omega))) | ((first | refine hK _ _ ?_ | (clear hK; refine hK _ _ ?_) | (clear hK; clear hK; refine hK _ _ ?_) | (clear hK; clear hK; clear hK; refine hK _ _ ?_)); clear hK; (try simp only [pst0, simprocAttr])) | ((first | with_reducible refine a_past _ rfl (by decide +kernel) ?_ | (with_reducible refine a_past2 (by simp only [List.forall_mem_cons, Ty.w, simprocAttr, g2, g3, gk, w7, Bool.not_true]; (repeat' apply And.intro) <;> first | trivial | exact .inl (by decide +kernel)) ?_)); try simp (maxSteps := 2000000) only [Ty.w, simprocAttr, g2, g3, gk, w7, Bool.not_true]) | (rw [if_pos]; rotate_left 1; omega; simp (maxSteps := 2000000) only [Ty.w, simprocAttr, g2, g3, gk, w7, Bool.not_true]))
                        exact ⟨kids.length - (k + 1), by omega, by rw [cellsA], by rw [cellsB], k + 1, by simp, by omega, rfl, hinv⟩
                    · have hd : decide ((k : Int) < (kids.length : Int)) = false := by simp; omega
                      rw [List.drop_eq_nil_of_le (by omega), List.drop_eq_nil_of_le (by omega)] at hinv
                      have hq1 := hinv
                      simp only [Fm.sames] at hq1
                      clear hinv
                      have hs : (Fm.mk op name args params exprs kids).same (.mk op3 name3 args3 params3 exprs3 kids3) = true := by simp only [Fm.same, bEq, e0, e1, e2, e3, hq0, hq1, Bool.true_and]
                      repeat' (first | (refine a_seq (fun K hK => ?_)) | (refine a_block ?_) | ((first | refine a_regionS ?_ | refine a_region (fun K hK => ?_) | refine a_ret ?_); simp (maxSteps := 2000000) only [Ty.w, simprocAttr, g2, g3, gk, hl_exprs, hl_exprs3, hl_kids, hl_kids3, hd]) | ((first | refine a_skip ?_ | refine a_exit ?_); (try simp only [pst0, simprocAttr])) | (refine a_cond _ (by (try simp (maxSteps := 2000000) only [Ty.w, simprocAttr, g2, g3, gk, hl_exprs, hl_exprs3, hl_kids, hl_kids3, hd]); rfl) (fun hb => ?_) (fun hb => ?_) <;> (try simp only [hb0, decide_eq_true_eq, decide_eq_false_iff_not, simprocAttr] at hb) <;> (try (exfalso; omega))) | (with_reducible refine ite_in (fun hb => ?_) (fun hb => ?_) <;> (try simp only [Decidable.not_not] at hb) <;> (try simp only [hb, if_true, if_false, not_false_eq_true, not_true_eq_false, ↓reduceIte]) <;> (try simp only [hb0, decide_eq_true_eq, decide_eq_false_iff_not, simprocAttr] at hb) <;> (try (exfalso; omega))) | ((first | refine hK _ _ ?_ | (clear hK; refine hK _ _ ?_) | (clear hK; clear hK; refine hK _ _ ?_) | (clear hK; clear hK; clear hK; refine hK _ _ ?_)); clear hK; (try simp only [pst0, simprocAttr])) | (rw [if_pos]; rotate_left 1; omega; simp (maxSteps := 2000000) only [Ty.w, simprocAttr, g2, g3, gk, hl_exprs, hl_exprs3, hl_kids, hl_kids3, hd]))
                      rw [hs]
end Go.Proofs.YtikhonogkpboaaaGreat
namespace Go.AM
open Go.ChangeShapes Go.WideShapes
/-- the parts of a struct or an array: where each begins, and its type -/
def partsT (P : Program) (t : TypeId) : List (Nat × TypeId) := match P.underlying t with
  | some (.struct fs) => fs.toList.map fun f => (f.offset, f.type)
  | some (.array n e) => (List.range n).map fun i => (i * P.cellsOf e, e)
  | _ => []
/-- do the parts lie one behind the other, from o on to e? -/
def inRow (P : Program) (e : Nat) : Nat → List (Nat × TypeId) → Bool
  | o, [] => o == e
  | o, p :: l => p.1 == o && inRow P e (o + P.cellsOf p.2) l
/-- is the type made of bools, integers, strings, slices, structs and arrays? -/
def covB (P : Program) : Nat → TypeId → Bool
  | 0, _ => false
  | f + 1, t => match P.underlying t with
    | some .bool => true
    | some (.int _) => true
    | some .string => true
    | some (.slice e) => decide (0 < P.cellsOf e) && covB P f e
    | some (.struct _) => inRow P (P.cellsOf t) 0 (partsT P t) && (partsT P t).all fun p => covB P f p.2
    | some (.array _ _) => inRow P (P.cellsOf t) 0 (partsT P t) && (partsT P t).all fun p => covB P f p.2
    | _ => false
/-- the cells of a value of a type that came in -/
def Arg (P : Program) : Nat → TypeId → List PV → Prop
  | 0, _, _ => False
  | f + 1, t, ps => match P.underlying t with
    | some .bool => ∃ b, ps = [.sc (.bool b)]
    | some (.int k) => ∃ n, (Lit.int k n).wf = true ∧ ps = [.sc (.int k n)]
    | some .string => ∃ s : ByteArray, s.size ≤ reachBytes ∧ ps = [.sc (.string s)]
    | some (.slice e) => ∃ rows, ps = [.imm (P.cellsOf e) rows] ∧ rows.length * P.bytesOf e ≤ reachBytes ∧ rows.length ≤ maxLen ∧ ∀ r ∈ rows, r.length = P.cellsOf e ∧ Arg P f e r
    | some (.struct _) => ps.length = P.cellsOf t ∧ ∀ p ∈ partsT P t, Arg P f p.2 ((ps.drop p.1).take (P.cellsOf p.2))
    | some (.array _ _) => ps.length = P.cellsOf t ∧ ∀ p ∈ partsT P t, Arg P f p.2 ((ps.drop p.1).take (P.cellsOf p.2))
    | _ => False
section
variable {H : Type} {enc : TypeId × Value → H} {P : Program} {w : World} {sp : Nat → Bool} {held : Bool}
/-- the cells cs stand for ps, in any heap -/
def RA (w : World) (ps : List PV) (cs : List Value) : Prop := (∀ v ∈ cs, v.oneCell' = true) ∧ ∀ β n, RepL β n (fun b => b < w.heap.size) w ps cs
theorem RA.len {ps : List PV} {cs : List Value} (h : RA w ps cs) : ps.length = cs.length := (h.2 ⟨fun _ => ⟨none, 0, 0, 0⟩, fun _ => False⟩ 0).len
theorem RA.append {ps ps' : List PV} {cs cs' : List Value} (h : RA w ps cs) (k : RA w ps' cs') : RA w (ps ++ ps') (cs ++ cs') :=
  ⟨fun v hv => by exact (List.mem_append.1 hv).elim (h.1 v) (k.1 v), fun β n => (h.2 β n).append (k.2 β n)⟩
theorem inRow_le {e : Nat} : (l : List (Nat × TypeId)) → (o : Nat) → inRow P e o l = true → o ≤ e ∧ ∀ p ∈ l, o ≤ p.1 ∧ p.1 + P.cellsOf p.2 ≤ e
  | [], o, h => by simp [inRow] at h; simp [h]
  | p :: l, o, h => by
    simp only [inRow, Bool.and_eq_true, beq_iff_eq] at h
    obtain ⟨h1, h2⟩ := inRow_le l _ h.2
    refine ⟨by omega, fun q hq => ?_⟩
    rcases List.mem_cons.1 hq with rfl | hq
    · omega
    · have := h2 q hq; omega
theorem parts_rep {c : Nat} {cs : List Value} : (l : List (Nat × TypeId)) → (o : Nat) → inRow P cs.length o l = true →
    (∀ p ∈ l, ∃ ps, Arg P c p.2 ps ∧ RA w ps ((cs.drop p.1).take (P.cellsOf p.2))) →
    ∃ ps, RA w ps (cs.drop o) ∧ ∀ p ∈ l, Arg P c p.2 ((ps.drop (p.1 - o)).take (P.cellsOf p.2))
  | [], o, h, _ => by
    simp [inRow] at h
    refine ⟨[], ⟨?_, fun β n => ?_⟩, by simp⟩
    · rw [List.drop_of_length_le (by omega)]; simp
    · rw [List.drop_of_length_le (by omega)]; simp [RepL]
  | p :: l, o, h, hp => by
    have hle := (inRow_le (p :: l) o h).2 p (by simp)
    simp only [inRow, Bool.and_eq_true, beq_iff_eq] at h
    obtain ⟨ps, h1, h2⟩ := parts_rep l _ h.2 (fun q hq => hp q (by simp [hq]))
    obtain ⟨ps0, h3, h4⟩ := hp p (by simp)
    have hl2 := (inRow_le l _ h.2).2
    have e0 : p.1 = o := h.1
    have l0 : ps0.length = P.cellsOf p.2 := by rw [h4.len, List.length_take, List.length_drop]; omega
    refine ⟨ps0 ++ ps, ?_, fun q hq => ?_⟩
    · have : cs.drop o = (cs.drop p.1).take (P.cellsOf p.2) ++ cs.drop (o + P.cellsOf p.2) := by
        rw [e0, ← List.drop_drop, List.take_append_drop]
      rw [this]
      exact h4.append h1
    · rcases List.mem_cons.1 hq with rfl | hq
      · rw [e0, Nat.sub_self, List.drop_zero, List.take_append_of_le_length (by omega), List.take_of_length_le (by omega)]
        exact h3
      · have h5 := hl2 q hq
        have : q.1 - o = ps0.length + (q.1 - (o + P.cellsOf p.2)) := by omega
        rw [this, ← List.drop_drop, List.drop_left]
        exact h2 q hq
theorem exists_list {α : Type} {R : Nat → α → Prop} : (n : Nat) → (∀ i, i < n → ∃ x, R i x) → ∃ l : List α, l.length = n ∧ ∀ i x, l[i]? = some x → R i x
  | 0, _ => ⟨[], rfl, by simp⟩
  | n + 1, h => by
    obtain ⟨l, h1, h2⟩ := exists_list n (fun i hi => h i (by omega))
    obtain ⟨x, hx⟩ := h n (by omega)
    refine ⟨l ++ [x], by simp [h1], fun i y hy => ?_⟩
    rw [List.getElem?_append] at hy
    split at hy
    · exact h2 i y hy
    · rename_i hi
      have : i = n := by
        have := (List.getElem?_eq_some_iff.1 hy).1
        simp at this; omega
      subst this
      rw [h1] at hy
      simp at hy
      subst hy; exact hx
theorem weightsAll_mem {e : TypeId} {n : Nat} : {ds : List (DataW H)} → {i : Nat} → {d : DataW H} → ds[i]? = some d → n ∈ d.weights P e → n ∈ DataW.weightsAll P e ds
  | [], _, _, h, _ => by simp at h
  | d0 :: ds, 0, d, h, hn => by
    simp at h; subst h
    simp only [DataW.weightsAll, List.mem_append]; exact .inl hn
  | d0 :: ds, i + 1, d, h, hn => by
    simp at h
    simp only [DataW.weightsAll, List.mem_append]; exact .inr (weightsAll_mem h hn)
theorem sc_RA {v : Value} (h : v.oneCell' = true) : RA w [.sc v] [v] :=
  ⟨fun u hu => by simp at hu; subst hu; exact h, fun β n => by simp only [RepL, Rep]; exact ⟨trivial, trivial⟩⟩
end
end Go.AM
namespace Go.AM
open Go.ChangeShapes Go.WideShapes
section
variable {H : Type} {enc : TypeId × Value → H} {P : Program} {w : World} {sp : Nat → Bool} {held : Bool}
/-- are the types made of bools, integers, strings, slices, structs and arrays of them? -/
def covC (P : Program) (Ts : List TypeId) : Bool := Ts.all fun t => match P.underlying t with
  | some .bool => true
  | some (.int _) => true
  | some .string => true
  | some (.slice e) => decide (0 < P.cellsOf e) && Ts.contains e
  | some (.struct _) => inRow P (P.cellsOf t) 0 (partsT P t) && (partsT P t).all fun p => Ts.contains p.2
  | some (.array _ _) => inRow P (P.cellsOf t) 0 (partsT P t) && (partsT P t).all fun p => Ts.contains p.2
  | _ => false
theorem arg_rec {Ts : List TypeId} (hT : covC P Ts = true) : ∀ (fuel : Nat) (t : TypeId), Ts.contains t = true → ∀ (cs : List Value) (x : DataW H × List MemPlace), DataW.trod enc P w 0 sp held fuel t cs = some x → (∀ n ∈ x.1.weights P t, n ≤ reachBytes) →
    ∃ ps, Arg P fuel t ps ∧ RA w ps cs
  | 0, _, _, _, _, hx, _ => by simp [DataW.trod] at hx
  | c + 1, t, ht, cs, x, hx, hw => by
    have h := List.all_eq_true.1 hT t (by simpa using ht)
    split at h
    · rename_i hu
      obtain ⟨b, rfl, rfl⟩ := DataW.trod_bool hu hx
      refine ⟨[.sc (.bool b)], ?_, sc_RA rfl⟩
      unfold Arg; rw [hu]; exact ⟨b, rfl⟩
    · rename_i k hu
      obtain ⟨n, rfl, rfl, hwf⟩ := DataW.trod_int hu hx
      refine ⟨[.sc (.int k n)], ?_, sc_RA rfl⟩
      unfold Arg; rw [hu]; exact ⟨n, hwf, rfl⟩
    · rename_i hu
      obtain ⟨s, rfl, rfl, hs⟩ := DataW.trod_string hu hx
      refine ⟨[.sc (.string s)], ?_, sc_RA rfl⟩
      unfold Arg; rw [hu]
      refine ⟨s, ?_, rfl⟩
      have := hw s.data.toList.length (by simp [DataW.weights])
      simpa using this
    · rename_i e hu
      simp only [Bool.and_eq_true, decide_eq_true_eq] at h
      obtain ⟨hpos, hcov⟩ := h
      rcases DataW.trod_slice hu hx with ⟨rfl, rfl⟩ | ⟨a, len, cap, elems, rest, n, hfu, rfl, rfl, hb, hl, hm, hlen, hel, hsp, hns⟩
      · refine ⟨[.imm (P.cellsOf e) []], ?_, fun v hv => ?_, fun β n => ?_⟩
        · unfold Arg; rw [hu]; exact ⟨[], rfl, by simp, by simp, by simp⟩
        · simp at hv; subst hv; rfl
        · simp only [RepL, Rep]
          exact ⟨⟨none, 0, rfl, Nat.le_refl _, Nat.zero_le _, .inl (by trivial)⟩, trivial⟩
      · obtain rfl : c = n := by omega
        have each : ∀ i, i < len → ∃ r : List PV, (r.length = P.cellsOf e ∧ Arg P c e r) ∧ ∃ ci, RA w r ci ∧ ci.length = P.cellsOf e ∧ ∀ j, j < P.cellsOf e → w.cell? ((a.add (i * P.cellsOf e)).add j) = ci[j]? := by
          intro i hi
          have h1 := hel i hi
          have h2 : elems[i]? = some (elems[i]'(by omega)) := List.getElem?_eq_getElem _
          rw [h2, Option.bind_eq_some_iff] at h1
          obtain ⟨ci, h3, h4⟩ := h1
          obtain ⟨_, h5, h6⟩ := World.cells?_some h3
          obtain ⟨r, h7, h8⟩ := arg_rec hT c e hcov ci _ h4 (fun m hm => hw m (by
            simp only [DataW.weights, hu, List.mem_cons, List.mem_append]
            exact .inr (.inl (weightsAll_mem (i := i) (by rw [List.getElem?_map, h2]; try rfl) hm))))
          exact ⟨r, ⟨by rw [h8.len, h5], h7⟩, ci, h8, h5, h6⟩
        obtain ⟨rows, hrl, hrows⟩ := exists_list len each
        refine ⟨[.imm (P.cellsOf e) rows], ?_, fun v hv => ?_, fun β m => ?_⟩
        · unfold Arg; rw [hu]
          refine ⟨rows, rfl, ?_, by omega, fun r hr => ?_⟩
          · have := hw ((elems.map (·.1)).length * P.bytesOf e + (rest.map (·.1)).length * P.bytesOf e) (by
              simp only [DataW.weights, hu, List.mem_cons, Nat.add_mul, true_or])
            have h9 : rows.length = (elems.map (·.1)).length := by simp [hrl, hlen]
            rw [h9]
            exact Nat.le_trans (Nat.le_add_right _ _) this
          · obtain ⟨i, hi⟩ := List.getElem?_of_mem hr
            exact (hrows i r hi).1
        · simp at hv; subst hv; rfl
        · simp only [RepL, Rep]
          refine ⟨⟨some a, cap, by rw [hrl], by omega, hm, ?_⟩, trivial⟩
          by_cases h0 : len = 0
          · left; exact List.length_eq_zero_iff.1 (by omega)
          · right
            obtain ⟨_, _, c0, _, hc0, hcell0⟩ := each 0 (by omega)
            have h10 := hcell0 0 hpos
            rw [List.getElem?_eq_getElem (by omega)] at h10
            simp only [Nat.zero_mul, Addr.add, if_true] at h10
            have hs : a.spot = none := by
              unfold World.cell? at h10
              split at h10
              · split at h10
                · simp at h10
                · rename_i hsp; simpa using hsp
              · simp at h10
            have hblk : a.block < w.heap.size := by
              unfold World.cell? at h10
              split at h10
              · rename_i hh; exact (Array.getElem?_eq_some_iff.1 hh).1
              · simp at h10
            refine ⟨a.block, a.off, hblk, by cases a; simp only at hs; subst hs; rfl, ?_⟩
            rw [RepR_iff]
            intro i r hr
            obtain ⟨⟨g1, _⟩, ci, g2, g3, g4⟩ := hrows i r hr
            refine ⟨g1, ?_⟩
            rw [RepS_iff]
            intro j p hp
            obtain ⟨v, hv, hrep⟩ := (g2.2 β m).get hp
            have hj : j < P.cellsOf e := by rw [← g3]; exact (List.getElem?_eq_some_iff.1 hv).1
            refine ⟨v, ?_, g2.1 v (List.mem_of_getElem? hv), hrep⟩
            rw [← hv, ← g4 j hj]
            congr 1
            cases a
            simp only at hs; subst hs
            simp only [Addr.add]
            split <;> split <;> simp_all <;> omega
    · rename_i fs hu
      simp only [Bool.and_eq_true, List.all_eq_true] at h
      obtain ⟨xs, n, hfu, rfl, hcl, hxl, hp⟩ := DataW.trod_struct hu hx
      obtain rfl : c = n := by omega
      have hpt : partsT P t = fs.toList.map fun f => (f.offset, f.type) := by unfold partsT; rw [hu]
      obtain ⟨ps, h1, h2⟩ := parts_rep (w := w) (c := c) (cs := cs) (partsT P t) 0 (by rw [hcl]; exact h.1) (fun p hpm => by
        have hcv := h.2 p hpm
        rw [hpt] at hpm
        obtain ⟨i, hi⟩ := List.getElem?_of_mem hpm
        rw [List.getElem?_map, Option.map_eq_some_iff] at hi
        obtain ⟨f, hf, rfl⟩ := hi
        have hf' : fs[i]? = some f := by simpa using hf
        have hi' : i < xs.length := by
          rw [hxl]
          exact (Array.getElem?_eq_some_iff.1 hf').1
        have h3 := hp i f hf'
        rw [List.getElem?_eq_getElem hi'] at h3
        exact arg_rec hT c f.type hcv _ _ h3 (fun m hm => hw m (by
          simp only [DataW.weights, hu]
          exact DataW.weights_mem_each (j := i) (t := f.type) (d := xs[i].1) (by rw [List.getElem?_map, hf]; try rfl) (by rw [List.getElem?_map, List.getElem?_eq_getElem hi']; try rfl) m hm)))
      refine ⟨ps, ?_, by simpa using h1⟩
      unfold Arg; rw [hu]
      exact ⟨by rw [h1.len, List.drop_zero, hcl], fun p hpm => by simpa using h2 p hpm⟩
    · rename_i k e hu
      simp only [Bool.and_eq_true, List.all_eq_true] at h
      obtain ⟨xs, n, hfu, rfl, hcl, hxl, hp⟩ := DataW.trod_array hu hx
      obtain rfl : c = n := by omega
      have hpt : partsT P t = (List.range k).map fun i => (i * P.cellsOf e, e) := by unfold partsT; rw [hu]
      obtain ⟨ps, h1, h2⟩ := parts_rep (w := w) (c := c) (cs := cs) (partsT P t) 0 (by rw [hcl]; exact h.1) (fun p hpm => by
        have hcv := h.2 p hpm
        rw [hpt] at hpm
        obtain ⟨i, hi, rfl⟩ := List.mem_map.1 hpm
        have hi' : i < xs.length := by rw [hxl]; simpa using hi
        have h3 := hp i (by simpa using hi)
        rw [List.getElem?_eq_getElem hi'] at h3
        exact arg_rec hT c e hcv _ _ h3 (fun m hm => hw m (by
          simp only [DataW.weights, hu]
          exact weightsAll_mem (i := i) (d := xs[i].1) (by rw [List.getElem?_map, List.getElem?_eq_getElem hi']; try rfl) hm)))
      refine ⟨ps, ?_, by simpa using h1⟩
      unfold Arg; rw [hu]
      exact ⟨by rw [h1.len, List.drop_zero, hcl], fun p hpm => by simpa using h2 p hpm⟩
    · simp at h
theorem arg_valueC {Ts : List TypeId} (hT : covC P Ts = true) {t : TypeId} (ht : Ts.contains t = true) {fs : Array Field} (hu : P.underlying t = some (.struct fs)) {v : Value} {d : DataW H} {pl : List MemPlace}
    (h : DataW.Trod enc P w 0 sp held t v d pl) (hv : ∃ base, Value.okWide P w .any base t v) (hw : ∀ n ∈ d.weights P t, n ≤ reachBytes) :
    ∃ c ps, Arg P c t ps ∧ ∀ β n, Rep β n (fun b => b < w.heap.size) w (.agg ps) v := by
  obtain ⟨fuel, hf⟩ := h
  obtain ⟨ps, h1, h2⟩ := arg_rec hT fuel t ht _ _ hf hw
  obtain ⟨base, hv⟩ := hv
  unfold Value.okWide at hv
  simp only [hu] at hv
  obtain ⟨cs, rfl, _⟩ := hv
  refine ⟨fuel, ps, h1, fun β n => ?_⟩
  simp only [Rep]
  exact ⟨cs.toList, by simp, h2.1, h2.2 β n⟩
end
end Go.AM
namespace Go.AM
open Go.ChangeShapes Go.WideShapes
section
variable {P : Program} {c : Nat} {t e : TypeId} {ps : List PV} {a : PV}
theorem Arg_int {k : IntKind} (hu : P.underlying t = some (.int k)) (h : Arg P (c + 1) t ps) : ∃ n, (Lit.int k n).wf = true ∧ ps = [.sc (.int k n)] := by
  unfold Arg at h; rw [hu] at h; exact h
theorem Arg_slice (hu : P.underlying t = some (.slice e)) (h : Arg P (c + 1) t ps) : ∃ rows, ps = [.imm (P.cellsOf e) rows] ∧ rows.length * P.bytesOf e ≤ reachBytes ∧ rows.length ≤ maxLen ∧ ∀ r ∈ rows, r.length = P.cellsOf e ∧ Arg P c e r := by
  unfold Arg at h; rw [hu] at h; exact h
theorem Arg_struct {fs : Array Field} (hu : P.underlying t = some (.struct fs)) (h : Arg P (c + 1) t ps) : ps.length = P.cellsOf t ∧ ∀ p ∈ partsT P t, Arg P c p.2 ((ps.drop p.1).take (P.cellsOf p.2)) := by
  unfold Arg at h; rw [hu] at h; exact h
theorem rows_map {α : Type} {Q : α → Prop} {f : α → List PV} : (rows : List (List PV)) → (∀ r ∈ rows, ∃ x, Q x ∧ r = f x) → ∃ xs : List α, rows = xs.map f ∧ ∀ x ∈ xs, Q x
  | [], _ => ⟨[], rfl, by simp⟩
  | r :: rows, h => by
    obtain ⟨xs, h1, h2⟩ := rows_map rows (fun q hq => h q (by simp [hq]))
    obtain ⟨x, h3, h4⟩ := h r (by simp)
    refine ⟨x :: xs, by simp [h1, h4], fun y hy => ?_⟩
    rcases List.mem_cons.1 hy with rfl | hy
    · exact h3
    · exact h2 y hy
theorem i64_in {n : Int} (h : (Lit.int .i64 n).wf = true) : -9223372036854775808 ≤ n ∧ n ≤ 9223372036854775807 := by
  simp [Lit.wf, IntKind.min, IntKind.max, IntKind.bits, IntKind.signed] at h
  omega
end
end Go.AM
namespace Go.Proofs.YtikhonogkpboaaaGreat
open Go.AM
set_option maxHeartbeats 1000000
set_option maxRecDepth 20000
def recTs : List TypeId := [39, 85, 96, 9, 3, 35, 22, 36, 37]
theorem parts57 : partsT Tryz.prog 85 = [(0, 9), (1, 9), (2, 3), (3, 35), (4, 36)] := by kernel_rfl
theorem parts29 : partsT Tryz.prog 39 = [(0, 9), (1, 9), (2, 35), (3, 22), (4, 36), (5, 37)] := by kernel_rfl
theorem parts99 : partsT Tryz.prog 96 = [(0, 9), (1, 9)] := by kernel_rfl
theorem co9 : Tryz.prog.cellsOf 9 = 1 := by kernel_rfl
theorem co3 : Tryz.prog.cellsOf 3 = 1 := by kernel_rfl
theorem co24 : Tryz.prog.cellsOf 35 = 1 := by kernel_rfl
theorem co25 : Tryz.prog.cellsOf 22 = 1 := by kernel_rfl
theorem co26 : Tryz.prog.cellsOf 36 = 1 := by kernel_rfl
theorem co27 : Tryz.prog.cellsOf 37 = 1 := by kernel_rfl
theorem co57 : Tryz.prog.cellsOf 85 = 5 := by kernel_rfl
theorem co29 : Tryz.prog.cellsOf 39 = 6 := by kernel_rfl
theorem co99 : Tryz.prog.cellsOf 96 = 2 := by kernel_rfl
theorem by9 : 0 < Tryz.prog.bytesOf 9 := by rw [show Tryz.prog.bytesOf 9 = 16 by kernel_rfl]; omega
theorem by99 : 0 < Tryz.prog.bytesOf 96 := by rw [show Tryz.prog.bytesOf 96 = 32 by kernel_rfl]; omega
theorem by57 : 0 < Tryz.prog.bytesOf 85 := by rw [show Tryz.prog.bytesOf 85 = 88 by kernel_rfl]; omega
theorem by29 : 0 < Tryz.prog.bytesOf 39 := by rw [show Tryz.prog.bytesOf 39 = 128 by kernel_rfl]; omega
theorem len_le {n b : Nat} (h : n * b ≤ reachBytes) (hb : 0 < b) : n ≤ bigN := by
  have := Nat.le_mul_of_pos_right n hb
  unfold reachBytes at h
  unfold bigN
  omega
theorem arg_str {c : Nat} {ps : List PV} (h : Arg Tryz.prog c 9 ps) : ∃ s : ByteArray, s.size ≤ bigN ∧ ps = [sPV s] := by
  cases c with
  | zero => simp [Arg] at h
  | succ c =>
    unfold Arg at h
    rw [Tryz.underlying9] at h
    obtain ⟨s, h1, h2⟩ := h
    exact ⟨s, by unfold reachBytes at h1; unfold bigN; omega, h2⟩
theorem arg_i64 {c : Nat} {ps : List PV} (h : Arg Tryz.prog c 3 ps) : ∃ n : Int, (-9223372036854775808 ≤ n ∧ n ≤ 9223372036854775807) ∧ ps = [.sc (.int .i64 n)] := by
  cases c with
  | zero => simp [Arg] at h
  | succ c =>
    obtain ⟨n, h1, h2⟩ := Arg_int Tryz.underlying3 h
    exact ⟨n, i64_in h1, h2⟩
theorem arg_strs {c : Nat} {ps : List PV} (h : Arg Tryz.prog c 35 ps) : ∃ l : List ByteArray, (l.length ≤ bigN ∧ ∀ a ∈ l, a.size ≤ bigN) ∧ ps = [.imm 1 (strRows l)] := by
  cases c with
  | zero => simp [Arg] at h
  | succ c =>
    obtain ⟨rows, rfl, h1, _, h2⟩ := Arg_slice Tryz.underlying35 h
    obtain ⟨xs, rfl, h3⟩ := rows_map (Q := fun s : ByteArray => s.size ≤ bigN) (f := fun s => [sPV s]) rows (fun r hr => arg_str (h2 r hr).2)
    refine ⟨xs, ⟨len_le (by simpa using h1) by9, h3⟩, ?_⟩
    rw [co9]; try rfl
theorem arg_pm {c : Nat} {ps : List PV} (h : Arg Tryz.prog c 96 ps) : ∃ p : Pm, p.ok ∧ ps = pmRow p := by
  cases c with
  | zero => simp [Arg] at h
  | succ c =>
    obtain ⟨h1, h2⟩ := Arg_struct Tryz.underlying96 h
    rw [co99] at h1
    rw [parts99] at h2
    match ps, h1, h2 with
    | [p0, p1], _, h2 =>
      have a0 := h2 (0, 9) (by simp)
      have a1 := h2 (1, 9) (by simp)
      simp only [co9, List.drop_zero, List.drop_succ_cons, List.take_succ_cons, List.take_zero] at a0 a1
      obtain ⟨s, hs, e1⟩ := arg_str a0
      obtain ⟨t, ht, e2⟩ := arg_str a1
      simp at e1 e2
      exact ⟨⟨s, t⟩, ⟨hs, ht⟩, by simp [pmRow, e1, e2]⟩
theorem arg_pms {c : Nat} {ps : List PV} (h : Arg Tryz.prog c 22 ps) : ∃ l : List Pm, (l.length ≤ bigN ∧ ∀ a ∈ l, a.ok) ∧ ps = [.imm 2 (pmRows l)] := by
  cases c with
  | zero => simp [Arg] at h
  | succ c =>
    obtain ⟨rows, rfl, h1, _, h2⟩ := Arg_slice Tryz.underlying22 h
    obtain ⟨xs, rfl, h3⟩ := rows_map (Q := Pm.ok) (f := pmRow) rows (fun r hr => arg_pm (h2 r hr).2)
    refine ⟨xs, ⟨len_le (by simpa using h1) by99, h3⟩, ?_⟩
    rw [co99]; try rfl
theorem arg_ex : ∀ (c : Nat) {ps : List PV}, Arg Tryz.prog c 85 ps → ∃ e : Ex, e.ok ∧ ps = e.cells := by
  intro c
  induction c using Nat.strongRecOn with
  | _ c ih =>
    intro ps h
    cases c with
    | zero => simp [Arg] at h
    | succ c =>
      obtain ⟨h1, h2⟩ := Arg_struct Tryz.underlying85 h
      rw [co57] at h1
      rw [parts57] at h2
      match ps, h1, h2 with
      | [p0, p1, p2, p3, p4], _, h2 =>
        have a0 := h2 (0, 9) (by simp)
        have a1 := h2 (1, 9) (by simp)
        have a2 := h2 (2, 3) (by simp)
        have a3 := h2 (3, 35) (by simp)
        have a4 := h2 (4, 36) (by simp)
        simp only [co9, co3, co24, co26, List.drop_zero, List.drop_succ_cons, List.take_succ_cons, List.take_zero] at a0 a1 a2 a3 a4
        obtain ⟨op, hop, e0⟩ := arg_str a0
        obtain ⟨name, hname, e1⟩ := arg_str a1
        obtain ⟨n, hn, e2⟩ := arg_i64 a2
        obtain ⟨args, hargs, e3⟩ := arg_strs a3
        cases c with
        | zero => simp [Arg] at a4
        | succ c =>
          obtain ⟨rows, e4, h3, _, h4⟩ := Arg_slice Tryz.underlying36 a4
          obtain ⟨xs, rfl, h5⟩ := rows_map (Q := Ex.ok) (f := Ex.cells) rows (fun r hr => ih c (by omega) (h4 r hr).2)
          rw [co57] at e4
          simp at e0 e1 e2 e3 e4
          refine ⟨.mk op name n args xs, ?_, ?_⟩
          · simp only [Ex.ok]
            exact ⟨hop, hname, hn, hargs, len_le (by simpa using h3) by57, Ex.oks_iff.2 h5⟩
          · simp only [Ex.cells, e0, e1, e2, e3, e4, Ex.rows_map]
theorem arg_exs {c : Nat} {ps : List PV} (h : Arg Tryz.prog c 36 ps) : ∃ l : List Ex, (l.length ≤ bigN ∧ Ex.oks l) ∧ ps = [.imm 5 (Ex.rows l)] := by
  cases c with
  | zero => simp [Arg] at h
  | succ c =>
    obtain ⟨rows, rfl, h1, _, h2⟩ := Arg_slice Tryz.underlying36 h
    obtain ⟨xs, rfl, h3⟩ := rows_map (Q := Ex.ok) (f := Ex.cells) rows (fun r hr => arg_ex c (h2 r hr).2)
    refine ⟨xs, ⟨len_le (by simpa using h1) by57, Ex.oks_iff.2 h3⟩, ?_⟩
    rw [co57, Ex.rows_map]
theorem arg_fm : ∀ (c : Nat) {ps : List PV}, Arg Tryz.prog c 39 ps → ∃ f : Fm, f.ok ∧ ps = f.cells := by
  intro c
  induction c using Nat.strongRecOn with
  | _ c ih =>
    intro ps h
    cases c with
    | zero => simp [Arg] at h
    | succ c =>
      obtain ⟨h1, h2⟩ := Arg_struct Tryz.underlying39 h
      rw [co29] at h1
      rw [parts29] at h2
      match ps, h1, h2 with
      | [p0, p1, p2, p3, p4, p5], _, h2 =>
        have a0 := h2 (0, 9) (by simp)
        have a1 := h2 (1, 9) (by simp)
        have a2 := h2 (2, 35) (by simp)
        have a3 := h2 (3, 22) (by simp)
        have a4 := h2 (4, 36) (by simp)
        have a5 := h2 (5, 37) (by simp)
        simp only [co9, co24, co25, co26, co27, List.drop_zero, List.drop_succ_cons, List.take_succ_cons, List.take_zero] at a0 a1 a2 a3 a4 a5
        obtain ⟨op, hop, e0⟩ := arg_str a0
        obtain ⟨name, hname, e1⟩ := arg_str a1
        obtain ⟨args, hargs, e2⟩ := arg_strs a2
        obtain ⟨params, hparams, e3⟩ := arg_pms a3
        obtain ⟨exprs, hexprs, e4⟩ := arg_exs a4
        cases c with
        | zero => simp [Arg] at a5
        | succ c =>
          obtain ⟨rows, e5, h3, _, h4⟩ := Arg_slice Tryz.underlying37 a5
          obtain ⟨xs, rfl, h5⟩ := rows_map (Q := Fm.ok) (f := Fm.cells) rows (fun r hr => ih c (by omega) (h4 r hr).2)
          rw [co29] at e5
          simp at e0 e1 e2 e3 e4 e5
          refine ⟨.mk op name args params exprs xs, ?_, ?_⟩
          · simp only [Fm.ok]
            exact ⟨hop, hname, hargs, hparams, hexprs, len_le (by simpa using h3) by29, Fm.oks_iff.2 h5⟩
          · simp only [Fm.cells, e0, e1, e2, e3, e4, e5, Fm.rows_map]
end Go.Proofs.YtikhonogkpboaaaGreat
namespace Go.Proofs.YtikhonogkpboaaaGreat
open Go.AM
set_option maxHeartbeats 2000000
set_option maxRecDepth 20000
theorem rsizeE_c : ∀ (e : Ex), e.ok → ∀ h : Heap, PCall Tryz.prog 97 [.agg e.cells] h fun r h' => r = .sc (.int .i64 e.size) ∧ h' = h := by
  refine Ex.ind ?_
  intro op name n args kids ih hok h
  simp only [Ex.ok] at hok
  obtain ⟨_, _, _, _, hk, hks⟩ := hok
  rw [Ex.oks_iff] at hks
  have hlen := Ex.rows_len kids
  simp only [Ex.cells, Ex.size]
  refine pcall_body (ow := fun _ => false) (wf := fun _ => false) Ty.mixed Tryz.func97 rfl Ty.hb_97 (by rw [Tryz.ntmps97]; simp) ?_
  rw [Tryz.ntmps97, Tryz.results97]
  repeat' (first | (refine a_seq (fun K hK => ?_)) | (refine a_block ?_) | ((first | refine a_regionS ?_ | refine a_region (fun K hK => ?_) | refine a_ret ?_); simp (maxSteps := 2000000) only [Ty.w, simprocAttr, hlen]) | ((first | refine a_skip ?_ | refine a_exit ?_); (try simp only [pst0, simprocAttr])) | (refine a_cond _ (by (try simp (maxSteps := 2000000) only [Ty.w, simprocAttr, hlen]); rfl) (fun hb => ?_) (fun hb => ?_) <;> (try simp only [hb0, decide_eq_true_eq, decide_eq_false_iff_not, simprocAttr] at hb) <;> (try (exfalso; omega))) | (with_reducible refine ite_in (fun hb => ?_) (fun hb => ?_) <;> (try simp only [Decidable.not_not] at hb) <;> (try simp only [hb, if_true, if_false, not_false_eq_true, not_true_eq_false, ↓reduceIte]) <;> (try simp only [hb0, decide_eq_true_eq, decide_eq_false_iff_not, simprocAttr] at hb) <;> (try (exfalso; omega))) | ((first | refine hK _ _ ?_ | (clear hK; refine hK _ _ ?_) | (clear hK; clear hK; refine hK _ _ ?_) | (clear hK; clear hK; clear hK; refine hK _ _ ?_)); clear hK; (try simp only [pst0, simprocAttr])) | (rw [if_pos]; rotate_left 1; omega; simp (maxSteps := 2000000) only [Ty.w, simprocAttr, hlen]))
  refine a_loop (fun m S h' => h' = h ∧ S 1 = .cptr (Ex.mk op name n args kids).cells ∧ ∃ k : Nat, S 4 = .sc (.int .i64 k) ∧ k ≤ kids.length ∧ m = kids.length - k ∧ S 3 = .sc (.int .i64 (Ex.sizes 1 (kids.take k)))) kids.length ?_ ?_
  · simp only [Ty.w, simprocAttr]
    exact ⟨rfl, 0, rfl, by omega, rfl, by simp [Ex.sizes]⟩
  · rintro m S h' ⟨rfl, g1, k, g4, hkl, rfl, g3⟩
    simp only [Ex.cells] at g1
    by_cases hlt : k < kids.length
    · have hd : decide ((k : Int) < (kids.length : Int)) = true := by simp; omega
      have w7 : IntKind.i64.wrap ((k : Int) + 1) = k + 1 := by unfold bigN at hk; rw [wrap64 (by omega) (by omega)]
      obtain ⟨e, hx⟩ : ∃ e, kids[k]? = some e := ⟨_, List.getElem?_eq_getElem hlt⟩
      have hmem := List.mem_of_getElem? hx
      have hc := ih e hmem (hks e hmem)
      have hsz := Ex.sizes_take 1 hx
      have hr := Ex.rows_get hx
      obtain ⟨op2, name2, n2, args2, kids2⟩ := e
      simp only [Ex.cells] at hr hc
      repeat' (first | (refine a_seq (fun K hK => ?_)) | (refine a_block ?_) | ((first | refine a_regionS ?_ | refine a_region (fun K hK => ?_) | refine a_ret ?_); simp (maxSteps := 2000000) only [Ty.w, simprocAttr, g1, g3, g4, hlen, hd, hr, w7]) | ((first | refine a_skip ?_ | refine a_exit ?_); (try simp only [pst0, simprocAttr])) | (refine a_cond _ (by (try simp (maxSteps := 2000000) only [Ty.w, simprocAttr, g1, g3, g4, hlen, hd, hr, w7]); rfl) (fun hb => ?_) (fun hb => ?_) <;> (try simp only [hb0, decide_eq_true_eq, decide_eq_false_iff_not, simprocAttr] at hb) <;> (try (exfalso; omega))) | (with_reducible refine ite_in (fun hb => ?_) (fun hb => ?_) <;> (try simp only [Decidable.not_not] at hb) <;> (try simp only [hb, if_true, if_false, not_false_eq_true, not_true_eq_false, ↓reduceIte]) <;> (try simp only [hb0, decide_eq_true_eq, decide_eq_false_iff_not, simprocAttr] at hb) <;> (try (exfalso; omega))) | ((first | refine hK _ _ ?_ | (clear hK; refine hK _ _ ?_) | (clear hK; clear hK; refine hK _ _ ?_) | (clear hK; clear hK; clear hK; refine hK _ _ ?_)); clear hK; (try simp only [pst0, simprocAttr])) | (rw [if_pos]; rotate_left 1; omega; simp (maxSteps := 2000000) only [Ty.w, simprocAttr, g1, g3, g4, hlen, hd, hr, w7]))
      refine owp_useQ (hc _) (by (try simp only [Ty.w, simprocAttr, g1, g3, g4, hlen, hd, hr]); try rfl) ?_; simp (maxSteps := 2000000) only [Ty.w, simprocAttr, g1, g3, g4, hlen, hd, hr]
      repeat' (first | (refine a_seq (fun K hK => ?_)) | (refine a_block ?_) | ((first | refine a_regionS ?_ | refine a_region (fun K hK => ?_) | refine a_ret ?_); simp (maxSteps := 2000000) only [Ty.w, simprocAttr, g1, g3, g4, w7]) | ((first | refine a_skip ?_ | refine a_exit ?_); (try simp only [pst0, simprocAttr])) | (refine a_cond _ (by (try simp (maxSteps := 2000000) only [Ty.w, simprocAttr, g1, g3, g4, w7]); rfl) (fun hb => ?_) (fun hb => ?_) <;> (try simp only [hb0, decide_eq_true_eq, decide_eq_false_iff_not, simprocAttr] at hb) <;> (try (exfalso; omega))) | (with_reducible refine ite_in (fun hb => ?_) (fun hb => ?_) <;> (try simp only [Decidable.not_not] at hb) <;> (try simp only [hb, if_true, if_false, not_false_eq_true, not_true_eq_false, ↓reduceIte]) <;> (try simp only [hb0, decide_eq_true_eq, decide_eq_false_iff_not, simprocAttr] at hb) <;> (try (exfalso; omega))) | ((first | refine hK _ _ ?_ | (clear hK; refine hK _ _ ?_) | (clear hK; clear hK; refine hK _ _ ?_) | (clear hK; clear hK; clear hK; refine hK _ _ ?_)); clear hK; (try simp only [pst0, simprocAttr])) | (rw [if_pos]; rotate_left 1; omega; simp (maxSteps := 2000000) only [Ty.w, simprocAttr, g1, g3, g4, w7]))
      exact ⟨kids.length - (k + 1), by omega, rfl, k + 1, by simp, by omega, rfl, by rw [hsz]⟩
    · have hd : decide ((k : Int) < (kids.length : Int)) = false := by simp; omega
      have hke : k = kids.length := by omega
      subst hke
      rw [List.take_length] at g3
      repeat' (first | (refine a_seq (fun K hK => ?_)) | (refine a_block ?_) | ((first | refine a_regionS ?_ | refine a_region (fun K hK => ?_) | refine a_ret ?_); simp (maxSteps := 2000000) only [Ty.w, simprocAttr, g1, g3, g4, hlen, hd]) | ((first | refine a_skip ?_ | refine a_exit ?_); (try simp only [pst0, simprocAttr])) | (refine a_cond _ (by (try simp (maxSteps := 2000000) only [Ty.w, simprocAttr, g1, g3, g4, hlen, hd]); rfl) (fun hb => ?_) (fun hb => ?_) <;> (try simp only [hb0, decide_eq_true_eq, decide_eq_false_iff_not, simprocAttr] at hb) <;> (try (exfalso; omega))) | (with_reducible refine ite_in (fun hb => ?_) (fun hb => ?_) <;> (try simp only [Decidable.not_not] at hb) <;> (try simp only [hb, if_true, if_false, not_false_eq_true, not_true_eq_false, ↓reduceIte]) <;> (try simp only [hb0, decide_eq_true_eq, decide_eq_false_iff_not, simprocAttr] at hb) <;> (try (exfalso; omega))) | ((first | refine hK _ _ ?_ | (clear hK; refine hK _ _ ?_) | (clear hK; clear hK; refine hK _ _ ?_) | (clear hK; clear hK; clear hK; refine hK _ _ ?_)); clear hK; (try simp only [pst0, simprocAttr])) | (rw [if_pos]; rotate_left 1; omega; simp (maxSteps := 2000000) only [Ty.w, simprocAttr, g1, g3, g4, hlen, hd]))
theorem rsize_c : ∀ (f : Fm), f.ok → ∀ h : Heap, PCall Tryz.prog 40 [.agg f.cells] h fun r h' => r = .sc (.int .i64 f.size) ∧ h' = h := by
  refine Fm.ind ?_
  intro op name args params exprs kids ih hok h
  simp only [Fm.ok] at hok
  obtain ⟨_, _, _, _, ⟨he, hes⟩, hk, hks⟩ := hok
  rw [Ex.oks_iff] at hes
  rw [Fm.oks_iff] at hks
  have hlen := Fm.rows_len kids
  have hlene := Ex.rows_len exprs
  simp only [Fm.cells, Fm.size]
  refine pcall_body (ow := fun _ => false) (wf := fun _ => false) Ty.mixed Tryz.func40 rfl Ty.hb_40 (by rw [Tryz.ntmps40]; simp) ?_
  rw [Tryz.ntmps40, Tryz.results40]
  repeat' (first | (refine a_seq (fun K hK => ?_)) | (refine a_block ?_) | ((first | refine a_regionS ?_ | refine a_region (fun K hK => ?_) | refine a_ret ?_); simp (maxSteps := 2000000) only [Ty.w, simprocAttr, hlen]) | ((first | refine a_skip ?_ | refine a_exit ?_); (try simp only [pst0, simprocAttr])) | (refine a_cond _ (by (try simp (maxSteps := 2000000) only [Ty.w, simprocAttr, hlen]); rfl) (fun hb => ?_) (fun hb => ?_) <;> (try simp only [hb0, decide_eq_true_eq, decide_eq_false_iff_not, simprocAttr] at hb) <;> (try (exfalso; omega))) | (with_reducible refine ite_in (fun hb => ?_) (fun hb => ?_) <;> (try simp only [Decidable.not_not] at hb) <;> (try simp only [hb, if_true, if_false, not_false_eq_true, not_true_eq_false, ↓reduceIte]) <;> (try simp only [hb0, decide_eq_true_eq, decide_eq_false_iff_not, simprocAttr] at hb) <;> (try (exfalso; omega))) | ((first | refine hK _ _ ?_ | (clear hK; refine hK _ _ ?_) | (clear hK; clear hK; refine hK _ _ ?_) | (clear hK; clear hK; clear hK; refine hK _ _ ?_)); clear hK; (try simp only [pst0, simprocAttr])) | (rw [if_pos]; rotate_left 1; omega; simp (maxSteps := 2000000) only [Ty.w, simprocAttr, hlen]))
  refine a_loop (fun m S h' => h' = h ∧ S 1 = .cptr (Fm.mk op name args params exprs kids).cells ∧ ∃ k : Nat, S 4 = .sc (.int .i64 k) ∧ k ≤ exprs.length ∧ m = exprs.length - k ∧ S 3 = .sc (.int .i64 (Ex.sizes 1 (exprs.take k)))) exprs.length ?_ ?_
  · simp only [Ty.w, simprocAttr]
    exact ⟨rfl, 0, rfl, by omega, rfl, by simp [Ex.sizes]⟩
  · rintro m S h' ⟨rfl, g1, k, g4, hkl, rfl, g3⟩
    simp only [Fm.cells] at g1
    by_cases hlt : k < exprs.length
    · have hd : decide ((k : Int) < (exprs.length : Int)) = true := by simp; omega
      have w7 : IntKind.i64.wrap ((k : Int) + 1) = k + 1 := by unfold bigN at he; rw [wrap64 (by omega) (by omega)]
      obtain ⟨e, hx⟩ : ∃ e, exprs[k]? = some e := ⟨_, List.getElem?_eq_getElem hlt⟩
      have hmem := List.mem_of_getElem? hx
      have hc := rsizeE_c e (hes e hmem)
      have hsz := Ex.sizes_take 1 hx
      have hr := Ex.rows_get hx
      obtain ⟨op2, name2, n2, args2, kids2⟩ := e
      simp only [Ex.cells] at hr hc
      repeat' (first | (refine a_seq (fun K hK => ?_)) | (refine a_block ?_) | ((first | refine a_regionS ?_ | refine a_region (fun K hK => ?_) | refine a_ret ?_); simp (maxSteps := 2000000) only [Ty.w, simprocAttr, g1, g3, g4, hlene, hd, hr, w7]) | ((first | refine a_skip ?_ | refine a_exit ?_); (try simp only [pst0, simprocAttr])) | (refine a_cond _ (by (try simp (maxSteps := 2000000) only [Ty.w, simprocAttr, g1, g3, g4, hlene, hd, hr, w7]); rfl) (fun hb => ?_) (fun hb => ?_) <;> (try simp only [hb0, decide_eq_true_eq, decide_eq_false_iff_not, simprocAttr] at hb) <;> (try (exfalso; omega))) | (with_reducible refine ite_in (fun hb => ?_) (fun hb => ?_) <;> (try simp only [Decidable.not_not] at hb) <;> (try simp only [hb, if_true, if_false, not_false_eq_true, not_true_eq_false, ↓reduceIte]) <;> (try simp only [hb0, decide_eq_true_eq, decide_eq_false_iff_not, simprocAttr] at hb) <;> (try (exfalso; omega))) | ((first | refine hK _ _ ?_ | (clear hK; refine hK _ _ ?_) | (clear hK; clear hK; refine hK _ _ ?_) | (clear hK; clear hK; clear hK; refine hK _ _ ?_)); clear hK; (try simp only [pst0, simprocAttr])) | (rw [if_pos]; rotate_left 1; omega; simp (maxSteps := 2000000) only [Ty.w, simprocAttr, g1, g3, g4, hlene, hd, hr, w7]))
      refine owp_useQ (hc _) (by (try simp only [Ty.w, simprocAttr, g1, g3, g4, hlene, hd, hr]); try rfl) ?_; simp (maxSteps := 2000000) only [Ty.w, simprocAttr, g1, g3, g4, hlene, hd, hr]
      repeat' (first | (refine a_seq (fun K hK => ?_)) | (refine a_block ?_) | ((first | refine a_regionS ?_ | refine a_region (fun K hK => ?_) | refine a_ret ?_); simp (maxSteps := 2000000) only [Ty.w, simprocAttr, g1, g3, g4, w7]) | ((first | refine a_skip ?_ | refine a_exit ?_); (try simp only [pst0, simprocAttr])) | (refine a_cond _ (by (try simp (maxSteps := 2000000) only [Ty.w, simprocAttr, g1, g3, g4, w7]); rfl) (fun hb => ?_) (fun hb => ?_) <;> (try simp only [hb0, decide_eq_true_eq, decide_eq_false_iff_not, simprocAttr] at hb) <;> (try (exfalso; omega))) | (with_reducible refine ite_in (fun hb => ?_) (fun hb => ?_) <;> (try simp only [Decidable.not_not] at hb) <;> (try simp only [hb, if_true, if_false, not_false_eq_true, not_true_eq_false, ↓reduceIte]) <;> (try simp only [hb0, decide_eq_true_eq, decide_eq_false_iff_not, simprocAttr] at hb) <;> (try (exfalso; omega))) | ((first | refine hK _ _ ?_ | (clear hK; refine hK _ _ ?_) | (clear hK; clear hK; refine hK _ _ ?_) | (clear hK; clear hK; clear hK; refine hK _ _ ?_)); clear hK; (try simp only [pst0, simprocAttr])) | (rw [if_pos]; rotate_left 1; omega; simp (maxSteps := 2000000) only [Ty.w, simprocAttr, g1, g3, g4, w7]))
      exact ⟨exprs.length - (k + 1), by omega, by simp only [Fm.cells], k + 1, by simp, by omega, rfl, by rw [hsz]⟩
    · have hd : decide ((k : Int) < (exprs.length : Int)) = false := by simp; omega
      have hke : k = exprs.length := by omega
      subst hke
      rw [List.take_length] at g3
      repeat' (first | (refine a_seq (fun K hK => ?_)) | (refine a_block ?_) | ((first | refine a_regionS ?_ | refine a_region (fun K hK => ?_) | refine a_ret ?_); simp (maxSteps := 2000000) only [Ty.w, simprocAttr, g1, g3, g4, hlene, hd]) | ((first | refine a_skip ?_ | refine a_exit ?_); (try simp only [pst0, simprocAttr])) | (refine a_cond _ (by (try simp (maxSteps := 2000000) only [Ty.w, simprocAttr, g1, g3, g4, hlene, hd]); rfl) (fun hb => ?_) (fun hb => ?_) <;> (try simp only [hb0, decide_eq_true_eq, decide_eq_false_iff_not, simprocAttr] at hb) <;> (try (exfalso; omega))) | (with_reducible refine ite_in (fun hb => ?_) (fun hb => ?_) <;> (try simp only [Decidable.not_not] at hb) <;> (try simp only [hb, if_true, if_false, not_false_eq_true, not_true_eq_false, ↓reduceIte]) <;> (try simp only [hb0, decide_eq_true_eq, decide_eq_false_iff_not, simprocAttr] at hb) <;> (try (exfalso; omega))) | ((first | refine hK _ _ ?_ | (clear hK; refine hK _ _ ?_) | (clear hK; clear hK; refine hK _ _ ?_) | (clear hK; clear hK; clear hK; refine hK _ _ ?_)); clear hK; (try simp only [pst0, simprocAttr])) | (rw [if_pos]; rotate_left 1; omega; simp (maxSteps := 2000000) only [Ty.w, simprocAttr, g1, g3, g4, hlene, hd]))
      refine a_loop (fun m S h2 => h2 = h' ∧ S 1 = .cptr (Fm.mk op name args params exprs kids).cells ∧ ∃ k : Nat, S 5 = .sc (.int .i64 k) ∧ k ≤ kids.length ∧ m = kids.length - k ∧ S 3 = .sc (.int .i64 (Fm.sizes (Ex.sizes 1 exprs) (kids.take k)))) kids.length ?_ ?_
      · simp only [Ty.w, simprocAttr, g1, g3]
        exact ⟨by simp only [Fm.cells], 0, rfl, by omega, rfl, by simp [Fm.sizes]⟩
      · clear g1 g3 g4
        rintro m S h' ⟨rfl, g1, k, g5, hkl, rfl, g3⟩
        simp only [Fm.cells] at g1
        by_cases hlt : k < kids.length
        · have hd : decide ((k : Int) < (kids.length : Int)) = true := by simp; omega
          have w7 : IntKind.i64.wrap ((k : Int) + 1) = k + 1 := by unfold bigN at hk; rw [wrap64 (by omega) (by omega)]
          obtain ⟨e, hx⟩ : ∃ e, kids[k]? = some e := ⟨_, List.getElem?_eq_getElem hlt⟩
          have hmem := List.mem_of_getElem? hx
          have hc := ih e hmem (hks e hmem)
          have hsz := Fm.sizes_take (Ex.sizes 1 exprs) hx
          have hr := Fm.rows_get hx
          obtain ⟨op2, name2, args2, params2, exprs2, kids2⟩ := e
          simp only [Fm.cells] at hr hc
          repeat' (first | (refine a_seq (fun K hK => ?_)) | (refine a_block ?_) | ((first | refine a_regionS ?_ | refine a_region (fun K hK => ?_) | refine a_ret ?_); simp (maxSteps := 2000000) only [Ty.w, simprocAttr, g1, g3, g5, hlen, hd, hr, w7]) | ((first | refine a_skip ?_ | refine a_exit ?_); (try simp only [pst0, simprocAttr])) | (refine a_cond _ (by (try simp (maxSteps := 2000000) only [Ty.w, simprocAttr, g1, g3, g5, hlen, hd, hr, w7]); rfl) (fun hb => ?_) (fun hb => ?_) <;> (try simp only [hb0, decide_eq_true_eq, decide_eq_false_iff_not, simprocAttr] at hb) <;> (try (exfalso; omega))) | (with_reducible refine ite_in (fun hb => ?_) (fun hb => ?_) <;> (try simp only [Decidable.not_not] at hb) <;> (try simp only [hb, if_true, if_false, not_false_eq_true, not_true_eq_false, ↓reduceIte]) <;> (try simp only [hb0, decide_eq_true_eq, decide_eq_false_iff_not, simprocAttr] at hb) <;> (try (exfalso; omega))) | ((first | refine hK _ _ ?_ | (clear hK; refine hK _ _ ?_) | (clear hK; clear hK; refine hK _ _ ?_) | (clear hK; clear hK; clear hK; refine hK _ _ ?_)); clear hK; (try simp only [pst0, simprocAttr])) | (rw [if_pos]; rotate_left 1; omega; simp (maxSteps := 2000000) only [Ty.w, simprocAttr, g1, g3, g5, hlen, hd, hr, w7]))
          refine owp_useQ (hc _) (by (try simp only [Ty.w, simprocAttr, g1, g3, g5, hlen, hd, hr]); try rfl) ?_; simp (maxSteps := 2000000) only [Ty.w, simprocAttr, g1, g3, g5, hlen, hd, hr]
          repeat' (first | (refine a_seq (fun K hK => ?_)) | (refine a_block ?_) | ((first | refine a_regionS ?_ | refine a_region (fun K hK => ?_) | refine a_ret ?_); simp (maxSteps := 2000000) only [Ty.w, simprocAttr, g1, g3, g5, w7]) | ((first | refine a_skip ?_ | refine a_exit ?_); (try simp only [pst0, simprocAttr])) | (refine a_cond _ (by (try simp (maxSteps := 2000000) only [Ty.w, simprocAttr, g1, g3, g5, w7]); rfl) (fun hb => ?_) (fun hb => ?_) <;> (try simp only [hb0, decide_eq_true_eq, decide_eq_false_iff_not, simprocAttr] at hb) <;> (try (exfalso; omega))) | (with_reducible refine ite_in (fun hb => ?_) (fun hb => ?_) <;> (try simp only [Decidable.not_not] at hb) <;> (try simp only [hb, if_true, if_false, not_false_eq_true, not_true_eq_false, ↓reduceIte]) <;> (try simp only [hb0, decide_eq_true_eq, decide_eq_false_iff_not, simprocAttr] at hb) <;> (try (exfalso; omega))) | ((first | refine hK _ _ ?_ | (clear hK; refine hK _ _ ?_) | (clear hK; clear hK; refine hK _ _ ?_) | (clear hK; clear hK; clear hK; refine hK _ _ ?_)); clear hK; (try simp only [pst0, simprocAttr])) | (rw [if_pos]; rotate_left 1; omega; simp (maxSteps := 2000000) only [Ty.w, simprocAttr, g1, g3, g5, w7]))
          exact ⟨kids.length - (k + 1), by omega, by simp only [Fm.cells], k + 1, by simp, by omega, rfl, by rw [hsz]⟩
        · have hd : decide ((k : Int) < (kids.length : Int)) = false := by simp; omega
          have hke : k = kids.length := by omega
          subst hke
          rw [List.take_length] at g3
          repeat' (first | (refine a_seq (fun K hK => ?_)) | (refine a_block ?_) | ((first | refine a_regionS ?_ | refine a_region (fun K hK => ?_) | refine a_ret ?_); simp (maxSteps := 2000000) only [Ty.w, simprocAttr, g1, g3, g5, hlen, hd]) | ((first | refine a_skip ?_ | refine a_exit ?_); (try simp only [pst0, simprocAttr])) | (refine a_cond _ (by (try simp (maxSteps := 2000000) only [Ty.w, simprocAttr, g1, g3, g5, hlen, hd]); rfl) (fun hb => ?_) (fun hb => ?_) <;> (try simp only [hb0, decide_eq_true_eq, decide_eq_false_iff_not, simprocAttr] at hb) <;> (try (exfalso; omega))) | (with_reducible refine ite_in (fun hb => ?_) (fun hb => ?_) <;> (try simp only [Decidable.not_not] at hb) <;> (try simp only [hb, if_true, if_false, not_false_eq_true, not_true_eq_false, ↓reduceIte]) <;> (try simp only [hb0, decide_eq_true_eq, decide_eq_false_iff_not, simprocAttr] at hb) <;> (try (exfalso; omega))) | ((first | refine hK _ _ ?_ | (clear hK; refine hK _ _ ?_) | (clear hK; clear hK; refine hK _ _ ?_) | (clear hK; clear hK; clear hK; refine hK _ _ ?_)); clear hK; (try simp only [pst0, simprocAttr])) | (rw [if_pos]; rotate_left 1; omega; simp (maxSteps := 2000000) only [Ty.w, simprocAttr, g1, g3, g5, hlen, hd]))
end Go.Proofs.YtikhonogkpboaaaGreat
namespace Go.AM
def vEq : Value → Value → Bool
  | .int k a, .int k' b => decide (k = k') && decide (a = b)
  | .bool a, .bool b => a == b
  | .string a, .string b => decide (a.data.toList = b.data.toList)
  | .nilIface, .nilIface => true
  | .pointer none, .pointer none => true
  | .map none, .map none => true
  | .slice none n m, .slice none n' m' => decide (n = n') && decide (m = m')
  | .func (.func f) a b, .func (.func f') a' b' => decide (f = f') && decide (a.size = 0) && decide (b.size = 0) && decide (a'.size = 0) && decide (b'.size = 0)
  | .iface t v, .iface u x => decide (t = u) && vEq v x
  | _, _ => false
theorem vEq_eq (a b : Value) (h : vEq a b = true) : a = b := by
  fun_induction vEq a b
  case case3 a b =>
    obtain ⟨⟨a⟩⟩ := a
    obtain ⟨⟨b⟩⟩ := b
    simp at h; rw [h]
  case case8 =>
    simp at h
    obtain ⟨⟨⟨⟨rfl, rfl⟩, rfl⟩, rfl⟩, rfl⟩ := h
    rfl
  all_goals simp_all
mutual
def pvEq : PV → PV → Bool
  | .sc v, .sc u => vEq v u
  | .ptr a b c, .ptr a' b' c' => decide (a = a') && decide (b = b') && decide (c = c')
  | .own a b c, .own a' b' c' => decide (a = a') && decide (b = b') && decide (c = c')
  | .mp a, .mp b => decide (a = b)
  | .emp, .emp => true
  | .cptr l, .cptr l' => pvEqL l l'
  | .agg l, .agg l' => pvEqL l l'
  | .tup l, .tup l' => pvEqL l l'
  | .fn f a b, .fn f' a' b' => decide (f = f') && pvEqL a a' && pvEqL b b'
  | .ab k a b c d, .ab k' a' b' c' d' => decide (k = k') && decide (a = a') && decide (b = b') && decide (c = c') && decide (d = d')
  | .imm z r, .imm z' r' => decide (z = z') && pvEqR r r'
  | _, _ => false
def pvEqL : List PV → List PV → Bool
  | [], [] => true
  | a :: l, b :: l' => pvEq a b && pvEqL l l'
  | _, _ => false
def pvEqR : List (List PV) → List (List PV) → Bool
  | [], [] => true
  | a :: l, b :: l' => pvEqL a b && pvEqR l l'
  | _, _ => false
end
mutual
theorem pvEq_eq : ∀ (a b : PV), pvEq a b = true → a = b
  | .sc v, b, h => by cases b <;> simp [pvEq] at h; rw [vEq_eq _ _ h]
  | .ptr a b c, x, h => by cases x <;> simp [pvEq] at h; obtain ⟨⟨rfl, rfl⟩, rfl⟩ := h; rfl
  | .own a b c, x, h => by cases x <;> simp [pvEq] at h; obtain ⟨⟨rfl, rfl⟩, rfl⟩ := h; rfl
  | .mp a, x, h => by cases x <;> simp [pvEq] at h; rw [h]
  | .emp, x, h => by cases x <;> simp [pvEq] at h; rfl
  | .cptr l, x, h => by cases x <;> simp [pvEq] at h; rw [pvEqL_eq _ _ h]
  | .agg l, x, h => by cases x <;> simp [pvEq] at h; rw [pvEqL_eq _ _ h]
  | .tup l, x, h => by cases x <;> simp [pvEq] at h; rw [pvEqL_eq _ _ h]
  | .imm z r, x, h => by cases x <;> simp [pvEq] at h; rw [h.1, pvEqR_eq _ _ h.2]
  | .fn f a b, x, h => by cases x <;> simp [pvEq] at h; rw [h.1.1, pvEqL_eq _ _ h.1.2, pvEqL_eq _ _ h.2]
  | .ab k a b c d, x, h => by cases x <;> simp [pvEq] at h; obtain ⟨⟨⟨⟨rfl, rfl⟩, rfl⟩, rfl⟩, rfl⟩ := h; rfl
theorem pvEqL_eq : ∀ (a b : List PV), pvEqL a b = true → a = b
  | [], b, h => by cases b <;> simp [pvEqL] at h; rfl
  | x :: l, b, h => by cases b <;> simp [pvEqL] at h; rw [pvEq_eq _ _ h.1, pvEqL_eq _ _ h.2]
theorem pvEqR_eq : ∀ (a b : List (List PV)), pvEqR a b = true → a = b
  | [], b, h => by cases b <;> simp [pvEqR] at h; rfl
  | x :: l, b, h => by cases b <;> simp [pvEqR] at h; rw [pvEqL_eq _ _ h.1, pvEqR_eq _ _ h.2]
end
section
variable (P : Program) (wf : FuncId → Bool) (own : FuncId → Nat → Bool) (ext : FuncId → List PV → Option PV)
end
section
variable {P : Program} {wf : FuncId → Bool} {own : FuncId → Nat → Bool}
/-- what is taken from contracts that are proved: of calls that leave the heap -/
def ExtOk (P : Program) (ext : FuncId → List PV → Option PV) : Prop := ∀ f args r h, ext f args = some r → PCall P f args h (fun r' h' => r' = r ∧ h' = h)
theorem eff_same {ow : Nat → Bool} {o : Oper} {ρ : Operand → PV} {h h' : Heap} {v : PV} (hw : isW ow wf o = false) (hc : callee ρ o.op = none) (he : eff P (o.dst.any ow) o.op ρ h = some (v, h')) : h' = h := by
  obtain ⟨dst, op, t, pos, after, guard⟩ := o
  simp only at hc he hw
  unfold eff at he
  split at he <;> simp only [isW] at hw <;> (try (simp at hw; done))
  all_goals (repeat' (split at he))
  all_goals first
    | (simp [Option.bind_eq_some_iff, Option.map_eq_some_iff] at he; done)
    | (simp [Option.bind_eq_some_iff, Option.map_eq_some_iff] at he; grind)
    | skip
theorem Does.owp {ow : Nat → Bool} {o : Oper} {s : Slots} {h h' : Heap} {v : PV} {K : Slots → Heap → Prop} (hd : Does P ow o (pev s) h v h') (hK : K (updO s o.dst v) h') : owp P ow o K s h := by
  unfold Does at hd
  unfold AM.owp
  split at hd
  · rename_i f args hc
    exact hd.mono (fun r h'' hr => by rw [hr.1, hr.2]; exact hK)
  · rename_i hc
    rw [hd]
    exact hK
/-- the first place of a byte -/
theorem pcall_indexByte {f : FuncId} {fn : Func} (hf : P.funcs[f]? = some fn) (hname : (fn.name == "runtime.NumGoroutine") = false) (hb : fn.body.isNone = true) (hn : Extern.findNext fn = none) (he : Extern.find fn = some Extern.BytealgIndexByte.indexByte) (s : ByteArray) (c : Int) (h : Heap) :
    PCall P f [.sc (.string s), .sc (.int .u8 c)] h (fun r h' => r = .sc (.int .i64 (firstIdx s c.toNat.toUInt8)) ∧ h' = h) := by
  intro β w vals sm hr
  match vals, hr.len, hr with
  | [x, y], _, hr =>
    simp only [RepL, Rep] at hr
    obtain ⟨rfl, rfl, _⟩ := hr
    exact .inr ⟨_, w, by rw [run_callFunc_extern hf hname hb hn he]; simp only [run_indexByte_string]; rfl, _, h, β, _, rfl, ⟨rfl, rfl⟩, sm, by simp only [RepH, Rep], Ext.refl⟩
end
end Go.AM
namespace Go.Proofs.YtikhonogkpboaaaGreat
open Go.AM
set_option maxHeartbeats 2000000
set_option maxRecDepth 100000
def ext (f : FuncId) (args : List PV) : Option PV := if f = 268 then (match args with | [.sc (.string s), .sc (.int .u8 c)] => some (.sc (.int .i64 (firstIdx s c.toNat.toUInt8))) | _ => none) else none
theorem ixb_ok : (Tryz.f268.name == "runtime.NumGoroutine") = false ∧ Tryz.f268.body.isNone = true ∧ Extern.findNext Tryz.f268 = none ∧ Extern.find Tryz.f268 = some Extern.BytealgIndexByte.indexByte :=
  ⟨by kernel_rfl, by kernel_rfl, by kernel_rfl, by kernel_rfl⟩
theorem ext_ok : ExtOk Tryz.prog ext := by
  intro f args r h hr
  unfold ext at hr
  split at hr
  · rename_i hf
    subst hf
    split at hr
    · simp only [Option.some.injEq] at hr
      subst hr
      exact pcall_indexByte Tryz.func268 ixb_ok.1 ixb_ok.2.1 ixb_ok.2.2.1 ixb_ok.2.2.2 _ _ _
    · simp at hr
  · simp at hr
end Go.Proofs.YtikhonogkpboaaaGreat
