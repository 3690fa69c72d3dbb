/- What the claim rests on, part 3: the abstract machine, contracts of the functions, plain data. -/
import Derived.Test.YtikhonogkpboaaaGreatProg
import Derived.Test.YtikhonogkpboaaaGreatZt2
set_option linter.unusedVariables false
set_option linter.unusedSimpArgs false
set_option linter.unusedSectionVars false
namespace Go.AM
/-- a change -/
structure Ch where
  kind : Int
  params : List Pm
  cond : Fm
  name : ByteArray
  args : List ByteArray
  value : Ex
/-- a predicate -/
structure Pr where
  name : ByteArray
  params : List Pm
/-- a function -/
structure Fu where
  name : ByteArray
  params : List Pm
  lo : Int
  hi : Int
/-- an action -/
structure Ac where
  name : ByteArray
  params : List Pm
  cost : Int
  pre : Fm
  changes : List Ch
/-- a durative action -/
structure Du where
  name : ByteArray
  params : List Pm
  duration : Int
  start : Fm
  over : Fm
  stop : Fm
  atStart : List Ch
  atStop : List Ch
structure Dm where
  name : ByteArray
  types : List Pm
  constants : List Pm
  predicates : List Pr
  functions : List Fu
  actions : List Ac
  duratives : List Du
def chRow (c : Ch) : List PV := [.sc (.int .i64 c.kind), .imm 2 (pmRows c.params)] ++ (c.cond.cells ++ ([sPV c.name, .imm 1 (strRows c.args)] ++ c.value.cells))
def chRows (l : List Ch) : List (List PV) := l.map chRow
def prRow (p : Pr) : List PV := [sPV p.name, .imm 2 (pmRows p.params)]
def prRows (l : List Pr) : List (List PV) := l.map prRow
def fuRow (f : Fu) : List PV := [sPV f.name, .imm 2 (pmRows f.params), .sc (.int .i64 f.lo), .sc (.int .i64 f.hi)]
def fuRows (l : List Fu) : List (List PV) := l.map fuRow
def acRow (a : Ac) : List PV := [sPV a.name, .imm 2 (pmRows a.params), .sc (.int .i64 a.cost)] ++ (a.pre.cells ++ [.imm 15 (chRows a.changes)])
def acRows (l : List Ac) : List (List PV) := l.map acRow
def duRow (d : Du) : List PV := [sPV d.name, .imm 2 (pmRows d.params), .sc (.int .i64 d.duration)] ++ (d.start.cells ++ (d.over.cells ++ (d.stop.cells ++ [.imm 15 (chRows d.atStart), .imm 15 (chRows d.atStop)])))
def duRows (l : List Du) : List (List PV) := l.map duRow
def Dm.cells (d : Dm) : List PV := [sPV d.name, .imm 2 (pmRows d.types), .imm 2 (pmRows d.constants), .imm 2 (prRows d.predicates), .imm 4 (fuRows d.functions), .imm 10 (acRows d.actions), .imm 23 (duRows d.duratives)]
theorem chRows_len (l : List Ch) : (chRows l).length = l.length := by simp [chRows]
theorem chRows_get {l : List Ch} {i : Nat} {a : Ch} (h : l[i]? = some a) : (chRows l)[i]? = some (chRow a) := by simp [chRows, h]
theorem prRows_len (l : List Pr) : (prRows l).length = l.length := by simp [prRows]
theorem fuRows_len (l : List Fu) : (fuRows l).length = l.length := by simp [fuRows]
theorem acRows_len (l : List Ac) : (acRows l).length = l.length := by simp [acRows]
theorem acRows_get {l : List Ac} {i : Nat} {a : Ac} (h : l[i]? = some a) : (acRows l)[i]? = some (acRow a) := by simp [acRows, h]
theorem duRows_len (l : List Du) : (duRows l).length = l.length := by simp [duRows]
theorem duRows_get {l : List Du} {i : Nat} {a : Du} (h : l[i]? = some a) : (duRows l)[i]? = some (duRow a) := by simp [duRows, h]
structure Ch.ok (c : Ch) : Prop where
  params : c.params.length ≤ bigN ∧ ∀ a ∈ c.params, a.ok
  cond : c.cond.ok
  args : c.args.length ≤ bigN ∧ ∀ a ∈ c.args, a.size ≤ bigN
  value : c.value.ok
  name : c.name.size ≤ bigN
  kind : -9223372036854775808 ≤ c.kind ∧ c.kind ≤ 9223372036854775807
def Chs.ok (l : List Ch) : Prop := l.length ≤ bigN ∧ ∀ a ∈ l, a.ok
structure Pr.ok (p : Pr) : Prop where
  name : p.name.size ≤ bigN
  params : p.params.length ≤ bigN ∧ ∀ a ∈ p.params, a.ok
structure Fu.ok (p : Fu) : Prop where
  name : p.name.size ≤ bigN
  params : p.params.length ≤ bigN ∧ ∀ a ∈ p.params, a.ok
  lo : -9223372036854775808 ≤ p.lo ∧ p.lo ≤ 9223372036854775807
  hi : -9223372036854775808 ≤ p.hi ∧ p.hi ≤ 9223372036854775807
structure Ac.ok (a : Ac) : Prop where
  name : a.name.size ≤ bigN
  params : a.params.length ≤ bigN ∧ ∀ p ∈ a.params, p.ok
  cost : -9223372036854775808 ≤ a.cost ∧ a.cost ≤ 9223372036854775807
  pre : a.pre.ok
  changes : Chs.ok a.changes
structure Du.ok (a : Du) : Prop where
  name : a.name.size ≤ bigN
  params : a.params.length ≤ bigN ∧ ∀ p ∈ a.params, p.ok
  duration : -9223372036854775808 ≤ a.duration ∧ a.duration ≤ 9223372036854775807
  start : a.start.ok
  over : a.over.ok
  stop : a.stop.ok
  atStart : Chs.ok a.atStart
  atStop : Chs.ok a.atStop
structure Dm.ok (d : Dm) : Prop where
  name : d.name.size ≤ bigN
  types : d.types.length ≤ bigN ∧ ∀ a ∈ d.types, a.ok
  constants : d.constants.length ≤ bigN ∧ ∀ a ∈ d.constants, a.ok
  predicates : d.predicates.length ≤ bigN ∧ ∀ a ∈ d.predicates, a.ok
  functions : d.functions.length ≤ bigN ∧ ∀ a ∈ d.functions, a.ok
  actions : d.actions.length ≤ bigN ∧ ∀ a ∈ d.actions, a.ok
  duratives : d.duratives.length ≤ bigN ∧ ∀ a ∈ d.duratives, a.ok
end Go.AM
namespace Go.AM
set_option maxRecDepth 20000
variable {P : Program} {ow : Nat → Bool} {s : Slots} {h : Heap}
theorem am0 : type_of% (And.intro @rowsI_len (And.intro @ex2_eq (And.intro @new_obj (And.intro @kill_obj (And.intro @set_obj (And.intro @new_next (And.intro @kill_next (And.intro @set_next (And.intro @lenP_imm (And.intro @lenP_emp (And.intro @lenP_nil (And.intro @lenP_own (And.intro @lenP_str (And.intro @lenP_mnil (And.intro @lenP_mp (And.intro @lenK_imm (And.intro @lenK_emp (And.intro @lenK_nil (And.intro @lenK_own (And.intro @lenK_str (And.intro @lenK_mnil (And.intro @lenK_mp (And.intro @idx_imm (And.intro @idx_own (And.intro @idxA_ptr (And.intro @idxA_cptr (And.intro @fldP_ptr (And.intro @fldP_cptr (And.intro @rd_ptr (And.intro @rd_cptr (And.intro @wr_ptr (And.intro @view_imm (And.intro @view_emp (@view_nil)))))))))))))))))))))))))))))))))) := And.intro @rowsI_len (And.intro @ex2_eq (And.intro @new_obj (And.intro @kill_obj (And.intro @set_obj (And.intro @new_next (And.intro @kill_next (And.intro @set_next (And.intro @lenP_imm (And.intro @lenP_emp (And.intro @lenP_nil (And.intro @lenP_own (And.intro @lenP_str (And.intro @lenP_mnil (And.intro @lenP_mp (And.intro @lenK_imm (And.intro @lenK_emp (And.intro @lenK_nil (And.intro @lenK_own (And.intro @lenK_str (And.intro @lenK_mnil (And.intro @lenK_mp (And.intro @idx_imm (And.intro @idx_own (And.intro @idxA_ptr (And.intro @idxA_cptr (And.intro @fldP_ptr (And.intro @fldP_cptr (And.intro @rd_ptr (And.intro @rd_cptr (And.intro @wr_ptr (And.intro @view_imm (And.intro @view_emp (@view_nil)))))))))))))))))))))))))))))))))
theorem am1 : type_of% (And.intro @view_own (And.intro @zOk_imm (And.intro @zOk_emp (And.intro @zOk_nil (And.intro @zOk_own (And.intro @isTail_emp (And.intro @isTail_nil (And.intro @isTail_own (And.intro @isSl_imm (And.intro @isSl_own (And.intro @isSl_emp (And.intro @isSl_nil (And.intro @mview_nil (And.intro @mview_mp (And.intro @subL_imm (And.intro @subL_own (And.intro @cells_agg (And.intro @cells_sc (And.intro @cells_imm (And.intro @cells_own (And.intro @cells_ptr (And.intro @cells_cptr (And.intro @cells_emp (And.intro @cells_mp (And.intro @oneC_int (And.intro @oneC_bool (And.intro @oneC_str (And.intro @oneC_nilI (And.intro @oneC_if (And.intro @oneC_p (And.intro @oneC_s (And.intro @oneC_m (And.intro @oneC_imm (@oneC_own)))))))))))))))))))))))))))))))))) := And.intro @view_own (And.intro @zOk_imm (And.intro @zOk_emp (And.intro @zOk_nil (And.intro @zOk_own (And.intro @isTail_emp (And.intro @isTail_nil (And.intro @isTail_own (And.intro @isSl_imm (And.intro @isSl_own (And.intro @isSl_emp (And.intro @isSl_nil (And.intro @mview_nil (And.intro @mview_mp (And.intro @subL_imm (And.intro @subL_own (And.intro @cells_agg (And.intro @cells_sc (And.intro @cells_imm (And.intro @cells_own (And.intro @cells_ptr (And.intro @cells_cptr (And.intro @cells_emp (And.intro @cells_mp (And.intro @oneC_int (And.intro @oneC_bool (And.intro @oneC_str (And.intro @oneC_nilI (And.intro @oneC_if (And.intro @oneC_p (And.intro @oneC_s (And.intro @oneC_m (And.intro @oneC_imm (@oneC_own)))))))))))))))))))))))))))))))))
theorem am2 : type_of% (And.intro @oneC_ptr (And.intro @oneC_cptr (And.intro @oneC_emp (And.intro @oneC_mp (And.intro @owp_move (And.intro @owp_assign (And.intro @owp_pick (And.intro @owp_alloc (And.intro @owp_box (And.intro @owp_build (And.intro @owp_buildSlice (And.intro @owp_load (And.intro @owp_store (And.intro @owp_nilCheck (And.intro @owp_binOp (And.intro @owp_unOp (And.intro @owp_convert (And.intro @owp_makeInterface (And.intro @owp_makeMap (And.intro @owp_makeSlice (And.intro @owp_slice (And.intro @owp_fieldAddr (And.intro @owp_field (And.intro @owp_indexAddr (And.intro @owp_index (And.intro @owp_lookup (And.intro @owp_mapUpdate (And.intro @owp_typeAssert (And.intro @owp_extract (And.intro @owp_callB (And.intro @Does_move (And.intro @Does_assign (And.intro @Does_pick (@Does_alloc)))))))))))))))))))))))))))))))))) := And.intro @oneC_ptr (And.intro @oneC_cptr (And.intro @oneC_emp (And.intro @oneC_mp (And.intro @owp_move (And.intro @owp_assign (And.intro @owp_pick (And.intro @owp_alloc (And.intro @owp_box (And.intro @owp_build (And.intro @owp_buildSlice (And.intro @owp_load (And.intro @owp_store (And.intro @owp_nilCheck (And.intro @owp_binOp (And.intro @owp_unOp (And.intro @owp_convert (And.intro @owp_makeInterface (And.intro @owp_makeMap (And.intro @owp_makeSlice (And.intro @owp_slice (And.intro @owp_fieldAddr (And.intro @owp_field (And.intro @owp_indexAddr (And.intro @owp_index (And.intro @owp_lookup (And.intro @owp_mapUpdate (And.intro @owp_typeAssert (And.intro @owp_extract (And.intro @owp_callB (And.intro @Does_move (And.intro @Does_assign (And.intro @Does_pick (@Does_alloc)))))))))))))))))))))))))))))))))
theorem am3 : type_of% (And.intro @Does_box (And.intro @Does_build (And.intro @Does_buildSlice (And.intro @Does_load (And.intro @Does_store (And.intro @Does_nilCheck (And.intro @Does_binOp (And.intro @Does_unOp (And.intro @Does_convert (And.intro @Does_makeInterface (And.intro @Does_makeMap (And.intro @Does_makeSlice (And.intro @Does_slice (And.intro @Does_fieldAddr (And.intro @Does_field (And.intro @Does_indexAddr (And.intro @Does_index (And.intro @Does_lookup (And.intro @Does_mapUpdate (And.intro @Does_typeAssert (And.intro @Does_extract (And.intro @Does_callB (And.intro @constPV_int (And.intro @constPV_bool (And.intro @constPV_str (And.intro @constPV_nilI (And.intro @constPV_ptr (And.intro @constPV_slice (And.intro @constPV_map (And.intro @constPV_agg (And.intro @upd_app (And.intro @updO_some (And.intro @updO_none (@slots0_app)))))))))))))))))))))))))))))))))) := And.intro @Does_box (And.intro @Does_build (And.intro @Does_buildSlice (And.intro @Does_load (And.intro @Does_store (And.intro @Does_nilCheck (And.intro @Does_binOp (And.intro @Does_unOp (And.intro @Does_convert (And.intro @Does_makeInterface (And.intro @Does_makeMap (And.intro @Does_makeSlice (And.intro @Does_slice (And.intro @Does_fieldAddr (And.intro @Does_field (And.intro @Does_indexAddr (And.intro @Does_index (And.intro @Does_lookup (And.intro @Does_mapUpdate (And.intro @Does_typeAssert (And.intro @Does_extract (And.intro @Does_callB (And.intro @constPV_int (And.intro @constPV_bool (And.intro @constPV_str (And.intro @constPV_nilI (And.intro @constPV_ptr (And.intro @constPV_slice (And.intro @constPV_map (And.intro @constPV_agg (And.intro @upd_app (And.intro @updO_some (And.intro @updO_none (@slots0_app)))))))))))))))))))))))))))))))))
theorem amb0 : type_of% (And.intro @Nat.zero_add (And.intro @Int.natCast_nonneg (And.intro @decide_eq_true_eq (And.intro @decide_eq_false_iff_not (And.intro @Bool.not_eq_true (And.intro @Bool.not_eq_false (And.intro @not_false_eq_true (And.intro @not_true_eq_false (And.intro @Decidable.not_not (And.intro @Option.bind_some.{0, 0} (And.intro @Option.bind_none.{0, 0} (And.intro @Option.map_some.{0, 0} (And.intro @Option.map_none.{0, 0} (And.intro @Option.all_some.{0} (And.intro @Option.all_none.{0} (And.intro @Option.any_some.{0} (And.intro @Option.any_none.{0} (And.intro @Option.some.injEq.{0} (And.intro @Prod.mk.injEq.{0, 0} (And.intro @List.map_cons.{0, 0} (And.intro @List.map_nil.{0, 0} (And.intro @List.length_cons.{0} (And.intro @List.length_nil.{0} (And.intro @List.length_map.{0, 0} (And.intro @List.getD_cons_zero.{0} (And.intro @List.getD_cons_succ.{0} (And.intro @List.getElem?_cons_zero.{0} (And.intro @List.getElem?_cons_succ.{0} (And.intro @List.drop_zero.{0} (And.intro @List.drop_succ_cons.{0} (And.intro @List.drop_nil.{0} (And.intro @List.take_zero.{0} (And.intro @List.take_succ_cons.{0} (@List.take_nil.{0})))))))))))))))))))))))))))))))))) := And.intro @Nat.zero_add (And.intro @Int.natCast_nonneg (And.intro @decide_eq_true_eq (And.intro @decide_eq_false_iff_not (And.intro @Bool.not_eq_true (And.intro @Bool.not_eq_false (And.intro @not_false_eq_true (And.intro @not_true_eq_false (And.intro @Decidable.not_not (And.intro @Option.bind_some.{0, 0} (And.intro @Option.bind_none.{0, 0} (And.intro @Option.map_some.{0, 0} (And.intro @Option.map_none.{0, 0} (And.intro @Option.all_some.{0} (And.intro @Option.all_none.{0} (And.intro @Option.any_some.{0} (And.intro @Option.any_none.{0} (And.intro @Option.some.injEq.{0} (And.intro @Prod.mk.injEq.{0, 0} (And.intro @List.map_cons.{0, 0} (And.intro @List.map_nil.{0, 0} (And.intro @List.length_cons.{0} (And.intro @List.length_nil.{0} (And.intro @List.length_map.{0, 0} (And.intro @List.getD_cons_zero.{0} (And.intro @List.getD_cons_succ.{0} (And.intro @List.getElem?_cons_zero.{0} (And.intro @List.getElem?_cons_succ.{0} (And.intro @List.drop_zero.{0} (And.intro @List.drop_succ_cons.{0} (And.intro @List.drop_nil.{0} (And.intro @List.take_zero.{0} (And.intro @List.take_succ_cons.{0} (@List.take_nil.{0})))))))))))))))))))))))))))))))))
theorem amb1 : type_of% (And.intro @List.head?_cons.{0} (And.intro @List.all_cons.{0} (And.intro @List.all_nil.{0} (And.intro @List.cons_append.{0} (And.intro @List.nil_append.{0} (And.intro @List.append_nil.{0} (And.intro @List.replicate_succ.{0} (And.intro @List.replicate_zero.{0} (And.intro @List.set_cons_zero.{0} (And.intro @List.set_cons_succ.{0} (And.intro @decide_true (And.intro @decide_false (And.intro @Bool.or_true (And.intro @Bool.true_or (And.intro @Bool.or_false (And.intro @Bool.false_or (And.intro @Bool.and_true (And.intro @Bool.true_and (And.intro @Bool.and_false (And.intro @Bool.false_and (And.intro @Bool.not_true (And.intro @Bool.not_false (And.intro @Bool.false_eq_true (And.intro @and_true (And.intro @true_and (And.intro @and_false (And.intro @false_and (And.intro @and_self (And.intro @or_true (And.intro @true_or (And.intro @or_false (And.intro @false_or (And.intro @List.not_mem_nil.{0} (@false_implies)))))))))))))))))))))))))))))))))) := And.intro @List.head?_cons.{0} (And.intro @List.all_cons.{0} (And.intro @List.all_nil.{0} (And.intro @List.cons_append.{0} (And.intro @List.nil_append.{0} (And.intro @List.append_nil.{0} (And.intro @List.replicate_succ.{0} (And.intro @List.replicate_zero.{0} (And.intro @List.set_cons_zero.{0} (And.intro @List.set_cons_succ.{0} (And.intro @decide_true (And.intro @decide_false (And.intro @Bool.or_true (And.intro @Bool.true_or (And.intro @Bool.or_false (And.intro @Bool.false_or (And.intro @Bool.and_true (And.intro @Bool.true_and (And.intro @Bool.and_false (And.intro @Bool.false_and (And.intro @Bool.not_true (And.intro @Bool.not_false (And.intro @Bool.false_eq_true (And.intro @and_true (And.intro @true_and (And.intro @and_false (And.intro @false_and (And.intro @and_self (And.intro @or_true (And.intro @true_or (And.intro @or_false (And.intro @false_or (And.intro @List.not_mem_nil.{0} (@false_implies)))))))))))))))))))))))))))))))))
theorem amb2 : type_of% (And.intro @Int.toNat_natCast (@List.getElem?_map.{0, 0})) := And.intro @Int.toNat_natCast (@List.getElem?_map.{0, 0})
theorem amb3 : type_of% (And.intro @andK_u64 (And.intro @orK_u64 (And.intro @xorK_u64 (And.intro @andnK_u64 (And.intro @andK_i64 (And.intro @orK_i64 (And.intro @xorK_i64 (And.intro @andnK_i64 (And.intro @andK_u8 (And.intro @orK_u8 (And.intro @xorK_u8 (@andnK_u8)))))))))))) := And.intro @andK_u64 (And.intro @orK_u64 (And.intro @xorK_u64 (And.intro @andnK_u64 (And.intro @andK_i64 (And.intro @orK_i64 (And.intro @xorK_i64 (And.intro @andnK_i64 (And.intro @andK_u8 (And.intro @orK_u8 (And.intro @xorK_u8 (@andnK_u8)))))))))))
theorem amb4 : type_of% (And.intro @beq_iff_eq.{0} (And.intro @bne_iff_ne.{0} (And.intro @ne_eq.{1} (And.intro @beq_eq_false_iff_ne.{0} (@beq_self_eq_true.{0}))))) := And.intro @beq_iff_eq.{0} (And.intro @bne_iff_ne.{0} (And.intro @ne_eq.{1} (And.intro @beq_eq_false_iff_ne.{0} (@beq_self_eq_true.{0}))))
theorem hb0 : type_of% (And.intro @not_true_eq_false (And.intro @not_false_eq_true (And.intro @decide_eq_true_eq (And.intro @decide_eq_false_iff_not (And.intro @Bool.or_eq_true (And.intro @Bool.or_eq_false_iff (And.intro @Bool.and_eq_true (And.intro @Bool.and_eq_false_iff (And.intro @Bool.not_eq_true' (And.intro @Bool.not_eq_false' (And.intro @Bool.not_eq_true (And.intro @Bool.not_eq_false (And.intro @bne_iff_ne.{0} (And.intro @bne_eq_false_iff_eq.{0} (And.intro @beq_iff_eq.{0} (And.intro @beq_eq_false_iff_ne.{0} (And.intro @ne_eq.{1} (And.intro @gt_iff_lt.{0} (And.intro @ge_iff_le.{0} (And.intro @Int.not_lt (And.intro @Int.not_le (@Decidable.not_not)))))))))))))))))))))) := And.intro @not_true_eq_false (And.intro @not_false_eq_true (And.intro @decide_eq_true_eq (And.intro @decide_eq_false_iff_not (And.intro @Bool.or_eq_true (And.intro @Bool.or_eq_false_iff (And.intro @Bool.and_eq_true (And.intro @Bool.and_eq_false_iff (And.intro @Bool.not_eq_true' (And.intro @Bool.not_eq_false' (And.intro @Bool.not_eq_true (And.intro @Bool.not_eq_false (And.intro @bne_iff_ne.{0} (And.intro @bne_eq_false_iff_eq.{0} (And.intro @beq_iff_eq.{0} (And.intro @beq_eq_false_iff_ne.{0} (And.intro @ne_eq.{1} (And.intro @gt_iff_lt.{0} (And.intro @ge_iff_le.{0} (And.intro @Int.not_lt (And.intro @Int.not_le (@Decidable.not_not)))))))))))))))))))))
section
variable {K : Slots → Heap → Prop} {Q : Post} {i j : Nat}
theorem ps1 : Post.seq K Q .normal s h = K s h := rfl
theorem ps2 : Post.seq K Q .ret s h = Q .ret s h := rfl
theorem ps3 : Post.seq K Q (.exit i) s h = Q (.exit i) s h := rfl
theorem ps4 : Post.block j Q .normal s h = Q .normal s h := rfl
theorem ps5 : Post.block j Q .ret s h = Q .ret s h := rfl
theorem ps6 : Post.block j Q (.exit i) s h = if i = j then Q .normal s h else Q (.exit i) s h := rfl
end
theorem pst0 : type_of% (And.intro @ps1 (And.intro @ps2 (And.intro @ps3 (And.intro @ps4 (And.intro @ps5 @ps6))))) := And.intro @ps1 (And.intro @ps2 (And.intro @ps3 (And.intro @ps4 (And.intro @ps5 @ps6))))
end Go.AM
namespace Go.Proofs.YtikhonogkpboaaaGreat
open Go.AM
namespace Ty
theorem mixed : Tryz.prog.follows .mixedOrders = true := by kernel_rfl
theorem szT_28 : szT Tryz.prog 28 = some 7 := by kernel_rfl
theorem aggB_28 : aggB Tryz.prog 28 = true := by kernel_rfl
theorem hb_13 : hasBody Tryz.prog 13 = true := by kernel_rfl
theorem kT_4 : kT Tryz.prog 4 = 1 := by kernel_rfl
theorem hb_17 : hasBody Tryz.prog 17 = true := by kernel_rfl
theorem hb_18 : hasBody Tryz.prog 18 = true := by kernel_rfl
theorem szT_41 : szT Tryz.prog 41 = some 11 := by kernel_rfl
theorem aggB_41 : aggB Tryz.prog 41 = true := by kernel_rfl
theorem zeroT_46 : zeroT Tryz.prog 46 = some [.int .i64 0, .int .i64 0, .int .i64 0, .int .i64 0, .string ⟨#[]⟩, .slice none 0 0] := by kernel_rfl
theorem szT_46 : szT Tryz.prog 46 = some 6 := by kernel_rfl
theorem aggB_46 : aggB Tryz.prog 46 = true := by kernel_rfl
theorem kT_46 : kT Tryz.prog 46 = 8 := by kernel_rfl
theorem fieldsT_46 : fieldsT Tryz.prog 46 = some [(0, 1), (1, 1), (2, 1), (3, 1), (4, 1), (5, 1)] := by kernel_rfl
theorem kT_48 : kT Tryz.prog 48 = 7 := by kernel_rfl
theorem hb_29 : hasBody Tryz.prog 29 = true := by kernel_rfl
theorem kT_3 : kT Tryz.prog 3 = 2 := by kernel_rfl
theorem zeroT_28 : zeroT Tryz.prog 28 = some [.string ⟨#[]⟩, .slice none 0 0, .slice none 0 0, .slice none 0 0, .slice none 0 0, .slice none 0 0, .slice none 0 0] := by kernel_rfl
theorem zeroT_41 : zeroT Tryz.prog 41 = some [.string ⟨#[]⟩, .string ⟨#[]⟩, .slice none 0 0, .slice none 0 0, .slice none 0 0, .string ⟨#[]⟩, .string ⟨#[]⟩, .slice none 0 0, .slice none 0 0, .slice none 0 0, .slice none 0 0] := by kernel_rfl
theorem fldT_28_0 : fldT Tryz.prog 28 0 = some (0, 1, false) := by kernel_rfl
theorem szT_9 : szT Tryz.prog 9 = some 1 := by kernel_rfl
theorem aggB_9 : aggB Tryz.prog 9 = false := by kernel_rfl
theorem kT_9 : kT Tryz.prog 9 = 3 := by kernel_rfl
theorem fldT_41_0 : fldT Tryz.prog 41 0 = some (0, 1, false) := by kernel_rfl
theorem fldT_41_5 : fldT Tryz.prog 41 5 = some (5, 6, true) := by kernel_rfl
theorem fldT_39_0 : fldT Tryz.prog 39 0 = some (0, 1, false) := by kernel_rfl
theorem fldT_28_1 : fldT Tryz.prog 28 1 = some (1, 1, false) := by kernel_rfl
theorem szT_22 : szT Tryz.prog 22 = some 1 := by kernel_rfl
theorem aggB_22 : aggB Tryz.prog 22 = false := by kernel_rfl
theorem kT_22 : kT Tryz.prog 22 = 5 := by kernel_rfl
theorem fldT_28_2 : fldT Tryz.prog 28 2 = some (2, 1, false) := by kernel_rfl
theorem fldT_28_3 : fldT Tryz.prog 28 3 = some (3, 1, false) := by kernel_rfl
theorem szT_23 : szT Tryz.prog 23 = some 1 := by kernel_rfl
theorem aggB_23 : aggB Tryz.prog 23 = false := by kernel_rfl
theorem kT_23 : kT Tryz.prog 23 = 5 := by kernel_rfl
theorem fldT_28_4 : fldT Tryz.prog 28 4 = some (4, 1, false) := by kernel_rfl
theorem szT_24 : szT Tryz.prog 24 = some 1 := by kernel_rfl
theorem aggB_24 : aggB Tryz.prog 24 = false := by kernel_rfl
theorem kT_24 : kT Tryz.prog 24 = 5 := by kernel_rfl
theorem fldT_28_5 : fldT Tryz.prog 28 5 = some (5, 1, false) := by kernel_rfl
theorem szT_25 : szT Tryz.prog 25 = some 1 := by kernel_rfl
theorem aggB_25 : aggB Tryz.prog 25 = false := by kernel_rfl
theorem kT_25 : kT Tryz.prog 25 = 5 := by kernel_rfl
theorem elT_25 : elT Tryz.prog 25 = some (10, 200) := by kernel_rfl
theorem fldT_79_3 : fldT Tryz.prog 79 3 = some (3, 6, true) := by kernel_rfl
theorem szT_39 : szT Tryz.prog 39 = some 6 := by kernel_rfl
theorem aggB_39 : aggB Tryz.prog 39 = true := by kernel_rfl
theorem hb_40 : hasBody Tryz.prog 40 = true := by kernel_rfl
theorem fldT_79_4 : fldT Tryz.prog 79 4 = some (9, 1, false) := by kernel_rfl
theorem szT_58 : szT Tryz.prog 58 = some 1 := by kernel_rfl
theorem aggB_58 : aggB Tryz.prog 58 = false := by kernel_rfl
theorem fldT_28_6 : fldT Tryz.prog 28 6 = some (6, 1, false) := by kernel_rfl
theorem szT_26 : szT Tryz.prog 26 = some 1 := by kernel_rfl
theorem aggB_26 : aggB Tryz.prog 26 = false := by kernel_rfl
theorem kT_26 : kT Tryz.prog 26 = 5 := by kernel_rfl
theorem elT_26 : elT Tryz.prog 26 = some (23, 480) := by kernel_rfl
theorem szT_81 : szT Tryz.prog 81 = some 23 := by kernel_rfl
theorem aggB_81 : aggB Tryz.prog 81 = true := by kernel_rfl
theorem zeroT_81 : zeroT Tryz.prog 81 = some [.string ⟨#[]⟩, .slice none 0 0, .int .i64 0, .string ⟨#[]⟩, .string ⟨#[]⟩, .slice none 0 0, .slice none 0 0, .slice none 0 0, .slice none 0 0, .string ⟨#[]⟩, .string ⟨#[]⟩, .slice none 0 0, .slice none 0 0, .slice none 0 0, .slice none 0 0, .string ⟨#[]⟩, .string ⟨#[]⟩, .slice none 0 0, .slice none 0 0, .slice none 0 0, .slice none 0 0, .slice none 0 0, .slice none 0 0] := by kernel_rfl
theorem fldT_81_3 : fldT Tryz.prog 81 3 = some (3, 6, true) := by kernel_rfl
theorem fldT_81_4 : fldT Tryz.prog 81 4 = some (9, 6, true) := by kernel_rfl
theorem fldT_81_5 : fldT Tryz.prog 81 5 = some (15, 6, true) := by kernel_rfl
theorem fldT_81_6 : fldT Tryz.prog 81 6 = some (21, 1, false) := by kernel_rfl
theorem fldT_81_7 : fldT Tryz.prog 81 7 = some (22, 1, false) := by kernel_rfl
theorem elT_44 : elT Tryz.prog 44 = some (6, 72) := by kernel_rfl
theorem elZ_44 : elZ Tryz.prog 44 = some [.int .i64 0, .int .i64 0, .int .i64 0, .int .i64 0, .string ⟨#[]⟩, .slice none 0 0] := by kernel_rfl
theorem fldT_79_2 : fldT Tryz.prog 79 2 = some (2, 1, false) := by kernel_rfl
theorem szT_3 : szT Tryz.prog 3 = some 1 := by kernel_rfl
theorem aggB_3 : aggB Tryz.prog 3 = false := by kernel_rfl
theorem kT_58 : kT Tryz.prog 58 = 5 := by kernel_rfl
theorem elT_58 : elT Tryz.prog 58 = some (15, 288) := by kernel_rfl
theorem fldT_87_0 : fldT Tryz.prog 87 0 = some (0, 1, false) := by kernel_rfl
theorem elT_23 : elT Tryz.prog 23 = some (2, 40) := by kernel_rfl
theorem fldT_90_0 : fldT Tryz.prog 90 0 = some (0, 1, false) := by kernel_rfl
theorem fldT_90_1 : fldT Tryz.prog 90 1 = some (1, 1, false) := by kernel_rfl
theorem elT_24 : elT Tryz.prog 24 = some (4, 56) := by kernel_rfl
theorem szT_92 : szT Tryz.prog 92 = some 4 := by kernel_rfl
theorem aggB_92 : aggB Tryz.prog 92 = true := by kernel_rfl
theorem zeroT_92 : zeroT Tryz.prog 92 = some [.string ⟨#[]⟩, .slice none 0 0, .int .i64 0, .int .i64 0] := by kernel_rfl
theorem fldT_92_0 : fldT Tryz.prog 92 0 = some (0, 1, false) := by kernel_rfl
theorem fldT_92_2 : fldT Tryz.prog 92 2 = some (2, 1, false) := by kernel_rfl
theorem fldT_92_3 : fldT Tryz.prog 92 3 = some (3, 1, false) := by kernel_rfl
theorem fldT_92_1 : fldT Tryz.prog 92 1 = some (1, 1, false) := by kernel_rfl
theorem szT_79 : szT Tryz.prog 79 = some 10 := by kernel_rfl
theorem aggB_79 : aggB Tryz.prog 79 = true := by kernel_rfl
theorem zeroT_65 : zeroT Tryz.prog 65 = some [.nilFunc] := by kernel_rfl
theorem szT_65 : szT Tryz.prog 65 = some 1 := by kernel_rfl
theorem aggB_65 : aggB Tryz.prog 65 = false := by kernel_rfl
theorem hb_58 : hasBody Tryz.prog 58 = true := by kernel_rfl
theorem hb_60 : hasBody Tryz.prog 60 = true := by kernel_rfl
theorem hb_62 : hasBody Tryz.prog 62 = true := by kernel_rfl
theorem fldT_41_2 : fldT Tryz.prog 41 2 = some (2, 1, false) := by kernel_rfl
theorem fldT_41_3 : fldT Tryz.prog 41 3 = some (3, 1, false) := by kernel_rfl
theorem szT_33 : szT Tryz.prog 33 = some 1 := by kernel_rfl
theorem aggB_33 : aggB Tryz.prog 33 = false := by kernel_rfl
theorem kT_33 : kT Tryz.prog 33 = 5 := by kernel_rfl
theorem fldT_41_4 : fldT Tryz.prog 41 4 = some (4, 1, false) := by kernel_rfl
theorem szT_34 : szT Tryz.prog 34 = some 1 := by kernel_rfl
theorem aggB_34 : aggB Tryz.prog 34 = false := by kernel_rfl
theorem kT_34 : kT Tryz.prog 34 = 5 := by kernel_rfl
theorem elT_33 : elT Tryz.prog 33 = some (2, 40) := by kernel_rfl
theorem fldT_111_1 : fldT Tryz.prog 111 1 = some (1, 1, false) := by kernel_rfl
theorem szT_35 : szT Tryz.prog 35 = some 1 := by kernel_rfl
theorem aggB_35 : aggB Tryz.prog 35 = false := by kernel_rfl
theorem kT_35 : kT Tryz.prog 35 = 5 := by kernel_rfl
theorem elT_34 : elT Tryz.prog 34 = some (3, 48) := by kernel_rfl
theorem fldT_113_0 : fldT Tryz.prog 113 0 = some (0, 2, true) := by kernel_rfl
theorem fldT_41_1 : fldT Tryz.prog 41 1 = some (1, 1, false) := by kernel_rfl
theorem fldT_111_0 : fldT Tryz.prog 111 0 = some (0, 1, false) := by kernel_rfl
theorem kT_124 : kT Tryz.prog 124 = 8 := by kernel_rfl
theorem zeroT_124 : zeroT Tryz.prog 124 = some [.bool false] := by kernel_rfl
theorem fieldsT_124 : fieldsT Tryz.prog 124 = some [(0, 1)] := by kernel_rfl
theorem szT_90 : szT Tryz.prog 90 = some 2 := by kernel_rfl
theorem aggB_90 : aggB Tryz.prog 90 = true := by kernel_rfl
theorem zeroT_90 : zeroT Tryz.prog 90 = some [.string ⟨#[]⟩, .slice none 0 0] := by kernel_rfl
theorem kT_44 : kT Tryz.prog 44 = 5 := by kernel_rfl
theorem zeroT_79 : zeroT Tryz.prog 79 = some [.string ⟨#[]⟩, .slice none 0 0, .int .i64 0, .string ⟨#[]⟩, .string ⟨#[]⟩, .slice none 0 0, .slice none 0 0, .slice none 0 0, .slice none 0 0, .slice none 0 0] := by kernel_rfl
theorem fldT_46_5 : fldT Tryz.prog 46 5 = some (5, 1, false) := by kernel_rfl
theorem szT_44 : szT Tryz.prog 44 = some 1 := by kernel_rfl
theorem aggB_44 : aggB Tryz.prog 44 = false := by kernel_rfl
theorem fldT_124_0 : fldT Tryz.prog 124 0 = some (0, 1, false) := by kernel_rfl
theorem szT_4 : szT Tryz.prog 4 = some 1 := by kernel_rfl
theorem aggB_4 : aggB Tryz.prog 4 = false := by kernel_rfl
theorem kT_55 : kT Tryz.prog 55 = 2 := by kernel_rfl
theorem fldT_46_0 : fldT Tryz.prog 46 0 = some (0, 1, false) := by kernel_rfl
theorem fldT_46_1 : fldT Tryz.prog 46 1 = some (1, 1, false) := by kernel_rfl
theorem fldT_46_4 : fldT Tryz.prog 46 4 = some (4, 1, false) := by kernel_rfl
theorem fldT_46_2 : fldT Tryz.prog 46 2 = some (2, 1, false) := by kernel_rfl
theorem fldT_46_3 : fldT Tryz.prog 46 3 = some (3, 1, false) := by kernel_rfl
theorem szT_111 : szT Tryz.prog 111 = some 2 := by kernel_rfl
theorem aggB_111 : aggB Tryz.prog 111 = true := by kernel_rfl
theorem zeroT_111 : zeroT Tryz.prog 111 = some [.string ⟨#[]⟩, .slice none 0 0] := by kernel_rfl
theorem szT_113 : szT Tryz.prog 113 = some 3 := by kernel_rfl
theorem aggB_113 : aggB Tryz.prog 113 = true := by kernel_rfl
theorem zeroT_113 : zeroT Tryz.prog 113 = some [.string ⟨#[]⟩, .slice none 0 0, .int .i64 0] := by kernel_rfl
theorem fldT_113_1 : fldT Tryz.prog 113 1 = some (2, 1, false) := by kernel_rfl
theorem fldT_39_5 : fldT Tryz.prog 39 5 = some (5, 1, false) := by kernel_rfl
theorem szT_37 : szT Tryz.prog 37 = some 1 := by kernel_rfl
theorem aggB_37 : aggB Tryz.prog 37 = false := by kernel_rfl
theorem kT_37 : kT Tryz.prog 37 = 5 := by kernel_rfl
theorem fldT_87_1 : fldT Tryz.prog 87 1 = some (1, 1, false) := by kernel_rfl
theorem fldT_87_4 : fldT Tryz.prog 87 4 = some (9, 1, false) := by kernel_rfl
theorem fldT_87_2 : fldT Tryz.prog 87 2 = some (2, 6, true) := by kernel_rfl
theorem fldT_87_5 : fldT Tryz.prog 87 5 = some (10, 5, true) := by kernel_rfl
theorem szT_85 : szT Tryz.prog 85 = some 5 := by kernel_rfl
theorem aggB_85 : aggB Tryz.prog 85 = true := by kernel_rfl
theorem hb_97 : hasBody Tryz.prog 97 = true := by kernel_rfl
theorem kT_143 : kT Tryz.prog 143 = 8 := by kernel_rfl
theorem zeroT_143 : zeroT Tryz.prog 143 = some [.slice none 0 0, .slice none 0 0] := by kernel_rfl
theorem fieldsT_143 : fieldsT Tryz.prog 143 = some [(0, 1), (1, 1)] := by kernel_rfl
theorem szT_87 : szT Tryz.prog 87 = some 15 := by kernel_rfl
theorem aggB_87 : aggB Tryz.prog 87 = true := by kernel_rfl
theorem zeroT_87 : zeroT Tryz.prog 87 = some [.int .i64 0, .slice none 0 0, .string ⟨#[]⟩, .string ⟨#[]⟩, .slice none 0 0, .slice none 0 0, .slice none 0 0, .slice none 0 0, .string ⟨#[]⟩, .slice none 0 0, .string ⟨#[]⟩, .string ⟨#[]⟩, .int .i64 0, .slice none 0 0, .slice none 0 0] := by kernel_rfl
theorem fldT_87_3 : fldT Tryz.prog 87 3 = some (8, 1, false) := by kernel_rfl
theorem kT_28 : kT Tryz.prog 28 = 8 := by kernel_rfl
theorem fieldsT_28 : fieldsT Tryz.prog 28 = some [(0, 1), (1, 1), (2, 1), (3, 1), (4, 1), (5, 1), (6, 1)] := by kernel_rfl
theorem elT_35 : elT Tryz.prog 35 = some (1, 16) := by kernel_rfl
theorem elZ_35 : elZ Tryz.prog 35 = some [.string ⟨#[]⟩] := by kernel_rfl
theorem mapT_148 : mapT Tryz.prog 148 = some (3, (.bool false)) := by kernel_rfl
theorem kT_5 : kT Tryz.prog 5 = 2 := by kernel_rfl
theorem zvT_55 : zvT Tryz.prog 55 = some (.int .i64 0) := by kernel_rfl
theorem kT_41 : kT Tryz.prog 41 = 8 := by kernel_rfl
theorem fieldsT_41 : fieldsT Tryz.prog 41 = some [(0, 1), (1, 1), (2, 1), (3, 1), (4, 1), (5, 6)] := by kernel_rfl
theorem kT_39 : kT Tryz.prog 39 = 8 := by kernel_rfl
theorem zeroT_39 : zeroT Tryz.prog 39 = some [.string ⟨#[]⟩, .string ⟨#[]⟩, .slice none 0 0, .slice none 0 0, .slice none 0 0, .slice none 0 0] := by kernel_rfl
theorem fieldsT_39 : fieldsT Tryz.prog 39 = some [(0, 1), (1, 1), (2, 1), (3, 1), (4, 1), (5, 1)] := by kernel_rfl
theorem fldT_39_4 : fldT Tryz.prog 39 4 = some (4, 1, false) := by kernel_rfl
theorem szT_36 : szT Tryz.prog 36 = some 1 := by kernel_rfl
theorem aggB_36 : aggB Tryz.prog 36 = false := by kernel_rfl
theorem kT_36 : kT Tryz.prog 36 = 5 := by kernel_rfl
theorem elT_36 : elT Tryz.prog 36 = some (5, 88) := by kernel_rfl
theorem elT_37 : elT Tryz.prog 37 = some (6, 128) := by kernel_rfl
theorem elT_22 : elT Tryz.prog 22 = some (2, 32) := by kernel_rfl
theorem szT_96 : szT Tryz.prog 96 = some 2 := by kernel_rfl
theorem aggB_96 : aggB Tryz.prog 96 = true := by kernel_rfl
theorem kT_96 : kT Tryz.prog 96 = 8 := by kernel_rfl
theorem strsT_96 : strsT Tryz.prog 96 = some 2 := by kernel_rfl
theorem fldT_79_0 : fldT Tryz.prog 79 0 = some (0, 1, false) := by kernel_rfl
theorem fldT_79_1 : fldT Tryz.prog 79 1 = some (1, 1, false) := by kernel_rfl
theorem fldT_81_0 : fldT Tryz.prog 81 0 = some (0, 1, false) := by kernel_rfl
theorem fldT_81_2 : fldT Tryz.prog 81 2 = some (2, 1, false) := by kernel_rfl
theorem fldT_81_1 : fldT Tryz.prog 81 1 = some (1, 1, false) := by kernel_rfl
theorem hb_56 : hasBody Tryz.prog 56 = true := by kernel_rfl
theorem hb_117 : hasBody Tryz.prog 117 = true := by kernel_rfl
theorem hb_118 : hasBody Tryz.prog 118 = true := by kernel_rfl
theorem hb_119 : hasBody Tryz.prog 119 = true := by kernel_rfl
theorem kT_111 : kT Tryz.prog 111 = 8 := by kernel_rfl
theorem fieldsT_111 : fieldsT Tryz.prog 111 = some [(0, 1), (1, 1)] := by kernel_rfl
theorem elZ_33 : elZ Tryz.prog 33 = some [.string ⟨#[]⟩, .slice none 0 0] := by kernel_rfl
theorem fldT_39_1 : fldT Tryz.prog 39 1 = some (1, 1, false) := by kernel_rfl
theorem fldT_39_2 : fldT Tryz.prog 39 2 = some (2, 1, false) := by kernel_rfl
theorem fldT_39_3 : fldT Tryz.prog 39 3 = some (3, 1, false) := by kernel_rfl
theorem zeroT_96 : zeroT Tryz.prog 96 = some [.string ⟨#[]⟩, .string ⟨#[]⟩] := by kernel_rfl
theorem fldT_96_0 : fldT Tryz.prog 96 0 = some (0, 1, false) := by kernel_rfl
theorem fldT_96_1 : fldT Tryz.prog 96 1 = some (1, 1, false) := by kernel_rfl
theorem zeroT_3 : zeroT Tryz.prog 3 = some [.int .i64 0] := by kernel_rfl
theorem fldT_85_4 : fldT Tryz.prog 85 4 = some (4, 1, false) := by kernel_rfl
theorem kT_85 : kT Tryz.prog 85 = 8 := by kernel_rfl
theorem zeroT_85 : zeroT Tryz.prog 85 = some [.string ⟨#[]⟩, .string ⟨#[]⟩, .int .i64 0, .slice none 0 0, .slice none 0 0] := by kernel_rfl
theorem fieldsT_85 : fieldsT Tryz.prog 85 = some [(0, 1), (1, 1), (2, 1), (3, 1), (4, 1)] := by kernel_rfl
theorem szT_143 : szT Tryz.prog 143 = some 2 := by kernel_rfl
theorem aggB_143 : aggB Tryz.prog 143 = true := by kernel_rfl
theorem elZ_58 : elZ Tryz.prog 58 = some [.int .i64 0, .slice none 0 0, .string ⟨#[]⟩, .string ⟨#[]⟩, .slice none 0 0, .slice none 0 0, .slice none 0 0, .slice none 0 0, .string ⟨#[]⟩, .slice none 0 0, .string ⟨#[]⟩, .string ⟨#[]⟩, .int .i64 0, .slice none 0 0, .slice none 0 0] := by kernel_rfl
theorem fldT_85_0 : fldT Tryz.prog 85 0 = some (0, 1, false) := by kernel_rfl
theorem fldT_85_1 : fldT Tryz.prog 85 1 = some (1, 1, false) := by kernel_rfl
theorem fldT_85_2 : fldT Tryz.prog 85 2 = some (2, 1, false) := by kernel_rfl
theorem fldT_85_3 : fldT Tryz.prog 85 3 = some (3, 1, false) := by kernel_rfl
theorem elZ_23 : elZ Tryz.prog 23 = some [.string ⟨#[]⟩, .slice none 0 0] := by kernel_rfl
theorem elZ_24 : elZ Tryz.prog 24 = some [.string ⟨#[]⟩, .slice none 0 0, .int .i64 0, .int .i64 0] := by kernel_rfl
theorem elZ_25 : elZ Tryz.prog 25 = some [.string ⟨#[]⟩, .slice none 0 0, .int .i64 0, .string ⟨#[]⟩, .string ⟨#[]⟩, .slice none 0 0, .slice none 0 0, .slice none 0 0, .slice none 0 0, .slice none 0 0] := by kernel_rfl
theorem elZ_26 : elZ Tryz.prog 26 = some [.string ⟨#[]⟩, .slice none 0 0, .int .i64 0, .string ⟨#[]⟩, .string ⟨#[]⟩, .slice none 0 0, .slice none 0 0, .slice none 0 0, .slice none 0 0, .string ⟨#[]⟩, .string ⟨#[]⟩, .slice none 0 0, .slice none 0 0, .slice none 0 0, .slice none 0 0, .string ⟨#[]⟩, .string ⟨#[]⟩, .slice none 0 0, .slice none 0 0, .slice none 0 0, .slice none 0 0, .slice none 0 0, .slice none 0 0] := by kernel_rfl
theorem kT_90 : kT Tryz.prog 90 = 8 := by kernel_rfl
theorem fieldsT_90 : fieldsT Tryz.prog 90 = some [(0, 1), (1, 1)] := by kernel_rfl
theorem kT_92 : kT Tryz.prog 92 = 8 := by kernel_rfl
theorem fieldsT_92 : fieldsT Tryz.prog 92 = some [(0, 1), (1, 1), (2, 1), (3, 1)] := by kernel_rfl
theorem zeroT_207 : zeroT Tryz.prog 207 = some [.string ⟨#[]⟩, .slice none 0 0, .int .i64 0, .slice none 0 0, .slice none 0 0] := by kernel_rfl
theorem szT_207 : szT Tryz.prog 207 = some 5 := by kernel_rfl
theorem aggB_207 : aggB Tryz.prog 207 = true := by kernel_rfl
theorem fldT_207_0 : fldT Tryz.prog 207 0 = some (0, 1, false) := by kernel_rfl
theorem fldT_207_1 : fldT Tryz.prog 207 1 = some (1, 1, false) := by kernel_rfl
theorem fldT_207_2 : fldT Tryz.prog 207 2 = some (2, 1, false) := by kernel_rfl
theorem fldT_207_3 : fldT Tryz.prog 207 3 = some (3, 1, false) := by kernel_rfl
theorem fldT_207_4 : fldT Tryz.prog 207 4 = some (4, 1, false) := by kernel_rfl
theorem szT_205 : szT Tryz.prog 205 = some 1 := by kernel_rfl
theorem aggB_205 : aggB Tryz.prog 205 = false := by kernel_rfl
theorem kT_205 : kT Tryz.prog 205 = 5 := by kernel_rfl
theorem elT_205 : elT Tryz.prog 205 = some (1, 24) := by kernel_rfl
theorem kT_79 : kT Tryz.prog 79 = 8 := by kernel_rfl
theorem fieldsT_79 : fieldsT Tryz.prog 79 = some [(0, 1), (1, 1), (2, 1), (3, 6), (9, 1)] := by kernel_rfl
theorem kT_81 : kT Tryz.prog 81 = 8 := by kernel_rfl
theorem fieldsT_81 : fieldsT Tryz.prog 81 = some [(0, 1), (1, 1), (2, 1), (3, 6), (9, 6), (15, 6), (21, 1), (22, 1)] := by kernel_rfl
theorem intT_3 : intT Tryz.prog 3 = some .i64 := by kernel_rfl
theorem intT_219 : intT Tryz.prog 219 = some .u64 := by kernel_rfl
theorem kT_219 : kT Tryz.prog 219 = 2 := by kernel_rfl
theorem elT_262 : elT Tryz.prog 262 = some (1, 8) := by kernel_rfl
theorem elZ_262 : elZ Tryz.prog 262 = some [.int .i64 0] := by kernel_rfl
theorem kT_230 : kT Tryz.prog 230 = 8 := by kernel_rfl
theorem zeroT_230 : zeroT Tryz.prog 230 = some [.int .i64 0] := by kernel_rfl
theorem fieldsT_230 : fieldsT Tryz.prog 230 = some [(0, 1)] := by kernel_rfl
theorem fldT_143_1 : fldT Tryz.prog 143 1 = some (1, 1, false) := by kernel_rfl
theorem elZ_37 : elZ Tryz.prog 37 = some [.string ⟨#[]⟩, .string ⟨#[]⟩, .slice none 0 0, .slice none 0 0, .slice none 0 0, .slice none 0 0] := by kernel_rfl
theorem fldT_143_0 : fldT Tryz.prog 143 0 = some (0, 1, false) := by kernel_rfl
theorem kT_87 : kT Tryz.prog 87 = 8 := by kernel_rfl
theorem fieldsT_87 : fieldsT Tryz.prog 87 = some [(0, 1), (1, 1), (2, 6), (8, 1), (9, 1), (10, 5)] := by kernel_rfl
theorem fieldsT_96 : fieldsT Tryz.prog 96 = some [(0, 1), (1, 1)] := by kernel_rfl
theorem elZ_22 : elZ Tryz.prog 22 = some [.string ⟨#[]⟩, .string ⟨#[]⟩] := by kernel_rfl
theorem elZ_205 : elZ Tryz.prog 205 = some [.slice none 0 0] := by kernel_rfl
theorem kT_207 : kT Tryz.prog 207 = 8 := by kernel_rfl
theorem fieldsT_207 : fieldsT Tryz.prog 207 = some [(0, 1), (1, 1), (2, 1), (3, 1), (4, 1)] := by kernel_rfl
theorem kT_113 : kT Tryz.prog 113 = 8 := by kernel_rfl
theorem fieldsT_113 : fieldsT Tryz.prog 113 = some [(0, 2), (2, 1)] := by kernel_rfl
theorem elZ_34 : elZ Tryz.prog 34 = some [.string ⟨#[]⟩, .slice none 0 0, .int .i64 0] := by kernel_rfl
theorem elZ_36 : elZ Tryz.prog 36 = some [.string ⟨#[]⟩, .string ⟨#[]⟩, .int .i64 0, .slice none 0 0, .slice none 0 0] := by kernel_rfl
theorem kT_251 : kT Tryz.prog 251 = 2 := by kernel_rfl
theorem intT_259 : intT Tryz.prog 259 = some .u32 := by kernel_rfl
theorem kT_259 : kT Tryz.prog 259 = 2 := by kernel_rfl
theorem kT_262 : kT Tryz.prog 262 = 5 := by kernel_rfl
theorem intT_9 : intT Tryz.prog 9 = none := by kernel_rfl
theorem intT_263 : intT Tryz.prog 263 = none := by kernel_rfl
theorem kT_263 : kT Tryz.prog 263 = 5 := by kernel_rfl
theorem u8T_263 : u8T Tryz.prog 263 = true := by kernel_rfl
theorem elT_263 : elT Tryz.prog 263 = some (1, 1) := by kernel_rfl
theorem szT_5 : szT Tryz.prog 5 = some 1 := by kernel_rfl
theorem aggB_5 : aggB Tryz.prog 5 = false := by kernel_rfl
theorem intT_278 : intT Tryz.prog 278 = some .u64 := by kernel_rfl
theorem kT_278 : kT Tryz.prog 278 = 2 := by kernel_rfl
theorem zeroT_278 : zeroT Tryz.prog 278 = some [.int .u64 0] := by kernel_rfl
theorem szT_278 : szT Tryz.prog 278 = some 1 := by kernel_rfl
theorem aggB_278 : aggB Tryz.prog 278 = false := by kernel_rfl
theorem intT_5 : intT Tryz.prog 5 = some .u8 := by kernel_rfl
theorem kT_261 : kT Tryz.prog 261 = 2 := by kernel_rfl
theorem intT_261 : intT Tryz.prog 261 = some .u64 := by kernel_rfl
theorem fldT_230_0 : fldT Tryz.prog 230 0 = some (0, 1, false) := by kernel_rfl
theorem kT_290 : kT Tryz.prog 290 = 8 := by kernel_rfl
theorem zeroT_290 : zeroT Tryz.prog 290 = some [.slice none 0 0, .slice none 0 0] := by kernel_rfl
theorem fieldsT_290 : fieldsT Tryz.prog 290 = some [(0, 1), (1, 1)] := by kernel_rfl
theorem szT_290 : szT Tryz.prog 290 = some 2 := by kernel_rfl
theorem aggB_290 : aggB Tryz.prog 290 = true := by kernel_rfl
theorem fldT_290_1 : fldT Tryz.prog 290 1 = some (1, 1, false) := by kernel_rfl
theorem fldT_290_0 : fldT Tryz.prog 290 0 = some (0, 1, false) := by kernel_rfl
theorem hb_4 : hasBody Tryz.prog 4 = true := by kernel_rfl
theorem hb_55 : hasBody Tryz.prog 55 = true := by kernel_rfl
theorem hb_57 : hasBody Tryz.prog 57 = true := by kernel_rfl
theorem hb_59 : hasBody Tryz.prog 59 = true := by kernel_rfl
theorem hb_61 : hasBody Tryz.prog 61 = true := by kernel_rfl
set_option maxRecDepth 20000
theorem all : type_of% (And.intro szT_28 (And.intro aggB_28 (And.intro kT_4 (And.intro szT_41 (And.intro aggB_41 (And.intro zeroT_46 (And.intro szT_46 (And.intro aggB_46 (And.intro kT_46 (And.intro fieldsT_46 (And.intro kT_48 (And.intro kT_3 (And.intro zeroT_28 (And.intro zeroT_41 (And.intro fldT_28_0 (And.intro szT_9 (And.intro aggB_9 (And.intro kT_9 (And.intro fldT_41_0 (And.intro fldT_41_5 (And.intro fldT_39_0 (And.intro fldT_28_1 (And.intro szT_22 (And.intro aggB_22 (And.intro kT_22 (And.intro fldT_28_2 (And.intro fldT_28_3 (And.intro szT_23 (And.intro aggB_23 (And.intro kT_23 (And.intro fldT_28_4 (And.intro szT_24 (And.intro aggB_24 (And.intro kT_24 (And.intro fldT_28_5 (And.intro szT_25 (And.intro aggB_25 (And.intro kT_25 (And.intro elT_25 (And.intro fldT_79_3 (And.intro szT_39 (And.intro aggB_39 (And.intro fldT_79_4 (And.intro szT_58 (And.intro aggB_58 (And.intro fldT_28_6 (And.intro szT_26 (And.intro aggB_26 (And.intro kT_26 (And.intro elT_26 (And.intro szT_81 (And.intro aggB_81 (And.intro zeroT_81 (And.intro fldT_81_3 (And.intro fldT_81_4 (And.intro fldT_81_5 (And.intro fldT_81_6 (And.intro fldT_81_7 (And.intro elT_44 (And.intro elZ_44 (And.intro fldT_79_2 (And.intro szT_3 (And.intro aggB_3 (And.intro kT_58 (And.intro elT_58 (And.intro fldT_87_0 (And.intro elT_23 (And.intro fldT_90_0 (And.intro fldT_90_1 (And.intro elT_24 (And.intro szT_92 (And.intro aggB_92 (And.intro zeroT_92 (And.intro fldT_92_0 (And.intro fldT_92_2 (And.intro fldT_92_3 (And.intro fldT_92_1 (And.intro szT_79 (And.intro aggB_79 (And.intro zeroT_65 (And.intro szT_65 (And.intro aggB_65 (And.intro fldT_41_2 (And.intro fldT_41_3 (And.intro szT_33 (And.intro aggB_33 (And.intro kT_33 (And.intro fldT_41_4 (And.intro szT_34 (And.intro aggB_34 (And.intro kT_34 (And.intro elT_33 (And.intro fldT_111_1 (And.intro szT_35 (And.intro aggB_35 (And.intro kT_35 (And.intro elT_34 (And.intro fldT_113_0 (And.intro fldT_41_1 (And.intro fldT_111_0 (And.intro kT_124 (And.intro zeroT_124 (And.intro fieldsT_124 (And.intro szT_90 (And.intro aggB_90 (And.intro zeroT_90 (And.intro kT_44 (And.intro zeroT_79 (And.intro fldT_46_5 (And.intro szT_44 (And.intro aggB_44 (And.intro fldT_124_0 (And.intro szT_4 (And.intro aggB_4 (And.intro kT_55 (And.intro fldT_46_0 (And.intro fldT_46_1 (And.intro fldT_46_4 (And.intro fldT_46_2 (And.intro fldT_46_3 (And.intro szT_111 (And.intro aggB_111 (And.intro zeroT_111 (And.intro szT_113 (And.intro aggB_113 (And.intro zeroT_113 (And.intro fldT_113_1 (And.intro fldT_39_5 (And.intro szT_37 (And.intro aggB_37 (And.intro kT_37 (And.intro fldT_87_1 (And.intro fldT_87_4 (And.intro fldT_87_2 (And.intro fldT_87_5 (And.intro szT_85 (And.intro aggB_85 (And.intro kT_143 (And.intro zeroT_143 (And.intro fieldsT_143 (And.intro szT_87 (And.intro aggB_87 (And.intro zeroT_87 (And.intro fldT_87_3 (And.intro kT_28 (And.intro fieldsT_28 (And.intro elT_35 (And.intro elZ_35 (And.intro mapT_148 (And.intro kT_5 (And.intro zvT_55 (And.intro kT_41 (And.intro fieldsT_41 (And.intro kT_39 (And.intro zeroT_39 (And.intro fieldsT_39 (And.intro fldT_39_4 (And.intro szT_36 (And.intro aggB_36 (And.intro kT_36 (And.intro elT_36 (And.intro elT_37 (And.intro elT_22 (And.intro szT_96 (And.intro aggB_96 (And.intro kT_96 (And.intro strsT_96 (And.intro fldT_79_0 (And.intro fldT_79_1 (And.intro fldT_81_0 (And.intro fldT_81_2 (And.intro fldT_81_1 (And.intro kT_111 (And.intro fieldsT_111 (And.intro elZ_33 (And.intro fldT_39_1 (And.intro fldT_39_2 (And.intro fldT_39_3 (And.intro zeroT_96 (And.intro fldT_96_0 (And.intro fldT_96_1 (And.intro zeroT_3 (And.intro fldT_85_4 (And.intro kT_85 (And.intro zeroT_85 (And.intro fieldsT_85 (And.intro szT_143 (And.intro aggB_143 (And.intro elZ_58 (And.intro fldT_85_0 (And.intro fldT_85_1 (And.intro fldT_85_2 (And.intro fldT_85_3 (And.intro elZ_23 (And.intro elZ_24 (And.intro elZ_25 (And.intro elZ_26 (And.intro kT_90 (And.intro fieldsT_90 (And.intro kT_92 (And.intro fieldsT_92 (And.intro zeroT_207 (And.intro szT_207 (And.intro aggB_207 (And.intro fldT_207_0 (And.intro fldT_207_1 (And.intro fldT_207_2 (And.intro fldT_207_3 (And.intro fldT_207_4 (And.intro szT_205 (And.intro aggB_205 (And.intro kT_205 (And.intro elT_205 (And.intro kT_79 (And.intro fieldsT_79 (And.intro kT_81 (And.intro fieldsT_81 (And.intro intT_3 (And.intro intT_219 (And.intro kT_219 (And.intro elT_262 (And.intro elZ_262 (And.intro kT_230 (And.intro zeroT_230 (And.intro fieldsT_230 (And.intro fldT_143_1 (And.intro elZ_37 (And.intro fldT_143_0 (And.intro kT_87 (And.intro fieldsT_87 (And.intro fieldsT_96 (And.intro elZ_22 (And.intro elZ_205 (And.intro kT_207 (And.intro fieldsT_207 (And.intro kT_113 (And.intro fieldsT_113 (And.intro elZ_34 (And.intro elZ_36 (And.intro kT_251 (And.intro intT_259 (And.intro kT_259 (And.intro kT_262 (And.intro intT_9 (And.intro intT_263 (And.intro kT_263 (And.intro u8T_263 (And.intro elT_263 (And.intro szT_5 (And.intro aggB_5 (And.intro intT_278 (And.intro kT_278 (And.intro zeroT_278 (And.intro szT_278 (And.intro aggB_278 (And.intro intT_5 (And.intro kT_261 (And.intro intT_261 (And.intro fldT_230_0 (And.intro kT_290 (And.intro zeroT_290 (And.intro fieldsT_290 (And.intro szT_290 (And.intro aggB_290 (And.intro fldT_290_1 (fldT_290_0)))))))))))))))))))))))))))))))))))))))))))))))))))))))))))))))))))))))))))))))))))))))))))))))))))))))))))))))))))))))))))))))))))))))))))))))))))))))))))))))))))))))))))))))))))))))))))))))))))))))))))))))))))))))))))))))))))))))))))))))))))))))))))))))))))))))))) := And.intro szT_28 (And.intro aggB_28 (And.intro kT_4 (And.intro szT_41 (And.intro aggB_41 (And.intro zeroT_46 (And.intro szT_46 (And.intro aggB_46 (And.intro kT_46 (And.intro fieldsT_46 (And.intro kT_48 (And.intro kT_3 (And.intro zeroT_28 (And.intro zeroT_41 (And.intro fldT_28_0 (And.intro szT_9 (And.intro aggB_9 (And.intro kT_9 (And.intro fldT_41_0 (And.intro fldT_41_5 (And.intro fldT_39_0 (And.intro fldT_28_1 (And.intro szT_22 (And.intro aggB_22 (And.intro kT_22 (And.intro fldT_28_2 (And.intro fldT_28_3 (And.intro szT_23 (And.intro aggB_23 (And.intro kT_23 (And.intro fldT_28_4 (And.intro szT_24 (And.intro aggB_24 (And.intro kT_24 (And.intro fldT_28_5 (And.intro szT_25 (And.intro aggB_25 (And.intro kT_25 (And.intro elT_25 (And.intro fldT_79_3 (And.intro szT_39 (And.intro aggB_39 (And.intro fldT_79_4 (And.intro szT_58 (And.intro aggB_58 (And.intro fldT_28_6 (And.intro szT_26 (And.intro aggB_26 (And.intro kT_26 (And.intro elT_26 (And.intro szT_81 (And.intro aggB_81 (And.intro zeroT_81 (And.intro fldT_81_3 (And.intro fldT_81_4 (And.intro fldT_81_5 (And.intro fldT_81_6 (And.intro fldT_81_7 (And.intro elT_44 (And.intro elZ_44 (And.intro fldT_79_2 (And.intro szT_3 (And.intro aggB_3 (And.intro kT_58 (And.intro elT_58 (And.intro fldT_87_0 (And.intro elT_23 (And.intro fldT_90_0 (And.intro fldT_90_1 (And.intro elT_24 (And.intro szT_92 (And.intro aggB_92 (And.intro zeroT_92 (And.intro fldT_92_0 (And.intro fldT_92_2 (And.intro fldT_92_3 (And.intro fldT_92_1 (And.intro szT_79 (And.intro aggB_79 (And.intro zeroT_65 (And.intro szT_65 (And.intro aggB_65 (And.intro fldT_41_2 (And.intro fldT_41_3 (And.intro szT_33 (And.intro aggB_33 (And.intro kT_33 (And.intro fldT_41_4 (And.intro szT_34 (And.intro aggB_34 (And.intro kT_34 (And.intro elT_33 (And.intro fldT_111_1 (And.intro szT_35 (And.intro aggB_35 (And.intro kT_35 (And.intro elT_34 (And.intro fldT_113_0 (And.intro fldT_41_1 (And.intro fldT_111_0 (And.intro kT_124 (And.intro zeroT_124 (And.intro fieldsT_124 (And.intro szT_90 (And.intro aggB_90 (And.intro zeroT_90 (And.intro kT_44 (And.intro zeroT_79 (And.intro fldT_46_5 (And.intro szT_44 (And.intro aggB_44 (And.intro fldT_124_0 (And.intro szT_4 (And.intro aggB_4 (And.intro kT_55 (And.intro fldT_46_0 (And.intro fldT_46_1 (And.intro fldT_46_4 (And.intro fldT_46_2 (And.intro fldT_46_3 (And.intro szT_111 (And.intro aggB_111 (And.intro zeroT_111 (And.intro szT_113 (And.intro aggB_113 (And.intro zeroT_113 (And.intro fldT_113_1 (And.intro fldT_39_5 (And.intro szT_37 (And.intro aggB_37 (And.intro kT_37 (And.intro fldT_87_1 (And.intro fldT_87_4 (And.intro fldT_87_2 (And.intro fldT_87_5 (And.intro szT_85 (And.intro aggB_85 (And.intro kT_143 (And.intro zeroT_143 (And.intro fieldsT_143 (And.intro szT_87 (And.intro aggB_87 (And.intro zeroT_87 (And.intro fldT_87_3 (And.intro kT_28 (And.intro fieldsT_28 (And.intro elT_35 (And.intro elZ_35 (And.intro mapT_148 (And.intro kT_5 (And.intro zvT_55 (And.intro kT_41 (And.intro fieldsT_41 (And.intro kT_39 (And.intro zeroT_39 (And.intro fieldsT_39 (And.intro fldT_39_4 (And.intro szT_36 (And.intro aggB_36 (And.intro kT_36 (And.intro elT_36 (And.intro elT_37 (And.intro elT_22 (And.intro szT_96 (And.intro aggB_96 (And.intro kT_96 (And.intro strsT_96 (And.intro fldT_79_0 (And.intro fldT_79_1 (And.intro fldT_81_0 (And.intro fldT_81_2 (And.intro fldT_81_1 (And.intro kT_111 (And.intro fieldsT_111 (And.intro elZ_33 (And.intro fldT_39_1 (And.intro fldT_39_2 (And.intro fldT_39_3 (And.intro zeroT_96 (And.intro fldT_96_0 (And.intro fldT_96_1 (And.intro zeroT_3 (And.intro fldT_85_4 (And.intro kT_85 (And.intro zeroT_85 (And.intro fieldsT_85 (And.intro szT_143 (And.intro aggB_143 (And.intro elZ_58 (And.intro fldT_85_0 (And.intro fldT_85_1 (And.intro fldT_85_2 (And.intro fldT_85_3 (And.intro elZ_23 (And.intro elZ_24 (And.intro elZ_25 (And.intro elZ_26 (And.intro kT_90 (And.intro fieldsT_90 (And.intro kT_92 (And.intro fieldsT_92 (And.intro zeroT_207 (And.intro szT_207 (And.intro aggB_207 (And.intro fldT_207_0 (And.intro fldT_207_1 (And.intro fldT_207_2 (And.intro fldT_207_3 (And.intro fldT_207_4 (And.intro szT_205 (And.intro aggB_205 (And.intro kT_205 (And.intro elT_205 (And.intro kT_79 (And.intro fieldsT_79 (And.intro kT_81 (And.intro fieldsT_81 (And.intro intT_3 (And.intro intT_219 (And.intro kT_219 (And.intro elT_262 (And.intro elZ_262 (And.intro kT_230 (And.intro zeroT_230 (And.intro fieldsT_230 (And.intro fldT_143_1 (And.intro elZ_37 (And.intro fldT_143_0 (And.intro kT_87 (And.intro fieldsT_87 (And.intro fieldsT_96 (And.intro elZ_22 (And.intro elZ_205 (And.intro kT_207 (And.intro fieldsT_207 (And.intro kT_113 (And.intro fieldsT_113 (And.intro elZ_34 (And.intro elZ_36 (And.intro kT_251 (And.intro intT_259 (And.intro kT_259 (And.intro kT_262 (And.intro intT_9 (And.intro intT_263 (And.intro kT_263 (And.intro u8T_263 (And.intro elT_263 (And.intro szT_5 (And.intro aggB_5 (And.intro intT_278 (And.intro kT_278 (And.intro zeroT_278 (And.intro szT_278 (And.intro aggB_278 (And.intro intT_5 (And.intro kT_261 (And.intro intT_261 (And.intro fldT_230_0 (And.intro kT_290 (And.intro zeroT_290 (And.intro fieldsT_290 (And.intro szT_290 (And.intro aggB_290 (And.intro fldT_290_1 (fldT_290_0)))))))))))))))))))))))))))))))))))))))))))))))))))))))))))))))))))))))))))))))))))))))))))))))))))))))))))))))))))))))))))))))))))))))))))))))))))))))))))))))))))))))))))))))))))))))))))))))))))))))))))))))))))))))))))))))))))))))))))))))))))))))))))))))))))))))))
end Ty
end Go.Proofs.YtikhonogkpboaaaGreat
namespace Go.Proofs.YtikhonogkpboaaaGreat
open Go.AM
set_option maxHeartbeats 2000000
set_option maxRecDepth 20000
theorem rsizeE_c : ∀ (e : Ex), e.ok → ∀ h : Heap, PCall Tryz.prog 97 [.agg e.cells] h fun r h' => r = .sc (.int .i64 e.size) ∧ h' = h := by
  refine Ex.ind ?_
  intro op name n args kids ih hok h
  simp only [Ex.ok] at hok
  obtain ⟨_, _, _, _, hk, hks⟩ := hok
  rw [Ex.oks_iff] at hks
  have hlen := Ex.rows_len kids
  simp only [Ex.cells, Ex.size]
  refine pcall_body (ow := fun _ => false) (wf := fun _ => false) Ty.mixed Tryz.func97 rfl Ty.hb_97 (by rw [Tryz.ntmps97]; simp) ?_
  rw [Tryz.ntmps97, Tryz.results97]
  repeat' (first
    | (refine a_seq (fun K hK => ?_))
    | (refine a_block ?_)
    | ((first | refine a_regionS ?_ | refine a_region (fun K hK => ?_) | refine a_ret ?_); simp (maxSteps := 2000000) only [undef, am0, am1, am2, am3, amb0, amb1, amb2, amb3, amb4, lwn, drn, callee, wantedB, isW, eff, pev, pst0, retPost, resAll, resP, resV, intP, mkV, putC, pbin, sbin, strsEq, peq, pint, pshift, pstr, pun, pconv, isShift, isConstB, app, subS, lay, rowsOf, lkV, keyKind, keyEq, mfind, mput, oInt, isZeroInt, forall_const, exists_eq_left', implies_true, IntKind.bits, ↓reduceIte, Nat.reduceEqDiff, Nat.reduceAdd, Nat.reduceSub, Nat.reduceMul, Nat.reduceLT, Nat.reduceLeDiff, Nat.reduceBEq, Int.reduceLE, Int.reduceLT, Int.reduceToNat, reduceCtorEq, Ty.all, hlen])
    | (refine a_skip ?_; try simp only [pst0, ↓reduceIte, Nat.reduceEqDiff])
    | (refine a_exit ?_; try simp only [pst0, ↓reduceIte, Nat.reduceEqDiff])
    | (refine a_cond _ (by (try simp (maxSteps := 2000000) only [undef, am0, am1, am2, am3, amb0, amb1, amb2, amb3, amb4, lwn, drn, callee, wantedB, isW, eff, pev, pst0, retPost, resAll, resP, resV, intP, mkV, putC, pbin, sbin, strsEq, peq, pint, pshift, pstr, pun, pconv, isShift, isConstB, app, subS, lay, rowsOf, lkV, keyKind, keyEq, mfind, mput, oInt, isZeroInt, forall_const, exists_eq_left', implies_true, IntKind.bits, ↓reduceIte, Nat.reduceEqDiff, Nat.reduceAdd, Nat.reduceSub, Nat.reduceMul, Nat.reduceLT, Nat.reduceLeDiff, Nat.reduceBEq, Int.reduceLE, Int.reduceLT, Int.reduceToNat, reduceCtorEq, Ty.all, hlen]); rfl) (fun hb => ?_) (fun hb => ?_) <;> (try simp only [hb0, decide_eq_true_eq, decide_eq_false_iff_not, reduceCtorEq] at hb) <;> (try (exfalso; omega)))
    | (with_reducible refine ite_in (fun hb => ?_) (fun hb => ?_) <;> (try simp only [Decidable.not_not] at hb) <;> (try simp only [hb, if_true, if_false, not_false_eq_true, not_true_eq_false, ↓reduceIte]) <;> (try simp only [hb0, decide_eq_true_eq, decide_eq_false_iff_not, reduceCtorEq] at hb) <;> (try (exfalso; omega)))
    | (refine hK _ _ ?_; clear hK; try simp only [pst0, ↓reduceIte, Nat.reduceEqDiff])
    | (clear hK; refine hK _ _ ?_; clear hK; try simp only [pst0, ↓reduceIte, Nat.reduceEqDiff])
    | (clear hK; clear hK; refine hK _ _ ?_; clear hK; try simp only [pst0, ↓reduceIte, Nat.reduceEqDiff])
    | (clear hK; clear hK; clear hK; refine hK _ _ ?_; clear hK; try simp only [pst0, ↓reduceIte, Nat.reduceEqDiff])
    | (rw [if_pos]; rotate_left 1; omega; simp (maxSteps := 2000000) only [undef, am0, am1, am2, am3, amb0, amb1, amb2, amb3, amb4, lwn, drn, callee, wantedB, isW, eff, pev, pst0, retPost, resAll, resP, resV, intP, mkV, putC, pbin, sbin, strsEq, peq, pint, pshift, pstr, pun, pconv, isShift, isConstB, app, subS, lay, rowsOf, lkV, keyKind, keyEq, mfind, mput, oInt, isZeroInt, forall_const, exists_eq_left', implies_true, IntKind.bits, ↓reduceIte, Nat.reduceEqDiff, Nat.reduceAdd, Nat.reduceSub, Nat.reduceMul, Nat.reduceLT, Nat.reduceLeDiff, Nat.reduceBEq, Int.reduceLE, Int.reduceLT, Int.reduceToNat, reduceCtorEq, Ty.all, hlen]))
  refine a_loop (fun m S h' => h' = h ∧ S 1 = .cptr (Ex.mk op name n args kids).cells ∧ ∃ k : Nat, S 4 = .sc (.int .i64 k) ∧ k ≤ kids.length ∧ m = kids.length - k ∧ S 3 = .sc (.int .i64 (Ex.sizes 1 (kids.take k)))) kids.length ?_ ?_
  · simp only [undef, am0, am1, am2, am3, amb0, amb1, amb2, amb3, amb4, lwn, drn, callee, wantedB, isW, eff, pev, pst0, retPost, resAll, resP, resV, intP, mkV, putC, pbin, sbin, strsEq, peq, pint, pshift, pstr, pun, pconv, isShift, isConstB, app, subS, lay, rowsOf, lkV, keyKind, keyEq, mfind, mput, oInt, isZeroInt, forall_const, exists_eq_left', implies_true, IntKind.bits, ↓reduceIte, Nat.reduceEqDiff, Nat.reduceAdd, Nat.reduceSub, Nat.reduceMul, Nat.reduceLT, Nat.reduceLeDiff, Nat.reduceBEq, Int.reduceLE, Int.reduceLT, Int.reduceToNat, reduceCtorEq]
    exact ⟨rfl, 0, rfl, by omega, rfl, by simp [Ex.sizes]⟩
  · rintro m S h' ⟨rfl, g1, k, g4, hkl, rfl, g3⟩
    simp only [Ex.cells] at g1
    by_cases hlt : k < kids.length
    · have hd : decide ((k : Int) < (kids.length : Int)) = true := by simp; omega
      have w7 : IntKind.i64.wrap ((k : Int) + 1) = k + 1 := by unfold bigN at hk; rw [wrap64 (by omega) (by omega)]
      obtain ⟨e, hx⟩ : ∃ e, kids[k]? = some e := ⟨_, List.getElem?_eq_getElem hlt⟩
      have hmem := List.mem_of_getElem? hx
      have hc := ih e hmem (hks e hmem)
      have hsz := Ex.sizes_take 1 hx
      have hr := Ex.rows_get hx
      obtain ⟨op2, name2, n2, args2, kids2⟩ := e
      simp only [Ex.cells] at hr hc
      repeat' (first
        | (refine a_seq (fun K hK => ?_))
        | (refine a_block ?_)
        | ((first | refine a_regionS ?_ | refine a_region (fun K hK => ?_) | refine a_ret ?_); simp (maxSteps := 2000000) only [undef, am0, am1, am2, am3, amb0, amb1, amb2, amb3, amb4, lwn, drn, callee, wantedB, isW, eff, pev, pst0, retPost, resAll, resP, resV, intP, mkV, putC, pbin, sbin, strsEq, peq, pint, pshift, pstr, pun, pconv, isShift, isConstB, app, subS, lay, rowsOf, lkV, keyKind, keyEq, mfind, mput, oInt, isZeroInt, forall_const, exists_eq_left', implies_true, IntKind.bits, ↓reduceIte, Nat.reduceEqDiff, Nat.reduceAdd, Nat.reduceSub, Nat.reduceMul, Nat.reduceLT, Nat.reduceLeDiff, Nat.reduceBEq, Int.reduceLE, Int.reduceLT, Int.reduceToNat, reduceCtorEq, Ty.all, g1, g3, g4, hlen, hd, hr, w7])
        | (refine a_skip ?_; try simp only [pst0, ↓reduceIte, Nat.reduceEqDiff])
        | (refine a_exit ?_; try simp only [pst0, ↓reduceIte, Nat.reduceEqDiff])
        | (refine a_cond _ (by (try simp (maxSteps := 2000000) only [undef, am0, am1, am2, am3, amb0, amb1, amb2, amb3, amb4, lwn, drn, callee, wantedB, isW, eff, pev, pst0, retPost, resAll, resP, resV, intP, mkV, putC, pbin, sbin, strsEq, peq, pint, pshift, pstr, pun, pconv, isShift, isConstB, app, subS, lay, rowsOf, lkV, keyKind, keyEq, mfind, mput, oInt, isZeroInt, forall_const, exists_eq_left', implies_true, IntKind.bits, ↓reduceIte, Nat.reduceEqDiff, Nat.reduceAdd, Nat.reduceSub, Nat.reduceMul, Nat.reduceLT, Nat.reduceLeDiff, Nat.reduceBEq, Int.reduceLE, Int.reduceLT, Int.reduceToNat, reduceCtorEq, Ty.all, g1, g3, g4, hlen, hd, hr, w7]); rfl) (fun hb => ?_) (fun hb => ?_) <;> (try simp only [hb0, decide_eq_true_eq, decide_eq_false_iff_not, reduceCtorEq] at hb) <;> (try (exfalso; omega)))
        | (with_reducible refine ite_in (fun hb => ?_) (fun hb => ?_) <;> (try simp only [Decidable.not_not] at hb) <;> (try simp only [hb, if_true, if_false, not_false_eq_true, not_true_eq_false, ↓reduceIte]) <;> (try simp only [hb0, decide_eq_true_eq, decide_eq_false_iff_not, reduceCtorEq] at hb) <;> (try (exfalso; omega)))
        | (refine hK _ _ ?_; clear hK; try simp only [pst0, ↓reduceIte, Nat.reduceEqDiff])
        | (clear hK; refine hK _ _ ?_; clear hK; try simp only [pst0, ↓reduceIte, Nat.reduceEqDiff])
        | (clear hK; clear hK; refine hK _ _ ?_; clear hK; try simp only [pst0, ↓reduceIte, Nat.reduceEqDiff])
        | (clear hK; clear hK; clear hK; refine hK _ _ ?_; clear hK; try simp only [pst0, ↓reduceIte, Nat.reduceEqDiff])
        | (rw [if_pos]; rotate_left 1; omega; simp (maxSteps := 2000000) only [undef, am0, am1, am2, am3, amb0, amb1, amb2, amb3, amb4, lwn, drn, callee, wantedB, isW, eff, pev, pst0, retPost, resAll, resP, resV, intP, mkV, putC, pbin, sbin, strsEq, peq, pint, pshift, pstr, pun, pconv, isShift, isConstB, app, subS, lay, rowsOf, lkV, keyKind, keyEq, mfind, mput, oInt, isZeroInt, forall_const, exists_eq_left', implies_true, IntKind.bits, ↓reduceIte, Nat.reduceEqDiff, Nat.reduceAdd, Nat.reduceSub, Nat.reduceMul, Nat.reduceLT, Nat.reduceLeDiff, Nat.reduceBEq, Int.reduceLE, Int.reduceLT, Int.reduceToNat, reduceCtorEq, Ty.all, g1, g3, g4, hlen, hd, hr, w7]))
      refine owp_useQ (hc _) (by (try simp only [undef, am0, am1, am2, am3, amb0, amb1, amb2, amb3, amb4, lwn, drn, callee, wantedB, isW, eff, pev, pst0, retPost, resAll, resP, resV, intP, mkV, putC, pbin, sbin, strsEq, peq, pint, pshift, pstr, pun, pconv, isShift, isConstB, app, subS, lay, rowsOf, lkV, keyKind, keyEq, mfind, mput, oInt, isZeroInt, forall_const, exists_eq_left', implies_true, IntKind.bits, ↓reduceIte, Nat.reduceEqDiff, Nat.reduceAdd, Nat.reduceSub, Nat.reduceMul, Nat.reduceLT, Nat.reduceLeDiff, Nat.reduceBEq, Int.reduceLE, Int.reduceLT, Int.reduceToNat, reduceCtorEq, g1, g3, g4, hlen, hd, hr]); try rfl) ?_
      simp (maxSteps := 2000000) only [undef, am0, am1, am2, am3, amb0, amb1, amb2, amb3, amb4, lwn, drn, callee, wantedB, isW, eff, pev, pst0, retPost, resAll, resP, resV, intP, mkV, putC, pbin, sbin, strsEq, peq, pint, pshift, pstr, pun, pconv, isShift, isConstB, app, subS, lay, rowsOf, lkV, keyKind, keyEq, mfind, mput, oInt, isZeroInt, forall_const, exists_eq_left', implies_true, IntKind.bits, ↓reduceIte, Nat.reduceEqDiff, Nat.reduceAdd, Nat.reduceSub, Nat.reduceMul, Nat.reduceLT, Nat.reduceLeDiff, Nat.reduceBEq, Int.reduceLE, Int.reduceLT, Int.reduceToNat, reduceCtorEq, Ty.all, g1, g3, g4, hlen, hd, hr]
      repeat' (first
        | (refine a_seq (fun K hK => ?_))
        | (refine a_block ?_)
        | ((first | refine a_regionS ?_ | refine a_region (fun K hK => ?_) | refine a_ret ?_); simp (maxSteps := 2000000) only [undef, am0, am1, am2, am3, amb0, amb1, amb2, amb3, amb4, lwn, drn, callee, wantedB, isW, eff, pev, pst0, retPost, resAll, resP, resV, intP, mkV, putC, pbin, sbin, strsEq, peq, pint, pshift, pstr, pun, pconv, isShift, isConstB, app, subS, lay, rowsOf, lkV, keyKind, keyEq, mfind, mput, oInt, isZeroInt, forall_const, exists_eq_left', implies_true, IntKind.bits, ↓reduceIte, Nat.reduceEqDiff, Nat.reduceAdd, Nat.reduceSub, Nat.reduceMul, Nat.reduceLT, Nat.reduceLeDiff, Nat.reduceBEq, Int.reduceLE, Int.reduceLT, Int.reduceToNat, reduceCtorEq, Ty.all, g1, g3, g4, w7])
        | (refine a_skip ?_; try simp only [pst0, ↓reduceIte, Nat.reduceEqDiff])
        | (refine a_exit ?_; try simp only [pst0, ↓reduceIte, Nat.reduceEqDiff])
        | (refine a_cond _ (by (try simp (maxSteps := 2000000) only [undef, am0, am1, am2, am3, amb0, amb1, amb2, amb3, amb4, lwn, drn, callee, wantedB, isW, eff, pev, pst0, retPost, resAll, resP, resV, intP, mkV, putC, pbin, sbin, strsEq, peq, pint, pshift, pstr, pun, pconv, isShift, isConstB, app, subS, lay, rowsOf, lkV, keyKind, keyEq, mfind, mput, oInt, isZeroInt, forall_const, exists_eq_left', implies_true, IntKind.bits, ↓reduceIte, Nat.reduceEqDiff, Nat.reduceAdd, Nat.reduceSub, Nat.reduceMul, Nat.reduceLT, Nat.reduceLeDiff, Nat.reduceBEq, Int.reduceLE, Int.reduceLT, Int.reduceToNat, reduceCtorEq, Ty.all, g1, g3, g4, w7]); rfl) (fun hb => ?_) (fun hb => ?_) <;> (try simp only [hb0, decide_eq_true_eq, decide_eq_false_iff_not, reduceCtorEq] at hb) <;> (try (exfalso; omega)))
        | (with_reducible refine ite_in (fun hb => ?_) (fun hb => ?_) <;> (try simp only [Decidable.not_not] at hb) <;> (try simp only [hb, if_true, if_false, not_false_eq_true, not_true_eq_false, ↓reduceIte]) <;> (try simp only [hb0, decide_eq_true_eq, decide_eq_false_iff_not, reduceCtorEq] at hb) <;> (try (exfalso; omega)))
        | (refine hK _ _ ?_; clear hK; try simp only [pst0, ↓reduceIte, Nat.reduceEqDiff])
        | (clear hK; refine hK _ _ ?_; clear hK; try simp only [pst0, ↓reduceIte, Nat.reduceEqDiff])
        | (clear hK; clear hK; refine hK _ _ ?_; clear hK; try simp only [pst0, ↓reduceIte, Nat.reduceEqDiff])
        | (clear hK; clear hK; clear hK; refine hK _ _ ?_; clear hK; try simp only [pst0, ↓reduceIte, Nat.reduceEqDiff])
        | (rw [if_pos]; rotate_left 1; omega; simp (maxSteps := 2000000) only [undef, am0, am1, am2, am3, amb0, amb1, amb2, amb3, amb4, lwn, drn, callee, wantedB, isW, eff, pev, pst0, retPost, resAll, resP, resV, intP, mkV, putC, pbin, sbin, strsEq, peq, pint, pshift, pstr, pun, pconv, isShift, isConstB, app, subS, lay, rowsOf, lkV, keyKind, keyEq, mfind, mput, oInt, isZeroInt, forall_const, exists_eq_left', implies_true, IntKind.bits, ↓reduceIte, Nat.reduceEqDiff, Nat.reduceAdd, Nat.reduceSub, Nat.reduceMul, Nat.reduceLT, Nat.reduceLeDiff, Nat.reduceBEq, Int.reduceLE, Int.reduceLT, Int.reduceToNat, reduceCtorEq, Ty.all, g1, g3, g4, w7]))
      exact ⟨kids.length - (k + 1), by omega, rfl, k + 1, by simp, by omega, rfl, by rw [hsz]⟩
    · have hd : decide ((k : Int) < (kids.length : Int)) = false := by simp; omega
      have hke : k = kids.length := by omega
      subst hke
      rw [List.take_length] at g3
      repeat' (first
        | (refine a_seq (fun K hK => ?_))
        | (refine a_block ?_)
        | ((first | refine a_regionS ?_ | refine a_region (fun K hK => ?_) | refine a_ret ?_); simp (maxSteps := 2000000) only [undef, am0, am1, am2, am3, amb0, amb1, amb2, amb3, amb4, lwn, drn, callee, wantedB, isW, eff, pev, pst0, retPost, resAll, resP, resV, intP, mkV, putC, pbin, sbin, strsEq, peq, pint, pshift, pstr, pun, pconv, isShift, isConstB, app, subS, lay, rowsOf, lkV, keyKind, keyEq, mfind, mput, oInt, isZeroInt, forall_const, exists_eq_left', implies_true, IntKind.bits, ↓reduceIte, Nat.reduceEqDiff, Nat.reduceAdd, Nat.reduceSub, Nat.reduceMul, Nat.reduceLT, Nat.reduceLeDiff, Nat.reduceBEq, Int.reduceLE, Int.reduceLT, Int.reduceToNat, reduceCtorEq, Ty.all, g1, g3, g4, hlen, hd])
        | (refine a_skip ?_; try simp only [pst0, ↓reduceIte, Nat.reduceEqDiff])
        | (refine a_exit ?_; try simp only [pst0, ↓reduceIte, Nat.reduceEqDiff])
        | (refine a_cond _ (by (try simp (maxSteps := 2000000) only [undef, am0, am1, am2, am3, amb0, amb1, amb2, amb3, amb4, lwn, drn, callee, wantedB, isW, eff, pev, pst0, retPost, resAll, resP, resV, intP, mkV, putC, pbin, sbin, strsEq, peq, pint, pshift, pstr, pun, pconv, isShift, isConstB, app, subS, lay, rowsOf, lkV, keyKind, keyEq, mfind, mput, oInt, isZeroInt, forall_const, exists_eq_left', implies_true, IntKind.bits, ↓reduceIte, Nat.reduceEqDiff, Nat.reduceAdd, Nat.reduceSub, Nat.reduceMul, Nat.reduceLT, Nat.reduceLeDiff, Nat.reduceBEq, Int.reduceLE, Int.reduceLT, Int.reduceToNat, reduceCtorEq, Ty.all, g1, g3, g4, hlen, hd]); rfl) (fun hb => ?_) (fun hb => ?_) <;> (try simp only [hb0, decide_eq_true_eq, decide_eq_false_iff_not, reduceCtorEq] at hb) <;> (try (exfalso; omega)))
        | (with_reducible refine ite_in (fun hb => ?_) (fun hb => ?_) <;> (try simp only [Decidable.not_not] at hb) <;> (try simp only [hb, if_true, if_false, not_false_eq_true, not_true_eq_false, ↓reduceIte]) <;> (try simp only [hb0, decide_eq_true_eq, decide_eq_false_iff_not, reduceCtorEq] at hb) <;> (try (exfalso; omega)))
        | (refine hK _ _ ?_; clear hK; try simp only [pst0, ↓reduceIte, Nat.reduceEqDiff])
        | (clear hK; refine hK _ _ ?_; clear hK; try simp only [pst0, ↓reduceIte, Nat.reduceEqDiff])
        | (clear hK; clear hK; refine hK _ _ ?_; clear hK; try simp only [pst0, ↓reduceIte, Nat.reduceEqDiff])
        | (clear hK; clear hK; clear hK; refine hK _ _ ?_; clear hK; try simp only [pst0, ↓reduceIte, Nat.reduceEqDiff])
        | (rw [if_pos]; rotate_left 1; omega; simp (maxSteps := 2000000) only [undef, am0, am1, am2, am3, amb0, amb1, amb2, amb3, amb4, lwn, drn, callee, wantedB, isW, eff, pev, pst0, retPost, resAll, resP, resV, intP, mkV, putC, pbin, sbin, strsEq, peq, pint, pshift, pstr, pun, pconv, isShift, isConstB, app, subS, lay, rowsOf, lkV, keyKind, keyEq, mfind, mput, oInt, isZeroInt, forall_const, exists_eq_left', implies_true, IntKind.bits, ↓reduceIte, Nat.reduceEqDiff, Nat.reduceAdd, Nat.reduceSub, Nat.reduceMul, Nat.reduceLT, Nat.reduceLeDiff, Nat.reduceBEq, Int.reduceLE, Int.reduceLT, Int.reduceToNat, reduceCtorEq, Ty.all, g1, g3, g4, hlen, hd]))
theorem rsize_c : ∀ (f : Fm), f.ok → ∀ h : Heap, PCall Tryz.prog 40 [.agg f.cells] h fun r h' => r = .sc (.int .i64 f.size) ∧ h' = h := by
  refine Fm.ind ?_
  intro op name args params exprs kids ih hok h
  simp only [Fm.ok] at hok
  obtain ⟨_, _, _, _, ⟨he, hes⟩, hk, hks⟩ := hok
  rw [Ex.oks_iff] at hes
  rw [Fm.oks_iff] at hks
  have hlen := Fm.rows_len kids
  have hlene := Ex.rows_len exprs
  simp only [Fm.cells, Fm.size]
  refine pcall_body (ow := fun _ => false) (wf := fun _ => false) Ty.mixed Tryz.func40 rfl Ty.hb_40 (by rw [Tryz.ntmps40]; simp) ?_
  rw [Tryz.ntmps40, Tryz.results40]
  repeat' (first
    | (refine a_seq (fun K hK => ?_))
    | (refine a_block ?_)
    | ((first | refine a_regionS ?_ | refine a_region (fun K hK => ?_) | refine a_ret ?_); simp (maxSteps := 2000000) only [undef, am0, am1, am2, am3, amb0, amb1, amb2, amb3, amb4, lwn, drn, callee, wantedB, isW, eff, pev, pst0, retPost, resAll, resP, resV, intP, mkV, putC, pbin, sbin, strsEq, peq, pint, pshift, pstr, pun, pconv, isShift, isConstB, app, subS, lay, rowsOf, lkV, keyKind, keyEq, mfind, mput, oInt, isZeroInt, forall_const, exists_eq_left', implies_true, IntKind.bits, ↓reduceIte, Nat.reduceEqDiff, Nat.reduceAdd, Nat.reduceSub, Nat.reduceMul, Nat.reduceLT, Nat.reduceLeDiff, Nat.reduceBEq, Int.reduceLE, Int.reduceLT, Int.reduceToNat, reduceCtorEq, Ty.all, hlen])
    | (refine a_skip ?_; try simp only [pst0, ↓reduceIte, Nat.reduceEqDiff])
    | (refine a_exit ?_; try simp only [pst0, ↓reduceIte, Nat.reduceEqDiff])
    | (refine a_cond _ (by (try simp (maxSteps := 2000000) only [undef, am0, am1, am2, am3, amb0, amb1, amb2, amb3, amb4, lwn, drn, callee, wantedB, isW, eff, pev, pst0, retPost, resAll, resP, resV, intP, mkV, putC, pbin, sbin, strsEq, peq, pint, pshift, pstr, pun, pconv, isShift, isConstB, app, subS, lay, rowsOf, lkV, keyKind, keyEq, mfind, mput, oInt, isZeroInt, forall_const, exists_eq_left', implies_true, IntKind.bits, ↓reduceIte, Nat.reduceEqDiff, Nat.reduceAdd, Nat.reduceSub, Nat.reduceMul, Nat.reduceLT, Nat.reduceLeDiff, Nat.reduceBEq, Int.reduceLE, Int.reduceLT, Int.reduceToNat, reduceCtorEq, Ty.all, hlen]); rfl) (fun hb => ?_) (fun hb => ?_) <;> (try simp only [hb0, decide_eq_true_eq, decide_eq_false_iff_not, reduceCtorEq] at hb) <;> (try (exfalso; omega)))
    | (with_reducible refine ite_in (fun hb => ?_) (fun hb => ?_) <;> (try simp only [Decidable.not_not] at hb) <;> (try simp only [hb, if_true, if_false, not_false_eq_true, not_true_eq_false, ↓reduceIte]) <;> (try simp only [hb0, decide_eq_true_eq, decide_eq_false_iff_not, reduceCtorEq] at hb) <;> (try (exfalso; omega)))
    | (refine hK _ _ ?_; clear hK; try simp only [pst0, ↓reduceIte, Nat.reduceEqDiff])
    | (clear hK; refine hK _ _ ?_; clear hK; try simp only [pst0, ↓reduceIte, Nat.reduceEqDiff])
    | (clear hK; clear hK; refine hK _ _ ?_; clear hK; try simp only [pst0, ↓reduceIte, Nat.reduceEqDiff])
    | (clear hK; clear hK; clear hK; refine hK _ _ ?_; clear hK; try simp only [pst0, ↓reduceIte, Nat.reduceEqDiff])
    | (rw [if_pos]; rotate_left 1; omega; simp (maxSteps := 2000000) only [undef, am0, am1, am2, am3, amb0, amb1, amb2, amb3, amb4, lwn, drn, callee, wantedB, isW, eff, pev, pst0, retPost, resAll, resP, resV, intP, mkV, putC, pbin, sbin, strsEq, peq, pint, pshift, pstr, pun, pconv, isShift, isConstB, app, subS, lay, rowsOf, lkV, keyKind, keyEq, mfind, mput, oInt, isZeroInt, forall_const, exists_eq_left', implies_true, IntKind.bits, ↓reduceIte, Nat.reduceEqDiff, Nat.reduceAdd, Nat.reduceSub, Nat.reduceMul, Nat.reduceLT, Nat.reduceLeDiff, Nat.reduceBEq, Int.reduceLE, Int.reduceLT, Int.reduceToNat, reduceCtorEq, Ty.all, hlen]))
  refine a_loop (fun m S h' => h' = h ∧ S 1 = .cptr (Fm.mk op name args params exprs kids).cells ∧ ∃ k : Nat, S 4 = .sc (.int .i64 k) ∧ k ≤ exprs.length ∧ m = exprs.length - k ∧ S 3 = .sc (.int .i64 (Ex.sizes 1 (exprs.take k)))) exprs.length ?_ ?_
  · simp only [undef, am0, am1, am2, am3, amb0, amb1, amb2, amb3, amb4, lwn, drn, callee, wantedB, isW, eff, pev, pst0, retPost, resAll, resP, resV, intP, mkV, putC, pbin, sbin, strsEq, peq, pint, pshift, pstr, pun, pconv, isShift, isConstB, app, subS, lay, rowsOf, lkV, keyKind, keyEq, mfind, mput, oInt, isZeroInt, forall_const, exists_eq_left', implies_true, IntKind.bits, ↓reduceIte, Nat.reduceEqDiff, Nat.reduceAdd, Nat.reduceSub, Nat.reduceMul, Nat.reduceLT, Nat.reduceLeDiff, Nat.reduceBEq, Int.reduceLE, Int.reduceLT, Int.reduceToNat, reduceCtorEq]
    exact ⟨rfl, 0, rfl, by omega, rfl, by simp [Ex.sizes]⟩
  · rintro m S h' ⟨rfl, g1, k, g4, hkl, rfl, g3⟩
    simp only [Fm.cells] at g1
    by_cases hlt : k < exprs.length
    · have hd : decide ((k : Int) < (exprs.length : Int)) = true := by simp; omega
      have w7 : IntKind.i64.wrap ((k : Int) + 1) = k + 1 := by unfold bigN at he; rw [wrap64 (by omega) (by omega)]
      obtain ⟨e, hx⟩ : ∃ e, exprs[k]? = some e := ⟨_, List.getElem?_eq_getElem hlt⟩
      have hmem := List.mem_of_getElem? hx
      have hc := rsizeE_c e (hes e hmem)
      have hsz := Ex.sizes_take 1 hx
      have hr := Ex.rows_get hx
      obtain ⟨op2, name2, n2, args2, kids2⟩ := e
      simp only [Ex.cells] at hr hc
      repeat' (first
        | (refine a_seq (fun K hK => ?_))
        | (refine a_block ?_)
        | ((first | refine a_regionS ?_ | refine a_region (fun K hK => ?_) | refine a_ret ?_); simp (maxSteps := 2000000) only [undef, am0, am1, am2, am3, amb0, amb1, amb2, amb3, amb4, lwn, drn, callee, wantedB, isW, eff, pev, pst0, retPost, resAll, resP, resV, intP, mkV, putC, pbin, sbin, strsEq, peq, pint, pshift, pstr, pun, pconv, isShift, isConstB, app, subS, lay, rowsOf, lkV, keyKind, keyEq, mfind, mput, oInt, isZeroInt, forall_const, exists_eq_left', implies_true, IntKind.bits, ↓reduceIte, Nat.reduceEqDiff, Nat.reduceAdd, Nat.reduceSub, Nat.reduceMul, Nat.reduceLT, Nat.reduceLeDiff, Nat.reduceBEq, Int.reduceLE, Int.reduceLT, Int.reduceToNat, reduceCtorEq, Ty.all, g1, g3, g4, hlene, hd, hr, w7])
        | (refine a_skip ?_; try simp only [pst0, ↓reduceIte, Nat.reduceEqDiff])
        | (refine a_exit ?_; try simp only [pst0, ↓reduceIte, Nat.reduceEqDiff])
        | (refine a_cond _ (by (try simp (maxSteps := 2000000) only [undef, am0, am1, am2, am3, amb0, amb1, amb2, amb3, amb4, lwn, drn, callee, wantedB, isW, eff, pev, pst0, retPost, resAll, resP, resV, intP, mkV, putC, pbin, sbin, strsEq, peq, pint, pshift, pstr, pun, pconv, isShift, isConstB, app, subS, lay, rowsOf, lkV, keyKind, keyEq, mfind, mput, oInt, isZeroInt, forall_const, exists_eq_left', implies_true, IntKind.bits, ↓reduceIte, Nat.reduceEqDiff, Nat.reduceAdd, Nat.reduceSub, Nat.reduceMul, Nat.reduceLT, Nat.reduceLeDiff, Nat.reduceBEq, Int.reduceLE, Int.reduceLT, Int.reduceToNat, reduceCtorEq, Ty.all, g1, g3, g4, hlene, hd, hr, w7]); rfl) (fun hb => ?_) (fun hb => ?_) <;> (try simp only [hb0, decide_eq_true_eq, decide_eq_false_iff_not, reduceCtorEq] at hb) <;> (try (exfalso; omega)))
        | (with_reducible refine ite_in (fun hb => ?_) (fun hb => ?_) <;> (try simp only [Decidable.not_not] at hb) <;> (try simp only [hb, if_true, if_false, not_false_eq_true, not_true_eq_false, ↓reduceIte]) <;> (try simp only [hb0, decide_eq_true_eq, decide_eq_false_iff_not, reduceCtorEq] at hb) <;> (try (exfalso; omega)))
        | (refine hK _ _ ?_; clear hK; try simp only [pst0, ↓reduceIte, Nat.reduceEqDiff])
        | (clear hK; refine hK _ _ ?_; clear hK; try simp only [pst0, ↓reduceIte, Nat.reduceEqDiff])
        | (clear hK; clear hK; refine hK _ _ ?_; clear hK; try simp only [pst0, ↓reduceIte, Nat.reduceEqDiff])
        | (clear hK; clear hK; clear hK; refine hK _ _ ?_; clear hK; try simp only [pst0, ↓reduceIte, Nat.reduceEqDiff])
        | (rw [if_pos]; rotate_left 1; omega; simp (maxSteps := 2000000) only [undef, am0, am1, am2, am3, amb0, amb1, amb2, amb3, amb4, lwn, drn, callee, wantedB, isW, eff, pev, pst0, retPost, resAll, resP, resV, intP, mkV, putC, pbin, sbin, strsEq, peq, pint, pshift, pstr, pun, pconv, isShift, isConstB, app, subS, lay, rowsOf, lkV, keyKind, keyEq, mfind, mput, oInt, isZeroInt, forall_const, exists_eq_left', implies_true, IntKind.bits, ↓reduceIte, Nat.reduceEqDiff, Nat.reduceAdd, Nat.reduceSub, Nat.reduceMul, Nat.reduceLT, Nat.reduceLeDiff, Nat.reduceBEq, Int.reduceLE, Int.reduceLT, Int.reduceToNat, reduceCtorEq, Ty.all, g1, g3, g4, hlene, hd, hr, w7]))
      refine owp_useQ (hc _) (by (try simp only [undef, am0, am1, am2, am3, amb0, amb1, amb2, amb3, amb4, lwn, drn, callee, wantedB, isW, eff, pev, pst0, retPost, resAll, resP, resV, intP, mkV, putC, pbin, sbin, strsEq, peq, pint, pshift, pstr, pun, pconv, isShift, isConstB, app, subS, lay, rowsOf, lkV, keyKind, keyEq, mfind, mput, oInt, isZeroInt, forall_const, exists_eq_left', implies_true, IntKind.bits, ↓reduceIte, Nat.reduceEqDiff, Nat.reduceAdd, Nat.reduceSub, Nat.reduceMul, Nat.reduceLT, Nat.reduceLeDiff, Nat.reduceBEq, Int.reduceLE, Int.reduceLT, Int.reduceToNat, reduceCtorEq, g1, g3, g4, hlene, hd, hr]); try rfl) ?_
      simp (maxSteps := 2000000) only [undef, am0, am1, am2, am3, amb0, amb1, amb2, amb3, amb4, lwn, drn, callee, wantedB, isW, eff, pev, pst0, retPost, resAll, resP, resV, intP, mkV, putC, pbin, sbin, strsEq, peq, pint, pshift, pstr, pun, pconv, isShift, isConstB, app, subS, lay, rowsOf, lkV, keyKind, keyEq, mfind, mput, oInt, isZeroInt, forall_const, exists_eq_left', implies_true, IntKind.bits, ↓reduceIte, Nat.reduceEqDiff, Nat.reduceAdd, Nat.reduceSub, Nat.reduceMul, Nat.reduceLT, Nat.reduceLeDiff, Nat.reduceBEq, Int.reduceLE, Int.reduceLT, Int.reduceToNat, reduceCtorEq, Ty.all, g1, g3, g4, hlene, hd, hr]
      repeat' (first
        | (refine a_seq (fun K hK => ?_))
        | (refine a_block ?_)
        | ((first | refine a_regionS ?_ | refine a_region (fun K hK => ?_) | refine a_ret ?_); simp (maxSteps := 2000000) only [undef, am0, am1, am2, am3, amb0, amb1, amb2, amb3, amb4, lwn, drn, callee, wantedB, isW, eff, pev, pst0, retPost, resAll, resP, resV, intP, mkV, putC, pbin, sbin, strsEq, peq, pint, pshift, pstr, pun, pconv, isShift, isConstB, app, subS, lay, rowsOf, lkV, keyKind, keyEq, mfind, mput, oInt, isZeroInt, forall_const, exists_eq_left', implies_true, IntKind.bits, ↓reduceIte, Nat.reduceEqDiff, Nat.reduceAdd, Nat.reduceSub, Nat.reduceMul, Nat.reduceLT, Nat.reduceLeDiff, Nat.reduceBEq, Int.reduceLE, Int.reduceLT, Int.reduceToNat, reduceCtorEq, Ty.all, g1, g3, g4, w7])
        | (refine a_skip ?_; try simp only [pst0, ↓reduceIte, Nat.reduceEqDiff])
        | (refine a_exit ?_; try simp only [pst0, ↓reduceIte, Nat.reduceEqDiff])
        | (refine a_cond _ (by (try simp (maxSteps := 2000000) only [undef, am0, am1, am2, am3, amb0, amb1, amb2, amb3, amb4, lwn, drn, callee, wantedB, isW, eff, pev, pst0, retPost, resAll, resP, resV, intP, mkV, putC, pbin, sbin, strsEq, peq, pint, pshift, pstr, pun, pconv, isShift, isConstB, app, subS, lay, rowsOf, lkV, keyKind, keyEq, mfind, mput, oInt, isZeroInt, forall_const, exists_eq_left', implies_true, IntKind.bits, ↓reduceIte, Nat.reduceEqDiff, Nat.reduceAdd, Nat.reduceSub, Nat.reduceMul, Nat.reduceLT, Nat.reduceLeDiff, Nat.reduceBEq, Int.reduceLE, Int.reduceLT, Int.reduceToNat, reduceCtorEq, Ty.all, g1, g3, g4, w7]); rfl) (fun hb => ?_) (fun hb => ?_) <;> (try simp only [hb0, decide_eq_true_eq, decide_eq_false_iff_not, reduceCtorEq] at hb) <;> (try (exfalso; omega)))
        | (with_reducible refine ite_in (fun hb => ?_) (fun hb => ?_) <;> (try simp only [Decidable.not_not] at hb) <;> (try simp only [hb, if_true, if_false, not_false_eq_true, not_true_eq_false, ↓reduceIte]) <;> (try simp only [hb0, decide_eq_true_eq, decide_eq_false_iff_not, reduceCtorEq] at hb) <;> (try (exfalso; omega)))
        | (refine hK _ _ ?_; clear hK; try simp only [pst0, ↓reduceIte, Nat.reduceEqDiff])
        | (clear hK; refine hK _ _ ?_; clear hK; try simp only [pst0, ↓reduceIte, Nat.reduceEqDiff])
        | (clear hK; clear hK; refine hK _ _ ?_; clear hK; try simp only [pst0, ↓reduceIte, Nat.reduceEqDiff])
        | (clear hK; clear hK; clear hK; refine hK _ _ ?_; clear hK; try simp only [pst0, ↓reduceIte, Nat.reduceEqDiff])
        | (rw [if_pos]; rotate_left 1; omega; simp (maxSteps := 2000000) only [undef, am0, am1, am2, am3, amb0, amb1, amb2, amb3, amb4, lwn, drn, callee, wantedB, isW, eff, pev, pst0, retPost, resAll, resP, resV, intP, mkV, putC, pbin, sbin, strsEq, peq, pint, pshift, pstr, pun, pconv, isShift, isConstB, app, subS, lay, rowsOf, lkV, keyKind, keyEq, mfind, mput, oInt, isZeroInt, forall_const, exists_eq_left', implies_true, IntKind.bits, ↓reduceIte, Nat.reduceEqDiff, Nat.reduceAdd, Nat.reduceSub, Nat.reduceMul, Nat.reduceLT, Nat.reduceLeDiff, Nat.reduceBEq, Int.reduceLE, Int.reduceLT, Int.reduceToNat, reduceCtorEq, Ty.all, g1, g3, g4, w7]))
      exact ⟨exprs.length - (k + 1), by omega, by simp only [Fm.cells], k + 1, by simp, by omega, rfl, by rw [hsz]⟩
    · have hd : decide ((k : Int) < (exprs.length : Int)) = false := by simp; omega
      have hke : k = exprs.length := by omega
      subst hke
      rw [List.take_length] at g3
      repeat' (first
        | (refine a_seq (fun K hK => ?_))
        | (refine a_block ?_)
        | ((first | refine a_regionS ?_ | refine a_region (fun K hK => ?_) | refine a_ret ?_); simp (maxSteps := 2000000) only [undef, am0, am1, am2, am3, amb0, amb1, amb2, amb3, amb4, lwn, drn, callee, wantedB, isW, eff, pev, pst0, retPost, resAll, resP, resV, intP, mkV, putC, pbin, sbin, strsEq, peq, pint, pshift, pstr, pun, pconv, isShift, isConstB, app, subS, lay, rowsOf, lkV, keyKind, keyEq, mfind, mput, oInt, isZeroInt, forall_const, exists_eq_left', implies_true, IntKind.bits, ↓reduceIte, Nat.reduceEqDiff, Nat.reduceAdd, Nat.reduceSub, Nat.reduceMul, Nat.reduceLT, Nat.reduceLeDiff, Nat.reduceBEq, Int.reduceLE, Int.reduceLT, Int.reduceToNat, reduceCtorEq, Ty.all, g1, g3, g4, hlene, hd])
        | (refine a_skip ?_; try simp only [pst0, ↓reduceIte, Nat.reduceEqDiff])
        | (refine a_exit ?_; try simp only [pst0, ↓reduceIte, Nat.reduceEqDiff])
        | (refine a_cond _ (by (try simp (maxSteps := 2000000) only [undef, am0, am1, am2, am3, amb0, amb1, amb2, amb3, amb4, lwn, drn, callee, wantedB, isW, eff, pev, pst0, retPost, resAll, resP, resV, intP, mkV, putC, pbin, sbin, strsEq, peq, pint, pshift, pstr, pun, pconv, isShift, isConstB, app, subS, lay, rowsOf, lkV, keyKind, keyEq, mfind, mput, oInt, isZeroInt, forall_const, exists_eq_left', implies_true, IntKind.bits, ↓reduceIte, Nat.reduceEqDiff, Nat.reduceAdd, Nat.reduceSub, Nat.reduceMul, Nat.reduceLT, Nat.reduceLeDiff, Nat.reduceBEq, Int.reduceLE, Int.reduceLT, Int.reduceToNat, reduceCtorEq, Ty.all, g1, g3, g4, hlene, hd]); rfl) (fun hb => ?_) (fun hb => ?_) <;> (try simp only [hb0, decide_eq_true_eq, decide_eq_false_iff_not, reduceCtorEq] at hb) <;> (try (exfalso; omega)))
        | (with_reducible refine ite_in (fun hb => ?_) (fun hb => ?_) <;> (try simp only [Decidable.not_not] at hb) <;> (try simp only [hb, if_true, if_false, not_false_eq_true, not_true_eq_false, ↓reduceIte]) <;> (try simp only [hb0, decide_eq_true_eq, decide_eq_false_iff_not, reduceCtorEq] at hb) <;> (try (exfalso; omega)))
        | (refine hK _ _ ?_; clear hK; try simp only [pst0, ↓reduceIte, Nat.reduceEqDiff])
        | (clear hK; refine hK _ _ ?_; clear hK; try simp only [pst0, ↓reduceIte, Nat.reduceEqDiff])
        | (clear hK; clear hK; refine hK _ _ ?_; clear hK; try simp only [pst0, ↓reduceIte, Nat.reduceEqDiff])
        | (clear hK; clear hK; clear hK; refine hK _ _ ?_; clear hK; try simp only [pst0, ↓reduceIte, Nat.reduceEqDiff])
        | (rw [if_pos]; rotate_left 1; omega; simp (maxSteps := 2000000) only [undef, am0, am1, am2, am3, amb0, amb1, amb2, amb3, amb4, lwn, drn, callee, wantedB, isW, eff, pev, pst0, retPost, resAll, resP, resV, intP, mkV, putC, pbin, sbin, strsEq, peq, pint, pshift, pstr, pun, pconv, isShift, isConstB, app, subS, lay, rowsOf, lkV, keyKind, keyEq, mfind, mput, oInt, isZeroInt, forall_const, exists_eq_left', implies_true, IntKind.bits, ↓reduceIte, Nat.reduceEqDiff, Nat.reduceAdd, Nat.reduceSub, Nat.reduceMul, Nat.reduceLT, Nat.reduceLeDiff, Nat.reduceBEq, Int.reduceLE, Int.reduceLT, Int.reduceToNat, reduceCtorEq, Ty.all, g1, g3, g4, hlene, hd]))
      refine a_loop (fun m S h2 => h2 = h' ∧ S 1 = .cptr (Fm.mk op name args params exprs kids).cells ∧ ∃ k : Nat, S 5 = .sc (.int .i64 k) ∧ k ≤ kids.length ∧ m = kids.length - k ∧ S 3 = .sc (.int .i64 (Fm.sizes (Ex.sizes 1 exprs) (kids.take k)))) kids.length ?_ ?_
      · simp only [undef, am0, am1, am2, am3, amb0, amb1, amb2, amb3, amb4, lwn, drn, callee, wantedB, isW, eff, pev, pst0, retPost, resAll, resP, resV, intP, mkV, putC, pbin, sbin, strsEq, peq, pint, pshift, pstr, pun, pconv, isShift, isConstB, app, subS, lay, rowsOf, lkV, keyKind, keyEq, mfind, mput, oInt, isZeroInt, forall_const, exists_eq_left', implies_true, IntKind.bits, ↓reduceIte, Nat.reduceEqDiff, Nat.reduceAdd, Nat.reduceSub, Nat.reduceMul, Nat.reduceLT, Nat.reduceLeDiff, Nat.reduceBEq, Int.reduceLE, Int.reduceLT, Int.reduceToNat, reduceCtorEq, g1, g3]
        exact ⟨by simp only [Fm.cells], 0, rfl, by omega, rfl, by simp [Fm.sizes]⟩
      · clear g1 g3 g4
        rintro m S h' ⟨rfl, g1, k, g5, hkl, rfl, g3⟩
        simp only [Fm.cells] at g1
        by_cases hlt : k < kids.length
        · have hd : decide ((k : Int) < (kids.length : Int)) = true := by simp; omega
          have w7 : IntKind.i64.wrap ((k : Int) + 1) = k + 1 := by unfold bigN at hk; rw [wrap64 (by omega) (by omega)]
          obtain ⟨e, hx⟩ : ∃ e, kids[k]? = some e := ⟨_, List.getElem?_eq_getElem hlt⟩
          have hmem := List.mem_of_getElem? hx
          have hc := ih e hmem (hks e hmem)
          have hsz := Fm.sizes_take (Ex.sizes 1 exprs) hx
          have hr := Fm.rows_get hx
          obtain ⟨op2, name2, args2, params2, exprs2, kids2⟩ := e
          simp only [Fm.cells] at hr hc
          repeat' (first
            | (refine a_seq (fun K hK => ?_))
            | (refine a_block ?_)
            | ((first | refine a_regionS ?_ | refine a_region (fun K hK => ?_) | refine a_ret ?_); simp (maxSteps := 2000000) only [undef, am0, am1, am2, am3, amb0, amb1, amb2, amb3, amb4, lwn, drn, callee, wantedB, isW, eff, pev, pst0, retPost, resAll, resP, resV, intP, mkV, putC, pbin, sbin, strsEq, peq, pint, pshift, pstr, pun, pconv, isShift, isConstB, app, subS, lay, rowsOf, lkV, keyKind, keyEq, mfind, mput, oInt, isZeroInt, forall_const, exists_eq_left', implies_true, IntKind.bits, ↓reduceIte, Nat.reduceEqDiff, Nat.reduceAdd, Nat.reduceSub, Nat.reduceMul, Nat.reduceLT, Nat.reduceLeDiff, Nat.reduceBEq, Int.reduceLE, Int.reduceLT, Int.reduceToNat, reduceCtorEq, Ty.all, g1, g3, g5, hlen, hd, hr, w7])
            | (refine a_skip ?_; try simp only [pst0, ↓reduceIte, Nat.reduceEqDiff])
            | (refine a_exit ?_; try simp only [pst0, ↓reduceIte, Nat.reduceEqDiff])
            | (refine a_cond _ (by (try simp (maxSteps := 2000000) only [undef, am0, am1, am2, am3, amb0, amb1, amb2, amb3, amb4, lwn, drn, callee, wantedB, isW, eff, pev, pst0, retPost, resAll, resP, resV, intP, mkV, putC, pbin, sbin, strsEq, peq, pint, pshift, pstr, pun, pconv, isShift, isConstB, app, subS, lay, rowsOf, lkV, keyKind, keyEq, mfind, mput, oInt, isZeroInt, forall_const, exists_eq_left', implies_true, IntKind.bits, ↓reduceIte, Nat.reduceEqDiff, Nat.reduceAdd, Nat.reduceSub, Nat.reduceMul, Nat.reduceLT, Nat.reduceLeDiff, Nat.reduceBEq, Int.reduceLE, Int.reduceLT, Int.reduceToNat, reduceCtorEq, Ty.all, g1, g3, g5, hlen, hd, hr, w7]); rfl) (fun hb => ?_) (fun hb => ?_) <;> (try simp only [hb0, decide_eq_true_eq, decide_eq_false_iff_not, reduceCtorEq] at hb) <;> (try (exfalso; omega)))
            | (with_reducible refine ite_in (fun hb => ?_) (fun hb => ?_) <;> (try simp only [Decidable.not_not] at hb) <;> (try simp only [hb, if_true, if_false, not_false_eq_true, not_true_eq_false, ↓reduceIte]) <;> (try simp only [hb0, decide_eq_true_eq, decide_eq_false_iff_not, reduceCtorEq] at hb) <;> (try (exfalso; omega)))
            | (refine hK _ _ ?_; clear hK; try simp only [pst0, ↓reduceIte, Nat.reduceEqDiff])
            | (clear hK; refine hK _ _ ?_; clear hK; try simp only [pst0, ↓reduceIte, Nat.reduceEqDiff])
            | (clear hK; clear hK; refine hK _ _ ?_; clear hK; try simp only [pst0, ↓reduceIte, Nat.reduceEqDiff])
            | (clear hK; clear hK; clear hK; refine hK _ _ ?_; clear hK; try simp only [pst0, ↓reduceIte, Nat.reduceEqDiff])
            | (rw [if_pos]; rotate_left 1; omega; simp (maxSteps := 2000000) only [undef, am0, am1, am2, am3, amb0, amb1, amb2, amb3, amb4, lwn, drn, callee, wantedB, isW, eff, pev, pst0, retPost, resAll, resP, resV, intP, mkV, putC, pbin, sbin, strsEq, peq, pint, pshift, pstr, pun, pconv, isShift, isConstB, app, subS, lay, rowsOf, lkV, keyKind, keyEq, mfind, mput, oInt, isZeroInt, forall_const, exists_eq_left', implies_true, IntKind.bits, ↓reduceIte, Nat.reduceEqDiff, Nat.reduceAdd, Nat.reduceSub, Nat.reduceMul, Nat.reduceLT, Nat.reduceLeDiff, Nat.reduceBEq, Int.reduceLE, Int.reduceLT, Int.reduceToNat, reduceCtorEq, Ty.all, g1, g3, g5, hlen, hd, hr, w7]))
          refine owp_useQ (hc _) (by (try simp only [undef, am0, am1, am2, am3, amb0, amb1, amb2, amb3, amb4, lwn, drn, callee, wantedB, isW, eff, pev, pst0, retPost, resAll, resP, resV, intP, mkV, putC, pbin, sbin, strsEq, peq, pint, pshift, pstr, pun, pconv, isShift, isConstB, app, subS, lay, rowsOf, lkV, keyKind, keyEq, mfind, mput, oInt, isZeroInt, forall_const, exists_eq_left', implies_true, IntKind.bits, ↓reduceIte, Nat.reduceEqDiff, Nat.reduceAdd, Nat.reduceSub, Nat.reduceMul, Nat.reduceLT, Nat.reduceLeDiff, Nat.reduceBEq, Int.reduceLE, Int.reduceLT, Int.reduceToNat, reduceCtorEq, g1, g3, g5, hlen, hd, hr]); try rfl) ?_
          simp (maxSteps := 2000000) only [undef, am0, am1, am2, am3, amb0, amb1, amb2, amb3, amb4, lwn, drn, callee, wantedB, isW, eff, pev, pst0, retPost, resAll, resP, resV, intP, mkV, putC, pbin, sbin, strsEq, peq, pint, pshift, pstr, pun, pconv, isShift, isConstB, app, subS, lay, rowsOf, lkV, keyKind, keyEq, mfind, mput, oInt, isZeroInt, forall_const, exists_eq_left', implies_true, IntKind.bits, ↓reduceIte, Nat.reduceEqDiff, Nat.reduceAdd, Nat.reduceSub, Nat.reduceMul, Nat.reduceLT, Nat.reduceLeDiff, Nat.reduceBEq, Int.reduceLE, Int.reduceLT, Int.reduceToNat, reduceCtorEq, Ty.all, g1, g3, g5, hlen, hd, hr]
          repeat' (first
            | (refine a_seq (fun K hK => ?_))
            | (refine a_block ?_)
            | ((first | refine a_regionS ?_ | refine a_region (fun K hK => ?_) | refine a_ret ?_); simp (maxSteps := 2000000) only [undef, am0, am1, am2, am3, amb0, amb1, amb2, amb3, amb4, lwn, drn, callee, wantedB, isW, eff, pev, pst0, retPost, resAll, resP, resV, intP, mkV, putC, pbin, sbin, strsEq, peq, pint, pshift, pstr, pun, pconv, isShift, isConstB, app, subS, lay, rowsOf, lkV, keyKind, keyEq, mfind, mput, oInt, isZeroInt, forall_const, exists_eq_left', implies_true, IntKind.bits, ↓reduceIte, Nat.reduceEqDiff, Nat.reduceAdd, Nat.reduceSub, Nat.reduceMul, Nat.reduceLT, Nat.reduceLeDiff, Nat.reduceBEq, Int.reduceLE, Int.reduceLT, Int.reduceToNat, reduceCtorEq, Ty.all, g1, g3, g5, w7])
            | (refine a_skip ?_; try simp only [pst0, ↓reduceIte, Nat.reduceEqDiff])
            | (refine a_exit ?_; try simp only [pst0, ↓reduceIte, Nat.reduceEqDiff])
            | (refine a_cond _ (by (try simp (maxSteps := 2000000) only [undef, am0, am1, am2, am3, amb0, amb1, amb2, amb3, amb4, lwn, drn, callee, wantedB, isW, eff, pev, pst0, retPost, resAll, resP, resV, intP, mkV, putC, pbin, sbin, strsEq, peq, pint, pshift, pstr, pun, pconv, isShift, isConstB, app, subS, lay, rowsOf, lkV, keyKind, keyEq, mfind, mput, oInt, isZeroInt, forall_const, exists_eq_left', implies_true, IntKind.bits, ↓reduceIte, Nat.reduceEqDiff, Nat.reduceAdd, Nat.reduceSub, Nat.reduceMul, Nat.reduceLT, Nat.reduceLeDiff, Nat.reduceBEq, Int.reduceLE, Int.reduceLT, Int.reduceToNat, reduceCtorEq, Ty.all, g1, g3, g5, w7]); rfl) (fun hb => ?_) (fun hb => ?_) <;> (try simp only [hb0, decide_eq_true_eq, decide_eq_false_iff_not, reduceCtorEq] at hb) <;> (try (exfalso; omega)))
            | (with_reducible refine ite_in (fun hb => ?_) (fun hb => ?_) <;> (try simp only [Decidable.not_not] at hb) <;> (try simp only [hb, if_true, if_false, not_false_eq_true, not_true_eq_false, ↓reduceIte]) <;> (try simp only [hb0, decide_eq_true_eq, decide_eq_false_iff_not, reduceCtorEq] at hb) <;> (try (exfalso; omega)))
            | (refine hK _ _ ?_; clear hK; try simp only [pst0, ↓reduceIte, Nat.reduceEqDiff])
            | (clear hK; refine hK _ _ ?_; clear hK; try simp only [pst0, ↓reduceIte, Nat.reduceEqDiff])
            | (clear hK; clear hK; refine hK _ _ ?_; clear hK; try simp only [pst0, ↓reduceIte, Nat.reduceEqDiff])
            | (clear hK; clear hK; clear hK; refine hK _ _ ?_; clear hK; try simp only [pst0, ↓reduceIte, Nat.reduceEqDiff])
            | (rw [if_pos]; rotate_left 1; omega; simp (maxSteps := 2000000) only [undef, am0, am1, am2, am3, amb0, amb1, amb2, amb3, amb4, lwn, drn, callee, wantedB, isW, eff, pev, pst0, retPost, resAll, resP, resV, intP, mkV, putC, pbin, sbin, strsEq, peq, pint, pshift, pstr, pun, pconv, isShift, isConstB, app, subS, lay, rowsOf, lkV, keyKind, keyEq, mfind, mput, oInt, isZeroInt, forall_const, exists_eq_left', implies_true, IntKind.bits, ↓reduceIte, Nat.reduceEqDiff, Nat.reduceAdd, Nat.reduceSub, Nat.reduceMul, Nat.reduceLT, Nat.reduceLeDiff, Nat.reduceBEq, Int.reduceLE, Int.reduceLT, Int.reduceToNat, reduceCtorEq, Ty.all, g1, g3, g5, w7]))
          exact ⟨kids.length - (k + 1), by omega, by simp only [Fm.cells], k + 1, by simp, by omega, rfl, by rw [hsz]⟩
        · have hd : decide ((k : Int) < (kids.length : Int)) = false := by simp; omega
          have hke : k = kids.length := by omega
          subst hke
          rw [List.take_length] at g3
          repeat' (first
            | (refine a_seq (fun K hK => ?_))
            | (refine a_block ?_)
            | ((first | refine a_regionS ?_ | refine a_region (fun K hK => ?_) | refine a_ret ?_); simp (maxSteps := 2000000) only [undef, am0, am1, am2, am3, amb0, amb1, amb2, amb3, amb4, lwn, drn, callee, wantedB, isW, eff, pev, pst0, retPost, resAll, resP, resV, intP, mkV, putC, pbin, sbin, strsEq, peq, pint, pshift, pstr, pun, pconv, isShift, isConstB, app, subS, lay, rowsOf, lkV, keyKind, keyEq, mfind, mput, oInt, isZeroInt, forall_const, exists_eq_left', implies_true, IntKind.bits, ↓reduceIte, Nat.reduceEqDiff, Nat.reduceAdd, Nat.reduceSub, Nat.reduceMul, Nat.reduceLT, Nat.reduceLeDiff, Nat.reduceBEq, Int.reduceLE, Int.reduceLT, Int.reduceToNat, reduceCtorEq, Ty.all, g1, g3, g5, hlen, hd])
            | (refine a_skip ?_; try simp only [pst0, ↓reduceIte, Nat.reduceEqDiff])
            | (refine a_exit ?_; try simp only [pst0, ↓reduceIte, Nat.reduceEqDiff])
            | (refine a_cond _ (by (try simp (maxSteps := 2000000) only [undef, am0, am1, am2, am3, amb0, amb1, amb2, amb3, amb4, lwn, drn, callee, wantedB, isW, eff, pev, pst0, retPost, resAll, resP, resV, intP, mkV, putC, pbin, sbin, strsEq, peq, pint, pshift, pstr, pun, pconv, isShift, isConstB, app, subS, lay, rowsOf, lkV, keyKind, keyEq, mfind, mput, oInt, isZeroInt, forall_const, exists_eq_left', implies_true, IntKind.bits, ↓reduceIte, Nat.reduceEqDiff, Nat.reduceAdd, Nat.reduceSub, Nat.reduceMul, Nat.reduceLT, Nat.reduceLeDiff, Nat.reduceBEq, Int.reduceLE, Int.reduceLT, Int.reduceToNat, reduceCtorEq, Ty.all, g1, g3, g5, hlen, hd]); rfl) (fun hb => ?_) (fun hb => ?_) <;> (try simp only [hb0, decide_eq_true_eq, decide_eq_false_iff_not, reduceCtorEq] at hb) <;> (try (exfalso; omega)))
            | (with_reducible refine ite_in (fun hb => ?_) (fun hb => ?_) <;> (try simp only [Decidable.not_not] at hb) <;> (try simp only [hb, if_true, if_false, not_false_eq_true, not_true_eq_false, ↓reduceIte]) <;> (try simp only [hb0, decide_eq_true_eq, decide_eq_false_iff_not, reduceCtorEq] at hb) <;> (try (exfalso; omega)))
            | (refine hK _ _ ?_; clear hK; try simp only [pst0, ↓reduceIte, Nat.reduceEqDiff])
            | (clear hK; refine hK _ _ ?_; clear hK; try simp only [pst0, ↓reduceIte, Nat.reduceEqDiff])
            | (clear hK; clear hK; refine hK _ _ ?_; clear hK; try simp only [pst0, ↓reduceIte, Nat.reduceEqDiff])
            | (clear hK; clear hK; clear hK; refine hK _ _ ?_; clear hK; try simp only [pst0, ↓reduceIte, Nat.reduceEqDiff])
            | (rw [if_pos]; rotate_left 1; omega; simp (maxSteps := 2000000) only [undef, am0, am1, am2, am3, amb0, amb1, amb2, amb3, amb4, lwn, drn, callee, wantedB, isW, eff, pev, pst0, retPost, resAll, resP, resV, intP, mkV, putC, pbin, sbin, strsEq, peq, pint, pshift, pstr, pun, pconv, isShift, isConstB, app, subS, lay, rowsOf, lkV, keyKind, keyEq, mfind, mput, oInt, isZeroInt, forall_const, exists_eq_left', implies_true, IntKind.bits, ↓reduceIte, Nat.reduceEqDiff, Nat.reduceAdd, Nat.reduceSub, Nat.reduceMul, Nat.reduceLT, Nat.reduceLeDiff, Nat.reduceBEq, Int.reduceLE, Int.reduceLT, Int.reduceToNat, reduceCtorEq, Ty.all, g1, g3, g5, hlen, hd]))
end Go.Proofs.YtikhonogkpboaaaGreat
namespace Go.Proofs.YtikhonogkpboaaaGreat
open Go.AM
set_option maxHeartbeats 2000000
set_option maxRecDepth 20000
def words : List ByteArray := [⟨#[97, 110, 100]⟩, ⟨#[111, 114]⟩, ⟨#[110, 111, 116]⟩, ⟨#[105, 109, 112, 108, 121]⟩, ⟨#[102, 111, 114, 97, 108, 108]⟩, ⟨#[101, 120, 105, 115, 116, 115]⟩, ⟨#[119, 104, 101, 110]⟩, ⟨#[97, 115, 115, 105, 103, 110]⟩, ⟨#[105, 110, 99, 114, 101, 97, 115, 101]⟩, ⟨#[100, 101, 99, 114, 101, 97, 115, 101]⟩, ⟨#[111, 98, 106, 101, 99, 116]⟩]
theorem strRows_len (l : List ByteArray) : (strRows l).length = l.length := by simp [strRows]
end Go.Proofs.YtikhonogkpboaaaGreat
namespace Go.Proofs.YtikhonogkpboaaaGreat
open Go.AM
set_option maxHeartbeats 2000000
set_option maxRecDepth 20000
theorem drop_of_get {α : Type} {l : List α} {k : Nat} {a : α} (h : l[k]? = some a) : l.drop k = a :: l.drop (k + 1) := by
  obtain ⟨hl, rfl⟩ := List.getElem?_eq_some_iff.1 h
  exact List.drop_eq_getElem_cons hl
end Go.Proofs.YtikhonogkpboaaaGreat
namespace Go.AM
def vEq : Value → Value → Bool
  | .int k a, .int k' b => decide (k = k') && decide (a = b)
  | .bool a, .bool b => a == b
  | .string a, .string b => decide (a.data.toList = b.data.toList)
  | .nilIface, .nilIface => true
  | .pointer none, .pointer none => true
  | .map none, .map none => true
  | .slice none n m, .slice none n' m' => decide (n = n') && decide (m = m')
  | .func (.func f) a b, .func (.func f') a' b' => decide (f = f') && decide (a.size = 0) && decide (b.size = 0) && decide (a'.size = 0) && decide (b'.size = 0)
  | .iface t v, .iface u x => decide (t = u) && vEq v x
  | _, _ => false
theorem vEq_eq (a b : Value) (h : vEq a b = true) : a = b := by
  fun_induction vEq a b
  case case3 a b =>
    obtain ⟨⟨a⟩⟩ := a
    obtain ⟨⟨b⟩⟩ := b
    simp at h; rw [h]
  case case8 =>
    simp at h
    obtain ⟨⟨⟨⟨rfl, rfl⟩, rfl⟩, rfl⟩, rfl⟩ := h
    rfl
  all_goals simp_all
mutual
def pvEq : PV → PV → Bool
  | .sc v, .sc u => vEq v u
  | .ptr a b c, .ptr a' b' c' => decide (a = a') && decide (b = b') && decide (c = c')
  | .own a b c, .own a' b' c' => decide (a = a') && decide (b = b') && decide (c = c')
  | .mp a, .mp b => decide (a = b)
  | .emp, .emp => true
  | .cptr l, .cptr l' => pvEqL l l'
  | .agg l, .agg l' => pvEqL l l'
  | .tup l, .tup l' => pvEqL l l'
  | .fn f a b, .fn f' a' b' => decide (f = f') && pvEqL a a' && pvEqL b b'
  | .ab k a b c d, .ab k' a' b' c' d' => decide (k = k') && decide (a = a') && decide (b = b') && decide (c = c') && decide (d = d')
  | .imm z r, .imm z' r' => decide (z = z') && pvEqR r r'
  | _, _ => false
def pvEqL : List PV → List PV → Bool
  | [], [] => true
  | a :: l, b :: l' => pvEq a b && pvEqL l l'
  | _, _ => false
def pvEqR : List (List PV) → List (List PV) → Bool
  | [], [] => true
  | a :: l, b :: l' => pvEqL a b && pvEqR l l'
  | _, _ => false
end
mutual
theorem pvEq_eq : ∀ (a b : PV), pvEq a b = true → a = b
  | .sc v, b, h => by cases b <;> simp [pvEq] at h; rw [vEq_eq _ _ h]
  | .ptr a b c, x, h => by cases x <;> simp [pvEq] at h; obtain ⟨⟨rfl, rfl⟩, rfl⟩ := h; rfl
  | .own a b c, x, h => by cases x <;> simp [pvEq] at h; obtain ⟨⟨rfl, rfl⟩, rfl⟩ := h; rfl
  | .mp a, x, h => by cases x <;> simp [pvEq] at h; rw [h]
  | .emp, x, h => by cases x <;> simp [pvEq] at h; rfl
  | .cptr l, x, h => by cases x <;> simp [pvEq] at h; rw [pvEqL_eq _ _ h]
  | .agg l, x, h => by cases x <;> simp [pvEq] at h; rw [pvEqL_eq _ _ h]
  | .tup l, x, h => by cases x <;> simp [pvEq] at h; rw [pvEqL_eq _ _ h]
  | .imm z r, x, h => by cases x <;> simp [pvEq] at h; rw [h.1, pvEqR_eq _ _ h.2]
  | .fn f a b, x, h => by cases x <;> simp [pvEq] at h; rw [h.1.1, pvEqL_eq _ _ h.1.2, pvEqL_eq _ _ h.2]
  | .ab k a b c d, x, h => by cases x <;> simp [pvEq] at h; obtain ⟨⟨⟨⟨rfl, rfl⟩, rfl⟩, rfl⟩, rfl⟩ := h; rfl
theorem pvEqL_eq : ∀ (a b : List PV), pvEqL a b = true → a = b
  | [], b, h => by cases b <;> simp [pvEqL] at h; rfl
  | x :: l, b, h => by cases b <;> simp [pvEqL] at h; rw [pvEq_eq _ _ h.1, pvEqL_eq _ _ h.2]
theorem pvEqR_eq : ∀ (a b : List (List PV)), pvEqR a b = true → a = b
  | [], b, h => by cases b <;> simp [pvEqR] at h; rfl
  | x :: l, b, h => by cases b <;> simp [pvEqR] at h; rw [pvEqL_eq _ _ h.1, pvEqR_eq _ _ h.2]
end
section
variable (P : Program) (wf : FuncId → Bool) (own : FuncId → Nat → Bool) (ext : FuncId → List PV → Option PV)
end
section
variable {P : Program} {wf : FuncId → Bool} {own : FuncId → Nat → Bool}
/-- what is taken from contracts that are proved: of calls that leave the heap -/
def ExtOk (P : Program) (ext : FuncId → List PV → Option PV) : Prop := ∀ f args r h, ext f args = some r → PCall P f args h (fun r' h' => r' = r ∧ h' = h)
theorem eff_same {ow : Nat → Bool} {o : Oper} {ρ : Operand → PV} {h h' : Heap} {v : PV} (hw : isW ow wf o = false) (hc : callee ρ o.op = none) (he : eff P (o.dst.any ow) o.op ρ h = some (v, h')) : h' = h := by
  obtain ⟨dst, op, t, pos, after, guard⟩ := o
  simp only at hc he hw
  unfold eff at he
  split at he <;> simp only [isW] at hw <;> (try (simp at hw; done))
  all_goals (repeat' (split at he))
  all_goals first
    | (simp [Option.bind_eq_some_iff, Option.map_eq_some_iff] at he; done)
    | (simp [Option.bind_eq_some_iff, Option.map_eq_some_iff] at he; grind)
    | skip
theorem Does.owp {ow : Nat → Bool} {o : Oper} {s : Slots} {h h' : Heap} {v : PV} {K : Slots → Heap → Prop} (hd : Does P ow o (pev s) h v h') (hK : K (updO s o.dst v) h') : owp P ow o K s h := by
  unfold Does at hd
  unfold AM.owp
  split at hd
  · rename_i f args hc
    exact hd.mono (fun r h'' hr => by rw [hr.1, hr.2]; exact hK)
  · rename_i hc
    rw [hd]
    exact hK
/-- the first place of a byte -/
theorem pcall_indexByte {f : FuncId} {fn : Func} (hf : P.funcs[f]? = some fn) (hname : (fn.name == "runtime.NumGoroutine") = false) (hb : fn.body.isNone = true) (hn : Extern.findNext fn = none) (he : Extern.find fn = some Extern.BytealgIndexByte.indexByte) (s : ByteArray) (c : Int) (h : Heap) :
    PCall P f [.sc (.string s), .sc (.int .u8 c)] h (fun r h' => r = .sc (.int .i64 (firstIdx s c.toNat.toUInt8)) ∧ h' = h) := by
  intro β w vals sm hr
  match vals, hr.len, hr with
  | [x, y], _, hr =>
    simp only [RepL, Rep] at hr
    obtain ⟨rfl, rfl, _⟩ := hr
    exact .inr ⟨_, w, by rw [run_callFunc_extern hf hname hb hn he]; simp only [run_indexByte_string]; rfl, _, h, β, _, rfl, ⟨rfl, rfl⟩, sm, by simp only [RepH, Rep], Ext.refl⟩
end
end Go.AM
namespace Go.Proofs.YtikhonogkpboaaaGreat
open Go.AM
set_option maxHeartbeats 2000000
set_option maxRecDepth 100000
def ext (f : FuncId) (args : List PV) : Option PV := if f = 268 then (match args with | [.sc (.string s), .sc (.int .u8 c)] => some (.sc (.int .i64 (firstIdx s c.toNat.toUInt8))) | _ => none) else none
theorem ixb_ok : (Tryz.f268.name == "runtime.NumGoroutine") = false ∧ Tryz.f268.body.isNone = true ∧ Extern.findNext Tryz.f268 = none ∧ Extern.find Tryz.f268 = some Extern.BytealgIndexByte.indexByte :=
  ⟨by kernel_rfl, by kernel_rfl, by kernel_rfl, by kernel_rfl⟩
theorem ext_ok : ExtOk Tryz.prog ext := by
  intro f args r h hr
  unfold ext at hr
  split at hr
  · rename_i hf
    subst hf
    split at hr
    · simp only [Option.some.injEq] at hr
      subst hr
      exact pcall_indexByte Tryz.func268 ixb_ok.1 ixb_ok.2.1 ixb_ok.2.2.1 ixb_ok.2.2.2 _ _ _
    · simp at hr
  · simp at hr
end Go.Proofs.YtikhonogkpboaaaGreat
namespace Go.Proofs.YtikhonogkpboaaaGreat
open Go.AM
set_option maxHeartbeats 2000000
set_option maxRecDepth 20000
structure Hold (p : Prop) : Prop where
  out : p
theorem a_hold {P : Program} {ow : Nat → Bool} {wf : FuncId → Bool} {n : Nat} {Q : Post} {s : Slots} {h : Heap} (id : Nat) {ops : Array Oper} {d : Bool} {x y : Code} (hh : Hold (awp P ow wf n (.seq (.seq (.region id ops d) x) y) Q s h)) : awp P ow wf n (.seq (.seq (.region id ops d) x) y) Q s h := hh.out
theorem a_cut {P : Program} {ow : Nat → Bool} {wf : FuncId → Bool} {n : Nat} {Q : Post} {s : Slots} {h : Heap} {a b : Code} (I : Slots → Heap → Prop) (h1 : awp P ow wf n a (Post.seq I Q) s h) (h2 : ∀ s h, I s h → awp P ow wf n b Q s h) : awp P ow wf n (.seq a b) Q s h := by
  simp only [awp]
  refine awp_mono a (fun e s h hh => ?_) h1
  cases e <;> simp only [Post.seq] at hh ⊢
  · exact h2 _ _ hh
  all_goals exact hh
end Go.Proofs.YtikhonogkpboaaaGreat
namespace Go.Proofs.YtikhonogkpboaaaGreat
open Go.AM
set_option maxHeartbeats 4000000
set_option maxRecDepth 20000
def heavyM (n : Int) : List Ch → Int
  | [] => n
  | c :: l => heavyM (IntKind.i64.wrap (n + IntKind.i64.wrap (IntKind.i64.wrap (IntKind.i64.wrap (IntKind.i64.wrap (1 + (c.params.length : Int)) + (c.args.length : Int)) + c.cond.size) + c.value.size))) l
theorem heavy_c {l : List Ch} (hl : Chs.ok l) (h : Heap) : PCall Tryz.prog 29 [.imm 15 (chRows l)] h fun r h' => r = .sc (.int .i64 (heavyM 0 l)) ∧ h' = h := by
  obtain ⟨hll, hlo⟩ := hl
  unfold bigN at hll
  have hlen := chRows_len l
  generalize hF : heavyM 0 l = F
  refine pcall_body (ow := fun _ => false) (wf := fun _ => false) Ty.mixed Tryz.func29 rfl Ty.hb_29 (by rw [Tryz.ntmps29]; simp) ?_
  rw [Tryz.ntmps29, Tryz.results29]
  repeat' (first
    | (refine a_seq (fun K hK => ?_))
    | (refine a_block ?_)
    | ((first | refine a_regionS ?_ | refine a_region (fun K hK => ?_) | refine a_ret ?_); simp (maxSteps := 2000000) only [undef, am0, am1, am2, am3, amb0, amb1, amb2, amb3, amb4, lwn, drn, callee, wantedB, isW, eff, pev, pst0, retPost, resAll, resP, resV, intP, mkV, putC, pbin, sbin, strsEq, peq, pint, pshift, pstr, pun, pconv, isShift, isConstB, app, subS, lay, rowsOf, lkV, keyKind, keyEq, mfind, mput, oInt, isZeroInt, forall_const, exists_eq_left', implies_true, IntKind.bits, ↓reduceIte, Nat.reduceEqDiff, Nat.reduceAdd, Nat.reduceSub, Nat.reduceMul, Nat.reduceLT, Nat.reduceLeDiff, Nat.reduceBEq, Int.reduceLE, Int.reduceLT, Int.reduceToNat, reduceCtorEq, Ty.all])
    | (refine a_skip ?_; try simp only [pst0, ↓reduceIte, Nat.reduceEqDiff])
    | (refine a_exit ?_; try simp only [pst0, ↓reduceIte, Nat.reduceEqDiff])
    | (refine a_cond _ (by (try simp (maxSteps := 2000000) only [undef, am0, am1, am2, am3, amb0, amb1, amb2, amb3, amb4, lwn, drn, callee, wantedB, isW, eff, pev, pst0, retPost, resAll, resP, resV, intP, mkV, putC, pbin, sbin, strsEq, peq, pint, pshift, pstr, pun, pconv, isShift, isConstB, app, subS, lay, rowsOf, lkV, keyKind, keyEq, mfind, mput, oInt, isZeroInt, forall_const, exists_eq_left', implies_true, IntKind.bits, ↓reduceIte, Nat.reduceEqDiff, Nat.reduceAdd, Nat.reduceSub, Nat.reduceMul, Nat.reduceLT, Nat.reduceLeDiff, Nat.reduceBEq, Int.reduceLE, Int.reduceLT, Int.reduceToNat, reduceCtorEq, Ty.all]); rfl) (fun hb => ?_) (fun hb => ?_) <;> (try simp only [hb0, decide_eq_true_eq, decide_eq_false_iff_not, reduceCtorEq] at hb) <;> (try (exfalso; omega)))
    | (with_reducible refine ite_in (fun hb => ?_) (fun hb => ?_) <;> (try simp only [Decidable.not_not] at hb) <;> (try simp only [hb, if_true, if_false, not_false_eq_true, not_true_eq_false, ↓reduceIte]) <;> (try simp only [hb0, decide_eq_true_eq, decide_eq_false_iff_not, reduceCtorEq] at hb) <;> (try (exfalso; omega)))
    | (refine hK _ _ ?_; clear hK; try simp only [pst0, ↓reduceIte, Nat.reduceEqDiff])
    | (clear hK; refine hK _ _ ?_; clear hK; try simp only [pst0, ↓reduceIte, Nat.reduceEqDiff])
    | (clear hK; clear hK; refine hK _ _ ?_; clear hK; try simp only [pst0, ↓reduceIte, Nat.reduceEqDiff])
    | (clear hK; clear hK; clear hK; refine hK _ _ ?_; clear hK; try simp only [pst0, ↓reduceIte, Nat.reduceEqDiff])
    | (rw [if_pos]; rotate_left 1; omega; simp (maxSteps := 2000000) only [undef, am0, am1, am2, am3, amb0, amb1, amb2, amb3, amb4, lwn, drn, callee, wantedB, isW, eff, pev, pst0, retPost, resAll, resP, resV, intP, mkV, putC, pbin, sbin, strsEq, peq, pint, pshift, pstr, pun, pconv, isShift, isConstB, app, subS, lay, rowsOf, lkV, keyKind, keyEq, mfind, mput, oInt, isZeroInt, forall_const, exists_eq_left', implies_true, IntKind.bits, ↓reduceIte, Nat.reduceEqDiff, Nat.reduceAdd, Nat.reduceSub, Nat.reduceMul, Nat.reduceLT, Nat.reduceLeDiff, Nat.reduceBEq, Int.reduceLE, Int.reduceLT, Int.reduceToNat, reduceCtorEq, Ty.all]))
  refine a_loop (fun c S h' => h' = h ∧ S 0 = .imm 15 (chRows l) ∧ ∃ (k : Nat) (n : Int), S 4 = .sc (.int .i64 k) ∧ S 3 = .sc (.int .i64 n) ∧ k ≤ l.length ∧ c = l.length - k ∧ F = heavyM n (l.drop k)) l.length ?_ ?_
  · simp only [undef, am0, am1, am2, am3, amb0, amb1, amb2, amb3, amb4, lwn, drn, callee, wantedB, isW, eff, pev, pst0, retPost, resAll, resP, resV, intP, mkV, putC, pbin, sbin, strsEq, peq, pint, pshift, pstr, pun, pconv, isShift, isConstB, app, subS, lay, rowsOf, lkV, keyKind, keyEq, mfind, mput, oInt, isZeroInt, forall_const, exists_eq_left', implies_true, IntKind.bits, ↓reduceIte, Nat.reduceEqDiff, Nat.reduceAdd, Nat.reduceSub, Nat.reduceMul, Nat.reduceLT, Nat.reduceLeDiff, Nat.reduceBEq, Int.reduceLE, Int.reduceLT, Int.reduceToNat, reduceCtorEq]
    exact ⟨0, 0, rfl, rfl, by omega, rfl, by rw [← hF]; try rfl⟩
  · clear hF
    rintro c S h' ⟨rfl, g0, k, n, g4, g3, hk, rfl, hinv⟩
    by_cases hlt : k < l.length
    · have hd : decide ((k : Int) < (l.length : Int)) = true := by simp; omega
      have w7 : IntKind.i64.wrap ((k : Int) + 1) = k + 1 := by rw [wrap64 (by omega) (by omega)]
      obtain ⟨a, hx⟩ : ∃ a, l[k]? = some a := ⟨_, List.getElem?_eq_getElem hlt⟩
      have hr := chRows_get hx
      have ha := hlo a (List.mem_of_getElem? hx)
      rw [drop_of_get hx] at hinv
      simp only [heavyM] at hinv
      have c1 := rsize_c a.cond ha.cond
      have c2 := rsizeE_c a.value ha.value
      have hp := pmRows_len a.params
      have hs := strRows_len a.args
      clear ha
      obtain ⟨kind, params, cond, name, args, value⟩ := a
      simp only at hinv c1 c2 hp hs
      generalize cond.size = s1 at hinv c1
      generalize value.size = s2 at hinv c2
      obtain ⟨fop, fna, far, fpa, fex, fki⟩ := cond
      obtain ⟨eop, ena, en, ear, eki⟩ := value
      simp only [chRow, Fm.cells, Ex.cells, List.cons_append, List.nil_append] at hr c1 c2
      repeat' (first
        | (refine a_seq (fun K hK => ?_))
        | (refine a_block ?_)
        | ((first | refine a_regionS ?_ | refine a_drawS (by decide +kernel) ?_ | refine a_region (fun K hK => ?_) | refine a_draw (by decide +kernel) (fun K hK => ?_) | refine a_ret ?_); simp (maxSteps := 2000000) only [undef, am0, am1, am2, am3, amb0, amb1, amb2, amb3, amb4, lwn, drn, callee, wantedB, isW, eff, pev, pst0, retPost, resAll, resP, resV, intP, mkV, putC, pbin, sbin, strsEq, peq, pint, pshift, pstr, pun, pconv, isShift, isConstB, app, subS, lay, rowsOf, lkV, keyKind, keyEq, mfind, mput, oInt, isZeroInt, forall_const, exists_eq_left', implies_true, IntKind.bits, ↓reduceIte, Nat.reduceEqDiff, Nat.reduceAdd, Nat.reduceSub, Nat.reduceMul, Nat.reduceLT, Nat.reduceLeDiff, Nat.reduceBEq, Int.reduceLE, Int.reduceLT, Int.reduceToNat, reduceCtorEq, Ty.all, g0, g3, g4, hlen, hd, hr, hp, hs])
        | (refine a_skip ?_; try simp only [pst0, ↓reduceIte, Nat.reduceEqDiff])
        | (refine a_exit ?_; try simp only [pst0, ↓reduceIte, Nat.reduceEqDiff])
        | (refine a_cond _ (by (try simp (maxSteps := 2000000) only [undef, am0, am1, am2, am3, amb0, amb1, amb2, amb3, amb4, lwn, drn, callee, wantedB, isW, eff, pev, pst0, retPost, resAll, resP, resV, intP, mkV, putC, pbin, sbin, strsEq, peq, pint, pshift, pstr, pun, pconv, isShift, isConstB, app, subS, lay, rowsOf, lkV, keyKind, keyEq, mfind, mput, oInt, isZeroInt, forall_const, exists_eq_left', implies_true, IntKind.bits, ↓reduceIte, Nat.reduceEqDiff, Nat.reduceAdd, Nat.reduceSub, Nat.reduceMul, Nat.reduceLT, Nat.reduceLeDiff, Nat.reduceBEq, Int.reduceLE, Int.reduceLT, Int.reduceToNat, reduceCtorEq, Ty.all, g0, g3, g4, hlen, hd, hr, hp, hs]); rfl) (fun hb => ?_) (fun hb => ?_) <;> (try simp only [hb0, decide_eq_true_eq, decide_eq_false_iff_not, reduceCtorEq] at hb) <;> (try (exfalso; omega)))
        | (with_reducible refine ite_in (fun hb => ?_) (fun hb => ?_) <;> (try simp only [Decidable.not_not] at hb) <;> (try simp only [hb, if_true, if_false, not_false_eq_true, not_true_eq_false, ↓reduceIte]) <;> (try simp only [hb0, decide_eq_true_eq, decide_eq_false_iff_not, reduceCtorEq] at hb) <;> (try (exfalso; omega)))
        | (refine hK _ _ ?_; clear hK; try simp only [pst0, ↓reduceIte, Nat.reduceEqDiff])
        | (clear hK; refine hK _ _ ?_; clear hK; try simp only [pst0, ↓reduceIte, Nat.reduceEqDiff])
        | (clear hK; clear hK; refine hK _ _ ?_; clear hK; try simp only [pst0, ↓reduceIte, Nat.reduceEqDiff])
        | (clear hK; clear hK; clear hK; refine hK _ _ ?_; clear hK; try simp only [pst0, ↓reduceIte, Nat.reduceEqDiff])
        | ((first | (with_reducible refine a_past _ rfl (by decide +kernel) ?_) | (with_reducible refine a_past2 (by simp only [List.forall_mem_cons, undef, am0, am1, am2, am3, amb0, amb1, amb2, amb3, amb4, lwn, drn, callee, wantedB, isW, eff, pev, pst0, retPost, resAll, resP, resV, intP, mkV, putC, pbin, sbin, strsEq, peq, pint, pshift, pstr, pun, pconv, isShift, isConstB, app, subS, lay, rowsOf, lkV, keyKind, keyEq, mfind, mput, oInt, isZeroInt, forall_const, exists_eq_left', implies_true, IntKind.bits, ↓reduceIte, Nat.reduceEqDiff, Nat.reduceAdd, Nat.reduceSub, Nat.reduceMul, Nat.reduceLT, Nat.reduceLeDiff, Nat.reduceBEq, Int.reduceLE, Int.reduceLT, Int.reduceToNat, reduceCtorEq, Ty.all, g0, g3, g4, hlen, hd, hr, hp, hs]; (repeat' apply And.intro) <;> first | trivial | exact .inl (by decide +kernel)) ?_)); try simp (maxSteps := 2000000) only [undef, am0, am1, am2, am3, amb0, amb1, amb2, amb3, amb4, lwn, drn, callee, wantedB, isW, eff, pev, pst0, retPost, resAll, resP, resV, intP, mkV, putC, pbin, sbin, strsEq, peq, pint, pshift, pstr, pun, pconv, isShift, isConstB, app, subS, lay, rowsOf, lkV, keyKind, keyEq, mfind, mput, oInt, isZeroInt, forall_const, exists_eq_left', implies_true, IntKind.bits, ↓reduceIte, Nat.reduceEqDiff, Nat.reduceAdd, Nat.reduceSub, Nat.reduceMul, Nat.reduceLT, Nat.reduceLeDiff, Nat.reduceBEq, Int.reduceLE, Int.reduceLT, Int.reduceToNat, reduceCtorEq, Ty.all, g0, g3, g4, hlen, hd, hr, hp, hs])
        | (rw [if_pos]; rotate_left 1; omega; simp (maxSteps := 2000000) only [undef, am0, am1, am2, am3, amb0, amb1, amb2, amb3, amb4, lwn, drn, callee, wantedB, isW, eff, pev, pst0, retPost, resAll, resP, resV, intP, mkV, putC, pbin, sbin, strsEq, peq, pint, pshift, pstr, pun, pconv, isShift, isConstB, app, subS, lay, rowsOf, lkV, keyKind, keyEq, mfind, mput, oInt, isZeroInt, forall_const, exists_eq_left', implies_true, IntKind.bits, ↓reduceIte, Nat.reduceEqDiff, Nat.reduceAdd, Nat.reduceSub, Nat.reduceMul, Nat.reduceLT, Nat.reduceLeDiff, Nat.reduceBEq, Int.reduceLE, Int.reduceLT, Int.reduceToNat, reduceCtorEq, Ty.all, g0, g3, g4, hlen, hd, hr, hp, hs]))
      first
        | refine a_dcall0 (c1 _) (by (try simp only [undef, am0, am1, am2, am3, amb0, amb1, amb2, amb3, amb4, lwn, drn, callee, wantedB, isW, eff, pev, pst0, retPost, resAll, resP, resV, intP, mkV, putC, pbin, sbin, strsEq, peq, pint, pshift, pstr, pun, pconv, isShift, isConstB, app, subS, lay, rowsOf, lkV, keyKind, keyEq, mfind, mput, oInt, isZeroInt, forall_const, exists_eq_left', implies_true, IntKind.bits, ↓reduceIte, Nat.reduceEqDiff, Nat.reduceAdd, Nat.reduceSub, Nat.reduceMul, Nat.reduceLT, Nat.reduceLeDiff, Nat.reduceBEq, Int.reduceLE, Int.reduceLT, Int.reduceToNat, reduceCtorEq, g0, g3, g4, hlen, hr, hp, hs]); try rfl) ?_
        | refine a_dcallA (c1 _) (by (try simp only [undef, am0, am1, am2, am3, amb0, amb1, amb2, amb3, amb4, lwn, drn, callee, wantedB, isW, eff, pev, pst0, retPost, resAll, resP, resV, intP, mkV, putC, pbin, sbin, strsEq, peq, pint, pshift, pstr, pun, pconv, isShift, isConstB, app, subS, lay, rowsOf, lkV, keyKind, keyEq, mfind, mput, oInt, isZeroInt, forall_const, exists_eq_left', implies_true, IntKind.bits, ↓reduceIte, Nat.reduceEqDiff, Nat.reduceAdd, Nat.reduceSub, Nat.reduceMul, Nat.reduceLT, Nat.reduceLeDiff, Nat.reduceBEq, Int.reduceLE, Int.reduceLT, Int.reduceToNat, reduceCtorEq, g0, g3, g4, hlen, hr, hp, hs]); try rfl) (by simp only [undef, am0, am1, am2, am3, amb0, amb1, amb2, amb3, amb4, lwn, drn, callee, wantedB, isW, eff, pev, pst0, retPost, resAll, resP, resV, intP, mkV, putC, pbin, sbin, strsEq, peq, pint, pshift, pstr, pun, pconv, isShift, isConstB, app, subS, lay, rowsOf, lkV, keyKind, keyEq, mfind, mput, oInt, isZeroInt, forall_const, exists_eq_left', implies_true, IntKind.bits, ↓reduceIte, Nat.reduceEqDiff, Nat.reduceAdd, Nat.reduceSub, Nat.reduceMul, Nat.reduceLT, Nat.reduceLeDiff, Nat.reduceBEq, Int.reduceLE, Int.reduceLT, Int.reduceToNat, reduceCtorEq, Ty.all, g0, g3, g4, hlen, hr, hp, hs]; try trivial) ?_
      simp (maxSteps := 2000000) only [undef, am0, am1, am2, am3, amb0, amb1, amb2, amb3, amb4, lwn, drn, callee, wantedB, isW, eff, pev, pst0, retPost, resAll, resP, resV, intP, mkV, putC, pbin, sbin, strsEq, peq, pint, pshift, pstr, pun, pconv, isShift, isConstB, app, subS, lay, rowsOf, lkV, keyKind, keyEq, mfind, mput, oInt, isZeroInt, forall_const, exists_eq_left', implies_true, IntKind.bits, ↓reduceIte, Nat.reduceEqDiff, Nat.reduceAdd, Nat.reduceSub, Nat.reduceMul, Nat.reduceLT, Nat.reduceLeDiff, Nat.reduceBEq, Int.reduceLE, Int.reduceLT, Int.reduceToNat, reduceCtorEq, Ty.all, Option.getD_some, g0, g3, g4, hlen, hr, hp, hs]
      repeat' (first
        | (refine a_seq (fun K hK => ?_))
        | (refine a_block ?_)
        | ((first | refine a_regionS ?_ | refine a_drawS (by decide +kernel) ?_ | refine a_region (fun K hK => ?_) | refine a_draw (by decide +kernel) (fun K hK => ?_) | refine a_ret ?_); simp (maxSteps := 2000000) only [undef, am0, am1, am2, am3, amb0, amb1, amb2, amb3, amb4, lwn, drn, callee, wantedB, isW, eff, pev, pst0, retPost, resAll, resP, resV, intP, mkV, putC, pbin, sbin, strsEq, peq, pint, pshift, pstr, pun, pconv, isShift, isConstB, app, subS, lay, rowsOf, lkV, keyKind, keyEq, mfind, mput, oInt, isZeroInt, forall_const, exists_eq_left', implies_true, IntKind.bits, ↓reduceIte, Nat.reduceEqDiff, Nat.reduceAdd, Nat.reduceSub, Nat.reduceMul, Nat.reduceLT, Nat.reduceLeDiff, Nat.reduceBEq, Int.reduceLE, Int.reduceLT, Int.reduceToNat, reduceCtorEq, Ty.all, g0, g3, g4, hlen, hr, hp, hs])
        | (refine a_skip ?_; try simp only [pst0, ↓reduceIte, Nat.reduceEqDiff])
        | (refine a_exit ?_; try simp only [pst0, ↓reduceIte, Nat.reduceEqDiff])
        | (refine a_cond _ (by (try simp (maxSteps := 2000000) only [undef, am0, am1, am2, am3, amb0, amb1, amb2, amb3, amb4, lwn, drn, callee, wantedB, isW, eff, pev, pst0, retPost, resAll, resP, resV, intP, mkV, putC, pbin, sbin, strsEq, peq, pint, pshift, pstr, pun, pconv, isShift, isConstB, app, subS, lay, rowsOf, lkV, keyKind, keyEq, mfind, mput, oInt, isZeroInt, forall_const, exists_eq_left', implies_true, IntKind.bits, ↓reduceIte, Nat.reduceEqDiff, Nat.reduceAdd, Nat.reduceSub, Nat.reduceMul, Nat.reduceLT, Nat.reduceLeDiff, Nat.reduceBEq, Int.reduceLE, Int.reduceLT, Int.reduceToNat, reduceCtorEq, Ty.all, g0, g3, g4, hlen, hr, hp, hs]); rfl) (fun hb => ?_) (fun hb => ?_) <;> (try simp only [hb0, decide_eq_true_eq, decide_eq_false_iff_not, reduceCtorEq] at hb) <;> (try (exfalso; omega)))
        | (with_reducible refine ite_in (fun hb => ?_) (fun hb => ?_) <;> (try simp only [Decidable.not_not] at hb) <;> (try simp only [hb, if_true, if_false, not_false_eq_true, not_true_eq_false, ↓reduceIte]) <;> (try simp only [hb0, decide_eq_true_eq, decide_eq_false_iff_not, reduceCtorEq] at hb) <;> (try (exfalso; omega)))
        | (refine hK _ _ ?_; clear hK; try simp only [pst0, ↓reduceIte, Nat.reduceEqDiff])
        | (clear hK; refine hK _ _ ?_; clear hK; try simp only [pst0, ↓reduceIte, Nat.reduceEqDiff])
        | (clear hK; clear hK; refine hK _ _ ?_; clear hK; try simp only [pst0, ↓reduceIte, Nat.reduceEqDiff])
        | (clear hK; clear hK; clear hK; refine hK _ _ ?_; clear hK; try simp only [pst0, ↓reduceIte, Nat.reduceEqDiff])
        | ((first | (with_reducible refine a_past _ rfl (by decide +kernel) ?_) | (with_reducible refine a_past2 (by simp only [List.forall_mem_cons, undef, am0, am1, am2, am3, amb0, amb1, amb2, amb3, amb4, lwn, drn, callee, wantedB, isW, eff, pev, pst0, retPost, resAll, resP, resV, intP, mkV, putC, pbin, sbin, strsEq, peq, pint, pshift, pstr, pun, pconv, isShift, isConstB, app, subS, lay, rowsOf, lkV, keyKind, keyEq, mfind, mput, oInt, isZeroInt, forall_const, exists_eq_left', implies_true, IntKind.bits, ↓reduceIte, Nat.reduceEqDiff, Nat.reduceAdd, Nat.reduceSub, Nat.reduceMul, Nat.reduceLT, Nat.reduceLeDiff, Nat.reduceBEq, Int.reduceLE, Int.reduceLT, Int.reduceToNat, reduceCtorEq, Ty.all, g0, g3, g4, hlen, hr, hp, hs]; (repeat' apply And.intro) <;> first | trivial | exact .inl (by decide +kernel)) ?_)); try simp (maxSteps := 2000000) only [undef, am0, am1, am2, am3, amb0, amb1, amb2, amb3, amb4, lwn, drn, callee, wantedB, isW, eff, pev, pst0, retPost, resAll, resP, resV, intP, mkV, putC, pbin, sbin, strsEq, peq, pint, pshift, pstr, pun, pconv, isShift, isConstB, app, subS, lay, rowsOf, lkV, keyKind, keyEq, mfind, mput, oInt, isZeroInt, forall_const, exists_eq_left', implies_true, IntKind.bits, ↓reduceIte, Nat.reduceEqDiff, Nat.reduceAdd, Nat.reduceSub, Nat.reduceMul, Nat.reduceLT, Nat.reduceLeDiff, Nat.reduceBEq, Int.reduceLE, Int.reduceLT, Int.reduceToNat, reduceCtorEq, Ty.all, g0, g3, g4, hlen, hr, hp, hs])
        | (rw [if_pos]; rotate_left 1; omega; simp (maxSteps := 2000000) only [undef, am0, am1, am2, am3, amb0, amb1, amb2, amb3, amb4, lwn, drn, callee, wantedB, isW, eff, pev, pst0, retPost, resAll, resP, resV, intP, mkV, putC, pbin, sbin, strsEq, peq, pint, pshift, pstr, pun, pconv, isShift, isConstB, app, subS, lay, rowsOf, lkV, keyKind, keyEq, mfind, mput, oInt, isZeroInt, forall_const, exists_eq_left', implies_true, IntKind.bits, ↓reduceIte, Nat.reduceEqDiff, Nat.reduceAdd, Nat.reduceSub, Nat.reduceMul, Nat.reduceLT, Nat.reduceLeDiff, Nat.reduceBEq, Int.reduceLE, Int.reduceLT, Int.reduceToNat, reduceCtorEq, Ty.all, g0, g3, g4, hlen, hr, hp, hs]))
      first
        | refine a_dcall0 (c2 _) (by (try simp only [undef, am0, am1, am2, am3, amb0, amb1, amb2, amb3, amb4, lwn, drn, callee, wantedB, isW, eff, pev, pst0, retPost, resAll, resP, resV, intP, mkV, putC, pbin, sbin, strsEq, peq, pint, pshift, pstr, pun, pconv, isShift, isConstB, app, subS, lay, rowsOf, lkV, keyKind, keyEq, mfind, mput, oInt, isZeroInt, forall_const, exists_eq_left', implies_true, IntKind.bits, ↓reduceIte, Nat.reduceEqDiff, Nat.reduceAdd, Nat.reduceSub, Nat.reduceMul, Nat.reduceLT, Nat.reduceLeDiff, Nat.reduceBEq, Int.reduceLE, Int.reduceLT, Int.reduceToNat, reduceCtorEq, g0, g3, g4, hlen, hr, hp, hs]); try rfl) ?_
        | refine a_dcallA (c2 _) (by (try simp only [undef, am0, am1, am2, am3, amb0, amb1, amb2, amb3, amb4, lwn, drn, callee, wantedB, isW, eff, pev, pst0, retPost, resAll, resP, resV, intP, mkV, putC, pbin, sbin, strsEq, peq, pint, pshift, pstr, pun, pconv, isShift, isConstB, app, subS, lay, rowsOf, lkV, keyKind, keyEq, mfind, mput, oInt, isZeroInt, forall_const, exists_eq_left', implies_true, IntKind.bits, ↓reduceIte, Nat.reduceEqDiff, Nat.reduceAdd, Nat.reduceSub, Nat.reduceMul, Nat.reduceLT, Nat.reduceLeDiff, Nat.reduceBEq, Int.reduceLE, Int.reduceLT, Int.reduceToNat, reduceCtorEq, g0, g3, g4, hlen, hr, hp, hs]); try rfl) (by simp only [undef, am0, am1, am2, am3, amb0, amb1, amb2, amb3, amb4, lwn, drn, callee, wantedB, isW, eff, pev, pst0, retPost, resAll, resP, resV, intP, mkV, putC, pbin, sbin, strsEq, peq, pint, pshift, pstr, pun, pconv, isShift, isConstB, app, subS, lay, rowsOf, lkV, keyKind, keyEq, mfind, mput, oInt, isZeroInt, forall_const, exists_eq_left', implies_true, IntKind.bits, ↓reduceIte, Nat.reduceEqDiff, Nat.reduceAdd, Nat.reduceSub, Nat.reduceMul, Nat.reduceLT, Nat.reduceLeDiff, Nat.reduceBEq, Int.reduceLE, Int.reduceLT, Int.reduceToNat, reduceCtorEq, Ty.all, g0, g3, g4, hlen, hr, hp, hs]; try trivial) ?_
      simp (maxSteps := 2000000) only [undef, am0, am1, am2, am3, amb0, amb1, amb2, amb3, amb4, lwn, drn, callee, wantedB, isW, eff, pev, pst0, retPost, resAll, resP, resV, intP, mkV, putC, pbin, sbin, strsEq, peq, pint, pshift, pstr, pun, pconv, isShift, isConstB, app, subS, lay, rowsOf, lkV, keyKind, keyEq, mfind, mput, oInt, isZeroInt, forall_const, exists_eq_left', implies_true, IntKind.bits, ↓reduceIte, Nat.reduceEqDiff, Nat.reduceAdd, Nat.reduceSub, Nat.reduceMul, Nat.reduceLT, Nat.reduceLeDiff, Nat.reduceBEq, Int.reduceLE, Int.reduceLT, Int.reduceToNat, reduceCtorEq, Ty.all, Option.getD_some, g0, g3, g4, hlen, hr, hp, hs]
      repeat' (first
        | (refine a_seq (fun K hK => ?_))
        | (refine a_block ?_)
        | ((first | refine a_regionS ?_ | refine a_drawS (by decide +kernel) ?_ | refine a_region (fun K hK => ?_) | refine a_draw (by decide +kernel) (fun K hK => ?_) | refine a_ret ?_); simp (maxSteps := 2000000) only [undef, am0, am1, am2, am3, amb0, amb1, amb2, amb3, amb4, lwn, drn, callee, wantedB, isW, eff, pev, pst0, retPost, resAll, resP, resV, intP, mkV, putC, pbin, sbin, strsEq, peq, pint, pshift, pstr, pun, pconv, isShift, isConstB, app, subS, lay, rowsOf, lkV, keyKind, keyEq, mfind, mput, oInt, isZeroInt, forall_const, exists_eq_left', implies_true, IntKind.bits, ↓reduceIte, Nat.reduceEqDiff, Nat.reduceAdd, Nat.reduceSub, Nat.reduceMul, Nat.reduceLT, Nat.reduceLeDiff, Nat.reduceBEq, Int.reduceLE, Int.reduceLT, Int.reduceToNat, reduceCtorEq, Ty.all, g0, g3, g4, hlen, hr, hp, hs, w7])
        | (refine a_skip ?_; try simp only [pst0, ↓reduceIte, Nat.reduceEqDiff])
        | (refine a_exit ?_; try simp only [pst0, ↓reduceIte, Nat.reduceEqDiff])
        | (refine a_cond _ (by (try simp (maxSteps := 2000000) only [undef, am0, am1, am2, am3, amb0, amb1, amb2, amb3, amb4, lwn, drn, callee, wantedB, isW, eff, pev, pst0, retPost, resAll, resP, resV, intP, mkV, putC, pbin, sbin, strsEq, peq, pint, pshift, pstr, pun, pconv, isShift, isConstB, app, subS, lay, rowsOf, lkV, keyKind, keyEq, mfind, mput, oInt, isZeroInt, forall_const, exists_eq_left', implies_true, IntKind.bits, ↓reduceIte, Nat.reduceEqDiff, Nat.reduceAdd, Nat.reduceSub, Nat.reduceMul, Nat.reduceLT, Nat.reduceLeDiff, Nat.reduceBEq, Int.reduceLE, Int.reduceLT, Int.reduceToNat, reduceCtorEq, Ty.all, g0, g3, g4, hlen, hr, hp, hs, w7]); rfl) (fun hb => ?_) (fun hb => ?_) <;> (try simp only [hb0, decide_eq_true_eq, decide_eq_false_iff_not, reduceCtorEq] at hb) <;> (try (exfalso; omega)))
        | (with_reducible refine ite_in (fun hb => ?_) (fun hb => ?_) <;> (try simp only [Decidable.not_not] at hb) <;> (try simp only [hb, if_true, if_false, not_false_eq_true, not_true_eq_false, ↓reduceIte]) <;> (try simp only [hb0, decide_eq_true_eq, decide_eq_false_iff_not, reduceCtorEq] at hb) <;> (try (exfalso; omega)))
        | (refine hK _ _ ?_; clear hK; try simp only [pst0, ↓reduceIte, Nat.reduceEqDiff])
        | (clear hK; refine hK _ _ ?_; clear hK; try simp only [pst0, ↓reduceIte, Nat.reduceEqDiff])
        | (clear hK; clear hK; refine hK _ _ ?_; clear hK; try simp only [pst0, ↓reduceIte, Nat.reduceEqDiff])
        | (clear hK; clear hK; clear hK; refine hK _ _ ?_; clear hK; try simp only [pst0, ↓reduceIte, Nat.reduceEqDiff])
        | ((first | (with_reducible refine a_past _ rfl (by decide +kernel) ?_) | (with_reducible refine a_past2 (by simp only [List.forall_mem_cons, undef, am0, am1, am2, am3, amb0, amb1, amb2, amb3, amb4, lwn, drn, callee, wantedB, isW, eff, pev, pst0, retPost, resAll, resP, resV, intP, mkV, putC, pbin, sbin, strsEq, peq, pint, pshift, pstr, pun, pconv, isShift, isConstB, app, subS, lay, rowsOf, lkV, keyKind, keyEq, mfind, mput, oInt, isZeroInt, forall_const, exists_eq_left', implies_true, IntKind.bits, ↓reduceIte, Nat.reduceEqDiff, Nat.reduceAdd, Nat.reduceSub, Nat.reduceMul, Nat.reduceLT, Nat.reduceLeDiff, Nat.reduceBEq, Int.reduceLE, Int.reduceLT, Int.reduceToNat, reduceCtorEq, Ty.all, g0, g3, g4, hlen, hr, hp, hs, w7]; (repeat' apply And.intro) <;> first | trivial | exact .inl (by decide +kernel)) ?_)); try simp (maxSteps := 2000000) only [undef, am0, am1, am2, am3, amb0, amb1, amb2, amb3, amb4, lwn, drn, callee, wantedB, isW, eff, pev, pst0, retPost, resAll, resP, resV, intP, mkV, putC, pbin, sbin, strsEq, peq, pint, pshift, pstr, pun, pconv, isShift, isConstB, app, subS, lay, rowsOf, lkV, keyKind, keyEq, mfind, mput, oInt, isZeroInt, forall_const, exists_eq_left', implies_true, IntKind.bits, ↓reduceIte, Nat.reduceEqDiff, Nat.reduceAdd, Nat.reduceSub, Nat.reduceMul, Nat.reduceLT, Nat.reduceLeDiff, Nat.reduceBEq, Int.reduceLE, Int.reduceLT, Int.reduceToNat, reduceCtorEq, Ty.all, g0, g3, g4, hlen, hr, hp, hs, w7])
        | (rw [if_pos]; rotate_left 1; omega; simp (maxSteps := 2000000) only [undef, am0, am1, am2, am3, amb0, amb1, amb2, amb3, amb4, lwn, drn, callee, wantedB, isW, eff, pev, pst0, retPost, resAll, resP, resV, intP, mkV, putC, pbin, sbin, strsEq, peq, pint, pshift, pstr, pun, pconv, isShift, isConstB, app, subS, lay, rowsOf, lkV, keyKind, keyEq, mfind, mput, oInt, isZeroInt, forall_const, exists_eq_left', implies_true, IntKind.bits, ↓reduceIte, Nat.reduceEqDiff, Nat.reduceAdd, Nat.reduceSub, Nat.reduceMul, Nat.reduceLT, Nat.reduceLeDiff, Nat.reduceBEq, Int.reduceLE, Int.reduceLT, Int.reduceToNat, reduceCtorEq, Ty.all, g0, g3, g4, hlen, hr, hp, hs, w7]))
      exact ⟨l.length - (k + 1), by omega, k + 1, _, by simp, rfl, by omega, rfl, hinv⟩
    · have hd : decide ((k : Int) < (l.length : Int)) = false := by simp; omega
      rw [List.drop_eq_nil_of_le (by omega)] at hinv
      simp only [heavyM] at hinv
      repeat' (first
        | (refine a_seq (fun K hK => ?_))
        | (refine a_block ?_)
        | ((first | refine a_regionS ?_ | refine a_region (fun K hK => ?_) | refine a_ret ?_); simp (maxSteps := 2000000) only [undef, am0, am1, am2, am3, amb0, amb1, amb2, amb3, amb4, lwn, drn, callee, wantedB, isW, eff, pev, pst0, retPost, resAll, resP, resV, intP, mkV, putC, pbin, sbin, strsEq, peq, pint, pshift, pstr, pun, pconv, isShift, isConstB, app, subS, lay, rowsOf, lkV, keyKind, keyEq, mfind, mput, oInt, isZeroInt, forall_const, exists_eq_left', implies_true, IntKind.bits, ↓reduceIte, Nat.reduceEqDiff, Nat.reduceAdd, Nat.reduceSub, Nat.reduceMul, Nat.reduceLT, Nat.reduceLeDiff, Nat.reduceBEq, Int.reduceLE, Int.reduceLT, Int.reduceToNat, reduceCtorEq, Ty.all, g0, g3, g4, hlen, hd])
        | (refine a_skip ?_; try simp only [pst0, ↓reduceIte, Nat.reduceEqDiff])
        | (refine a_exit ?_; try simp only [pst0, ↓reduceIte, Nat.reduceEqDiff])
        | (refine a_cond _ (by (try simp (maxSteps := 2000000) only [undef, am0, am1, am2, am3, amb0, amb1, amb2, amb3, amb4, lwn, drn, callee, wantedB, isW, eff, pev, pst0, retPost, resAll, resP, resV, intP, mkV, putC, pbin, sbin, strsEq, peq, pint, pshift, pstr, pun, pconv, isShift, isConstB, app, subS, lay, rowsOf, lkV, keyKind, keyEq, mfind, mput, oInt, isZeroInt, forall_const, exists_eq_left', implies_true, IntKind.bits, ↓reduceIte, Nat.reduceEqDiff, Nat.reduceAdd, Nat.reduceSub, Nat.reduceMul, Nat.reduceLT, Nat.reduceLeDiff, Nat.reduceBEq, Int.reduceLE, Int.reduceLT, Int.reduceToNat, reduceCtorEq, Ty.all, g0, g3, g4, hlen, hd]); rfl) (fun hb => ?_) (fun hb => ?_) <;> (try simp only [hb0, decide_eq_true_eq, decide_eq_false_iff_not, reduceCtorEq] at hb) <;> (try (exfalso; omega)))
        | (with_reducible refine ite_in (fun hb => ?_) (fun hb => ?_) <;> (try simp only [Decidable.not_not] at hb) <;> (try simp only [hb, if_true, if_false, not_false_eq_true, not_true_eq_false, ↓reduceIte]) <;> (try simp only [hb0, decide_eq_true_eq, decide_eq_false_iff_not, reduceCtorEq] at hb) <;> (try (exfalso; omega)))
        | (refine hK _ _ ?_; clear hK; try simp only [pst0, ↓reduceIte, Nat.reduceEqDiff])
        | (clear hK; refine hK _ _ ?_; clear hK; try simp only [pst0, ↓reduceIte, Nat.reduceEqDiff])
        | (clear hK; clear hK; refine hK _ _ ?_; clear hK; try simp only [pst0, ↓reduceIte, Nat.reduceEqDiff])
        | (clear hK; clear hK; clear hK; refine hK _ _ ?_; clear hK; try simp only [pst0, ↓reduceIte, Nat.reduceEqDiff])
        | (rw [if_pos]; rotate_left 1; omega; simp (maxSteps := 2000000) only [undef, am0, am1, am2, am3, amb0, amb1, amb2, amb3, amb4, lwn, drn, callee, wantedB, isW, eff, pev, pst0, retPost, resAll, resP, resV, intP, mkV, putC, pbin, sbin, strsEq, peq, pint, pshift, pstr, pun, pconv, isShift, isConstB, app, subS, lay, rowsOf, lkV, keyKind, keyEq, mfind, mput, oInt, isZeroInt, forall_const, exists_eq_left', implies_true, IntKind.bits, ↓reduceIte, Nat.reduceEqDiff, Nat.reduceAdd, Nat.reduceSub, Nat.reduceMul, Nat.reduceLT, Nat.reduceLeDiff, Nat.reduceBEq, Int.reduceLE, Int.reduceLT, Int.reduceToNat, reduceCtorEq, Ty.all, g0, g3, g4, hlen, hd]))
      all_goals rw [hinv]
def actsM (n : Int) : List Ac → Int
  | [] => n
  | a :: l => actsM (IntKind.i64.wrap (n + IntKind.i64.wrap (IntKind.i64.wrap (1 + a.pre.size) + heavyM 0 a.changes))) l
def dursM (n : Int) : List Du → Int
  | [] => n
  | a :: l => dursM (IntKind.i64.wrap (n + IntKind.i64.wrap (IntKind.i64.wrap (IntKind.i64.wrap (IntKind.i64.wrap (IntKind.i64.wrap (1 + a.start.size) + a.over.size) + a.stop.size) + heavyM 0 a.atStart) + heavyM 0 a.atStop))) l
def largeD (d : Dm) : Bool := decide (dursM (actsM (IntKind.i64.wrap (IntKind.i64.wrap (IntKind.i64.wrap ((d.types.length : Int) + d.constants.length) + d.predicates.length) + d.functions.length)) d.actions) d.duratives > 3000)
theorem dlarge_c (d : Dm) (hd0 : d.ok) (h : Heap) : PCall Tryz.prog 13 [.agg d.cells] h fun r h' => r = .sc (.bool (largeD d)) ∧ h' = h := by
  obtain ⟨_, _, _, _, _, ⟨hal, hao⟩, ⟨hul, huo⟩⟩ := hd0
  obtain ⟨name, types, constants, predicates, functions, actions, duratives⟩ := d
  simp only at hal hao hul huo
  refine PCall.quiet Ty.hb_13 ?_
  unfold largeD
  simp only
  have l1 := pmRows_len types
  have l2 := pmRows_len constants
  have l3 := prRows_len predicates
  have l4 := fuRows_len functions
  have l5 := acRows_len actions
  have l6 := duRows_len duratives
  unfold bigN at hal hul
  generalize hN0 : IntKind.i64.wrap (IntKind.i64.wrap (IntKind.i64.wrap ((types.length : Int) + constants.length) + predicates.length) + functions.length) = n0
  generalize hNA : actsM n0 actions = nA
  generalize hNV : dursM nA duratives = nV
  have hC : (Dm.mk name types constants predicates functions actions duratives).cells = [sPV name, .imm 2 (pmRows types), .imm 2 (pmRows constants), .imm 2 (prRows predicates), .imm 4 (fuRows functions), .imm 10 (acRows actions), .imm 23 (duRows duratives)] := rfl
  rw [hC]
  refine pcall_body (ow := fun _ => false) (wf := fun _ => false) Ty.mixed Tryz.func13 rfl Ty.hb_13 (by rw [Tryz.ntmps13]; simp) ?_
  rw [Tryz.ntmps13, Tryz.results13]
  repeat' (first | (with_reducible refine a_hold 2 ?_) | (first
    | (refine a_seq (fun K hK => ?_))
    | (refine a_block ?_)
    | ((first | refine a_regionS ?_ | refine a_region (fun K hK => ?_) | refine a_ret ?_); simp (maxSteps := 2000000) only [undef, am0, am1, am2, am3, amb0, amb1, amb2, amb3, amb4, lwn, drn, callee, wantedB, isW, eff, pev, pst0, retPost, resAll, resP, resV, intP, mkV, putC, pbin, sbin, strsEq, peq, pint, pshift, pstr, pun, pconv, isShift, isConstB, app, subS, lay, rowsOf, lkV, keyKind, keyEq, mfind, mput, oInt, isZeroInt, forall_const, exists_eq_left', implies_true, IntKind.bits, ↓reduceIte, Nat.reduceEqDiff, Nat.reduceAdd, Nat.reduceSub, Nat.reduceMul, Nat.reduceLT, Nat.reduceLeDiff, Nat.reduceBEq, Int.reduceLE, Int.reduceLT, Int.reduceToNat, reduceCtorEq, Ty.all, l1, l2, l3, l4, hN0])
    | (refine a_skip ?_; try simp only [pst0, ↓reduceIte, Nat.reduceEqDiff])
    | (refine a_exit ?_; try simp only [pst0, ↓reduceIte, Nat.reduceEqDiff])
    | (refine a_cond _ (by (try simp (maxSteps := 2000000) only [undef, am0, am1, am2, am3, amb0, amb1, amb2, amb3, amb4, lwn, drn, callee, wantedB, isW, eff, pev, pst0, retPost, resAll, resP, resV, intP, mkV, putC, pbin, sbin, strsEq, peq, pint, pshift, pstr, pun, pconv, isShift, isConstB, app, subS, lay, rowsOf, lkV, keyKind, keyEq, mfind, mput, oInt, isZeroInt, forall_const, exists_eq_left', implies_true, IntKind.bits, ↓reduceIte, Nat.reduceEqDiff, Nat.reduceAdd, Nat.reduceSub, Nat.reduceMul, Nat.reduceLT, Nat.reduceLeDiff, Nat.reduceBEq, Int.reduceLE, Int.reduceLT, Int.reduceToNat, reduceCtorEq, Ty.all, l1, l2, l3, l4, hN0]); rfl) (fun hb => ?_) (fun hb => ?_) <;> (try simp only [hb0, decide_eq_true_eq, decide_eq_false_iff_not, reduceCtorEq] at hb) <;> (try (exfalso; omega)))
    | (with_reducible refine ite_in (fun hb => ?_) (fun hb => ?_) <;> (try simp only [Decidable.not_not] at hb) <;> (try simp only [hb, if_true, if_false, not_false_eq_true, not_true_eq_false, ↓reduceIte]) <;> (try simp only [hb0, decide_eq_true_eq, decide_eq_false_iff_not, reduceCtorEq] at hb) <;> (try (exfalso; omega)))
    | (refine hK _ _ ?_; clear hK; try simp only [pst0, ↓reduceIte, Nat.reduceEqDiff])
    | (clear hK; refine hK _ _ ?_; clear hK; try simp only [pst0, ↓reduceIte, Nat.reduceEqDiff])
    | (clear hK; clear hK; refine hK _ _ ?_; clear hK; try simp only [pst0, ↓reduceIte, Nat.reduceEqDiff])
    | (clear hK; clear hK; clear hK; refine hK _ _ ?_; clear hK; try simp only [pst0, ↓reduceIte, Nat.reduceEqDiff])
    | (rw [if_pos]; rotate_left 1; omega; simp (maxSteps := 2000000) only [undef, am0, am1, am2, am3, amb0, amb1, amb2, amb3, amb4, lwn, drn, callee, wantedB, isW, eff, pev, pst0, retPost, resAll, resP, resV, intP, mkV, putC, pbin, sbin, strsEq, peq, pint, pshift, pstr, pun, pconv, isShift, isConstB, app, subS, lay, rowsOf, lkV, keyKind, keyEq, mfind, mput, oInt, isZeroInt, forall_const, exists_eq_left', implies_true, IntKind.bits, ↓reduceIte, Nat.reduceEqDiff, Nat.reduceAdd, Nat.reduceSub, Nat.reduceMul, Nat.reduceLT, Nat.reduceLeDiff, Nat.reduceBEq, Int.reduceLE, Int.reduceLT, Int.reduceToNat, reduceCtorEq, Ty.all, l1, l2, l3, l4, hN0])))
  refine ⟨?_⟩
  refine a_cut (fun S h' => h' = h ∧ S 1 = .cptr (Dm.mk name types constants predicates functions actions duratives).cells ∧ S 3 = .sc (.int .i64 nA)) ?_ ?_
  · rw [hC]
    repeat' (first
      | (refine a_seq (fun K hK => ?_))
      | (refine a_block ?_)
      | ((first | refine a_regionS ?_ | refine a_region (fun K hK => ?_) | refine a_ret ?_); simp (maxSteps := 2000000) only [undef, am0, am1, am2, am3, amb0, amb1, amb2, amb3, amb4, lwn, drn, callee, wantedB, isW, eff, pev, pst0, retPost, resAll, resP, resV, intP, mkV, putC, pbin, sbin, strsEq, peq, pint, pshift, pstr, pun, pconv, isShift, isConstB, app, subS, lay, rowsOf, lkV, keyKind, keyEq, mfind, mput, oInt, isZeroInt, forall_const, exists_eq_left', implies_true, IntKind.bits, ↓reduceIte, Nat.reduceEqDiff, Nat.reduceAdd, Nat.reduceSub, Nat.reduceMul, Nat.reduceLT, Nat.reduceLeDiff, Nat.reduceBEq, Int.reduceLE, Int.reduceLT, Int.reduceToNat, reduceCtorEq, Ty.all])
      | (refine a_skip ?_; try simp only [pst0, ↓reduceIte, Nat.reduceEqDiff])
      | (refine a_exit ?_; try simp only [pst0, ↓reduceIte, Nat.reduceEqDiff])
      | (refine a_cond _ (by (try simp (maxSteps := 2000000) only [undef, am0, am1, am2, am3, amb0, amb1, amb2, amb3, amb4, lwn, drn, callee, wantedB, isW, eff, pev, pst0, retPost, resAll, resP, resV, intP, mkV, putC, pbin, sbin, strsEq, peq, pint, pshift, pstr, pun, pconv, isShift, isConstB, app, subS, lay, rowsOf, lkV, keyKind, keyEq, mfind, mput, oInt, isZeroInt, forall_const, exists_eq_left', implies_true, IntKind.bits, ↓reduceIte, Nat.reduceEqDiff, Nat.reduceAdd, Nat.reduceSub, Nat.reduceMul, Nat.reduceLT, Nat.reduceLeDiff, Nat.reduceBEq, Int.reduceLE, Int.reduceLT, Int.reduceToNat, reduceCtorEq, Ty.all]); rfl) (fun hb => ?_) (fun hb => ?_) <;> (try simp only [hb0, decide_eq_true_eq, decide_eq_false_iff_not, reduceCtorEq] at hb) <;> (try (exfalso; omega)))
      | (with_reducible refine ite_in (fun hb => ?_) (fun hb => ?_) <;> (try simp only [Decidable.not_not] at hb) <;> (try simp only [hb, if_true, if_false, not_false_eq_true, not_true_eq_false, ↓reduceIte]) <;> (try simp only [hb0, decide_eq_true_eq, decide_eq_false_iff_not, reduceCtorEq] at hb) <;> (try (exfalso; omega)))
      | (refine hK _ _ ?_; clear hK; try simp only [pst0, ↓reduceIte, Nat.reduceEqDiff])
      | (clear hK; refine hK _ _ ?_; clear hK; try simp only [pst0, ↓reduceIte, Nat.reduceEqDiff])
      | (clear hK; clear hK; refine hK _ _ ?_; clear hK; try simp only [pst0, ↓reduceIte, Nat.reduceEqDiff])
      | (clear hK; clear hK; clear hK; refine hK _ _ ?_; clear hK; try simp only [pst0, ↓reduceIte, Nat.reduceEqDiff])
      | (rw [if_pos]; rotate_left 1; omega; simp (maxSteps := 2000000) only [undef, am0, am1, am2, am3, amb0, amb1, amb2, amb3, amb4, lwn, drn, callee, wantedB, isW, eff, pev, pst0, retPost, resAll, resP, resV, intP, mkV, putC, pbin, sbin, strsEq, peq, pint, pshift, pstr, pun, pconv, isShift, isConstB, app, subS, lay, rowsOf, lkV, keyKind, keyEq, mfind, mput, oInt, isZeroInt, forall_const, exists_eq_left', implies_true, IntKind.bits, ↓reduceIte, Nat.reduceEqDiff, Nat.reduceAdd, Nat.reduceSub, Nat.reduceMul, Nat.reduceLT, Nat.reduceLeDiff, Nat.reduceBEq, Int.reduceLE, Int.reduceLT, Int.reduceToNat, reduceCtorEq, Ty.all]))
    refine a_loop (fun c S h' => h' = h ∧ S 1 = .cptr (Dm.mk name types constants predicates functions actions duratives).cells ∧ ∃ (k : Nat) (n : Int), S 4 = .sc (.int .i64 k) ∧ S 3 = .sc (.int .i64 n) ∧ k ≤ actions.length ∧ c = actions.length - k ∧ nA = actsM n (actions.drop k)) actions.length ?_ ?_
    · simp only [undef, am0, am1, am2, am3, amb0, amb1, amb2, amb3, amb4, lwn, drn, callee, wantedB, isW, eff, pev, pst0, retPost, resAll, resP, resV, intP, mkV, putC, pbin, sbin, strsEq, peq, pint, pshift, pstr, pun, pconv, isShift, isConstB, app, subS, lay, rowsOf, lkV, keyKind, keyEq, mfind, mput, oInt, isZeroInt, forall_const, exists_eq_left', implies_true, IntKind.bits, ↓reduceIte, Nat.reduceEqDiff, Nat.reduceAdd, Nat.reduceSub, Nat.reduceMul, Nat.reduceLT, Nat.reduceLeDiff, Nat.reduceBEq, Int.reduceLE, Int.reduceLT, Int.reduceToNat, reduceCtorEq, hC]
      exact ⟨0, n0, rfl, rfl, by omega, rfl, by rw [← hNA]; try rfl⟩
    · rintro c S h' ⟨rfl, g1, k, n, g4, g3, hk, rfl, hinv⟩
      rw [hC] at g1
      by_cases hlt : k < actions.length
      · have hd : decide ((k : Int) < (actions.length : Int)) = true := by simp; omega
        have w7 : IntKind.i64.wrap ((k : Int) + 1) = k + 1 := by rw [wrap64 (by omega) (by omega)]
        obtain ⟨a, hx⟩ : ∃ a, actions[k]? = some a := ⟨_, List.getElem?_eq_getElem hlt⟩
        have hr := acRows_get hx
        have ha := hao a (List.mem_of_getElem? hx)
        rw [drop_of_get hx] at hinv
        simp only [actsM] at hinv
        have c1 := rsize_c a.pre ha.pre
        have c2 := fun h : Heap => heavy_c ha.changes h
        clear ha
        obtain ⟨aname, aparams, acost, pre, changes⟩ := a
        simp only at hinv c1 c2
        generalize pre.size = s1 at hinv c1
        generalize heavyM 0 changes = s2 at hinv c2
        obtain ⟨fop, fna, far, fpa, fex, fki⟩ := pre
        simp only [acRow, Fm.cells, List.cons_append, List.nil_append] at hr c1
        repeat' (first
          | (refine a_seq (fun K hK => ?_))
          | (refine a_block ?_)
          | ((first | refine a_regionS ?_ | refine a_drawS (by decide +kernel) ?_ | refine a_region (fun K hK => ?_) | refine a_draw (by decide +kernel) (fun K hK => ?_) | refine a_ret ?_); simp (maxSteps := 2000000) only [undef, am0, am1, am2, am3, amb0, amb1, amb2, amb3, amb4, lwn, drn, callee, wantedB, isW, eff, pev, pst0, retPost, resAll, resP, resV, intP, mkV, putC, pbin, sbin, strsEq, peq, pint, pshift, pstr, pun, pconv, isShift, isConstB, app, subS, lay, rowsOf, lkV, keyKind, keyEq, mfind, mput, oInt, isZeroInt, forall_const, exists_eq_left', implies_true, IntKind.bits, ↓reduceIte, Nat.reduceEqDiff, Nat.reduceAdd, Nat.reduceSub, Nat.reduceMul, Nat.reduceLT, Nat.reduceLeDiff, Nat.reduceBEq, Int.reduceLE, Int.reduceLT, Int.reduceToNat, reduceCtorEq, Ty.all, g1, g3, g4, l5, hd, hr])
          | (refine a_skip ?_; try simp only [pst0, ↓reduceIte, Nat.reduceEqDiff])
          | (refine a_exit ?_; try simp only [pst0, ↓reduceIte, Nat.reduceEqDiff])
          | (refine a_cond _ (by (try simp (maxSteps := 2000000) only [undef, am0, am1, am2, am3, amb0, amb1, amb2, amb3, amb4, lwn, drn, callee, wantedB, isW, eff, pev, pst0, retPost, resAll, resP, resV, intP, mkV, putC, pbin, sbin, strsEq, peq, pint, pshift, pstr, pun, pconv, isShift, isConstB, app, subS, lay, rowsOf, lkV, keyKind, keyEq, mfind, mput, oInt, isZeroInt, forall_const, exists_eq_left', implies_true, IntKind.bits, ↓reduceIte, Nat.reduceEqDiff, Nat.reduceAdd, Nat.reduceSub, Nat.reduceMul, Nat.reduceLT, Nat.reduceLeDiff, Nat.reduceBEq, Int.reduceLE, Int.reduceLT, Int.reduceToNat, reduceCtorEq, Ty.all, g1, g3, g4, l5, hd, hr]); rfl) (fun hb => ?_) (fun hb => ?_) <;> (try simp only [hb0, decide_eq_true_eq, decide_eq_false_iff_not, reduceCtorEq] at hb) <;> (try (exfalso; omega)))
          | (with_reducible refine ite_in (fun hb => ?_) (fun hb => ?_) <;> (try simp only [Decidable.not_not] at hb) <;> (try simp only [hb, if_true, if_false, not_false_eq_true, not_true_eq_false, ↓reduceIte]) <;> (try simp only [hb0, decide_eq_true_eq, decide_eq_false_iff_not, reduceCtorEq] at hb) <;> (try (exfalso; omega)))
          | (refine hK _ _ ?_; clear hK; try simp only [pst0, ↓reduceIte, Nat.reduceEqDiff])
          | (clear hK; refine hK _ _ ?_; clear hK; try simp only [pst0, ↓reduceIte, Nat.reduceEqDiff])
          | (clear hK; clear hK; refine hK _ _ ?_; clear hK; try simp only [pst0, ↓reduceIte, Nat.reduceEqDiff])
          | (clear hK; clear hK; clear hK; refine hK _ _ ?_; clear hK; try simp only [pst0, ↓reduceIte, Nat.reduceEqDiff])
          | ((first | (with_reducible refine a_past _ rfl (by decide +kernel) ?_) | (with_reducible refine a_past2 (by simp only [List.forall_mem_cons, undef, am0, am1, am2, am3, amb0, amb1, amb2, amb3, amb4, lwn, drn, callee, wantedB, isW, eff, pev, pst0, retPost, resAll, resP, resV, intP, mkV, putC, pbin, sbin, strsEq, peq, pint, pshift, pstr, pun, pconv, isShift, isConstB, app, subS, lay, rowsOf, lkV, keyKind, keyEq, mfind, mput, oInt, isZeroInt, forall_const, exists_eq_left', implies_true, IntKind.bits, ↓reduceIte, Nat.reduceEqDiff, Nat.reduceAdd, Nat.reduceSub, Nat.reduceMul, Nat.reduceLT, Nat.reduceLeDiff, Nat.reduceBEq, Int.reduceLE, Int.reduceLT, Int.reduceToNat, reduceCtorEq, Ty.all, g1, g3, g4, l5, hd, hr]; (repeat' apply And.intro) <;> first | trivial | exact .inl (by decide +kernel)) ?_)); try simp (maxSteps := 2000000) only [undef, am0, am1, am2, am3, amb0, amb1, amb2, amb3, amb4, lwn, drn, callee, wantedB, isW, eff, pev, pst0, retPost, resAll, resP, resV, intP, mkV, putC, pbin, sbin, strsEq, peq, pint, pshift, pstr, pun, pconv, isShift, isConstB, app, subS, lay, rowsOf, lkV, keyKind, keyEq, mfind, mput, oInt, isZeroInt, forall_const, exists_eq_left', implies_true, IntKind.bits, ↓reduceIte, Nat.reduceEqDiff, Nat.reduceAdd, Nat.reduceSub, Nat.reduceMul, Nat.reduceLT, Nat.reduceLeDiff, Nat.reduceBEq, Int.reduceLE, Int.reduceLT, Int.reduceToNat, reduceCtorEq, Ty.all, g1, g3, g4, l5, hd, hr])
          | (rw [if_pos]; rotate_left 1; omega; simp (maxSteps := 2000000) only [undef, am0, am1, am2, am3, amb0, amb1, amb2, amb3, amb4, lwn, drn, callee, wantedB, isW, eff, pev, pst0, retPost, resAll, resP, resV, intP, mkV, putC, pbin, sbin, strsEq, peq, pint, pshift, pstr, pun, pconv, isShift, isConstB, app, subS, lay, rowsOf, lkV, keyKind, keyEq, mfind, mput, oInt, isZeroInt, forall_const, exists_eq_left', implies_true, IntKind.bits, ↓reduceIte, Nat.reduceEqDiff, Nat.reduceAdd, Nat.reduceSub, Nat.reduceMul, Nat.reduceLT, Nat.reduceLeDiff, Nat.reduceBEq, Int.reduceLE, Int.reduceLT, Int.reduceToNat, reduceCtorEq, Ty.all, g1, g3, g4, l5, hd, hr]))
        first
          | refine a_dcall0 (c1 _) (by (try simp only [undef, am0, am1, am2, am3, amb0, amb1, amb2, amb3, amb4, lwn, drn, callee, wantedB, isW, eff, pev, pst0, retPost, resAll, resP, resV, intP, mkV, putC, pbin, sbin, strsEq, peq, pint, pshift, pstr, pun, pconv, isShift, isConstB, app, subS, lay, rowsOf, lkV, keyKind, keyEq, mfind, mput, oInt, isZeroInt, forall_const, exists_eq_left', implies_true, IntKind.bits, ↓reduceIte, Nat.reduceEqDiff, Nat.reduceAdd, Nat.reduceSub, Nat.reduceMul, Nat.reduceLT, Nat.reduceLeDiff, Nat.reduceBEq, Int.reduceLE, Int.reduceLT, Int.reduceToNat, reduceCtorEq, g1, g3, g4, l5, hr]); try rfl) ?_
          | refine a_dcallA (c1 _) (by (try simp only [undef, am0, am1, am2, am3, amb0, amb1, amb2, amb3, amb4, lwn, drn, callee, wantedB, isW, eff, pev, pst0, retPost, resAll, resP, resV, intP, mkV, putC, pbin, sbin, strsEq, peq, pint, pshift, pstr, pun, pconv, isShift, isConstB, app, subS, lay, rowsOf, lkV, keyKind, keyEq, mfind, mput, oInt, isZeroInt, forall_const, exists_eq_left', implies_true, IntKind.bits, ↓reduceIte, Nat.reduceEqDiff, Nat.reduceAdd, Nat.reduceSub, Nat.reduceMul, Nat.reduceLT, Nat.reduceLeDiff, Nat.reduceBEq, Int.reduceLE, Int.reduceLT, Int.reduceToNat, reduceCtorEq, g1, g3, g4, l5, hr]); try rfl) (by simp only [undef, am0, am1, am2, am3, amb0, amb1, amb2, amb3, amb4, lwn, drn, callee, wantedB, isW, eff, pev, pst0, retPost, resAll, resP, resV, intP, mkV, putC, pbin, sbin, strsEq, peq, pint, pshift, pstr, pun, pconv, isShift, isConstB, app, subS, lay, rowsOf, lkV, keyKind, keyEq, mfind, mput, oInt, isZeroInt, forall_const, exists_eq_left', implies_true, IntKind.bits, ↓reduceIte, Nat.reduceEqDiff, Nat.reduceAdd, Nat.reduceSub, Nat.reduceMul, Nat.reduceLT, Nat.reduceLeDiff, Nat.reduceBEq, Int.reduceLE, Int.reduceLT, Int.reduceToNat, reduceCtorEq, Ty.all, g1, g3, g4, l5, hr]; try trivial) ?_
        simp (maxSteps := 2000000) only [undef, am0, am1, am2, am3, amb0, amb1, amb2, amb3, amb4, lwn, drn, callee, wantedB, isW, eff, pev, pst0, retPost, resAll, resP, resV, intP, mkV, putC, pbin, sbin, strsEq, peq, pint, pshift, pstr, pun, pconv, isShift, isConstB, app, subS, lay, rowsOf, lkV, keyKind, keyEq, mfind, mput, oInt, isZeroInt, forall_const, exists_eq_left', implies_true, IntKind.bits, ↓reduceIte, Nat.reduceEqDiff, Nat.reduceAdd, Nat.reduceSub, Nat.reduceMul, Nat.reduceLT, Nat.reduceLeDiff, Nat.reduceBEq, Int.reduceLE, Int.reduceLT, Int.reduceToNat, reduceCtorEq, Ty.all, Option.getD_some, g1, g3, g4, l5, hr]
        repeat' (first
          | (refine a_seq (fun K hK => ?_))
          | (refine a_block ?_)
          | ((first | refine a_regionS ?_ | refine a_drawS (by decide +kernel) ?_ | refine a_region (fun K hK => ?_) | refine a_draw (by decide +kernel) (fun K hK => ?_) | refine a_ret ?_); simp (maxSteps := 2000000) only [undef, am0, am1, am2, am3, amb0, amb1, amb2, amb3, amb4, lwn, drn, callee, wantedB, isW, eff, pev, pst0, retPost, resAll, resP, resV, intP, mkV, putC, pbin, sbin, strsEq, peq, pint, pshift, pstr, pun, pconv, isShift, isConstB, app, subS, lay, rowsOf, lkV, keyKind, keyEq, mfind, mput, oInt, isZeroInt, forall_const, exists_eq_left', implies_true, IntKind.bits, ↓reduceIte, Nat.reduceEqDiff, Nat.reduceAdd, Nat.reduceSub, Nat.reduceMul, Nat.reduceLT, Nat.reduceLeDiff, Nat.reduceBEq, Int.reduceLE, Int.reduceLT, Int.reduceToNat, reduceCtorEq, Ty.all, g1, g3, g4, l5, hr])
          | (refine a_skip ?_; try simp only [pst0, ↓reduceIte, Nat.reduceEqDiff])
          | (refine a_exit ?_; try simp only [pst0, ↓reduceIte, Nat.reduceEqDiff])
          | (refine a_cond _ (by (try simp (maxSteps := 2000000) only [undef, am0, am1, am2, am3, amb0, amb1, amb2, amb3, amb4, lwn, drn, callee, wantedB, isW, eff, pev, pst0, retPost, resAll, resP, resV, intP, mkV, putC, pbin, sbin, strsEq, peq, pint, pshift, pstr, pun, pconv, isShift, isConstB, app, subS, lay, rowsOf, lkV, keyKind, keyEq, mfind, mput, oInt, isZeroInt, forall_const, exists_eq_left', implies_true, IntKind.bits, ↓reduceIte, Nat.reduceEqDiff, Nat.reduceAdd, Nat.reduceSub, Nat.reduceMul, Nat.reduceLT, Nat.reduceLeDiff, Nat.reduceBEq, Int.reduceLE, Int.reduceLT, Int.reduceToNat, reduceCtorEq, Ty.all, g1, g3, g4, l5, hr]); rfl) (fun hb => ?_) (fun hb => ?_) <;> (try simp only [hb0, decide_eq_true_eq, decide_eq_false_iff_not, reduceCtorEq] at hb) <;> (try (exfalso; omega)))
          | (with_reducible refine ite_in (fun hb => ?_) (fun hb => ?_) <;> (try simp only [Decidable.not_not] at hb) <;> (try simp only [hb, if_true, if_false, not_false_eq_true, not_true_eq_false, ↓reduceIte]) <;> (try simp only [hb0, decide_eq_true_eq, decide_eq_false_iff_not, reduceCtorEq] at hb) <;> (try (exfalso; omega)))
          | (refine hK _ _ ?_; clear hK; try simp only [pst0, ↓reduceIte, Nat.reduceEqDiff])
          | (clear hK; refine hK _ _ ?_; clear hK; try simp only [pst0, ↓reduceIte, Nat.reduceEqDiff])
          | (clear hK; clear hK; refine hK _ _ ?_; clear hK; try simp only [pst0, ↓reduceIte, Nat.reduceEqDiff])
          | (clear hK; clear hK; clear hK; refine hK _ _ ?_; clear hK; try simp only [pst0, ↓reduceIte, Nat.reduceEqDiff])
          | ((first | (with_reducible refine a_past _ rfl (by decide +kernel) ?_) | (with_reducible refine a_past2 (by simp only [List.forall_mem_cons, undef, am0, am1, am2, am3, amb0, amb1, amb2, amb3, amb4, lwn, drn, callee, wantedB, isW, eff, pev, pst0, retPost, resAll, resP, resV, intP, mkV, putC, pbin, sbin, strsEq, peq, pint, pshift, pstr, pun, pconv, isShift, isConstB, app, subS, lay, rowsOf, lkV, keyKind, keyEq, mfind, mput, oInt, isZeroInt, forall_const, exists_eq_left', implies_true, IntKind.bits, ↓reduceIte, Nat.reduceEqDiff, Nat.reduceAdd, Nat.reduceSub, Nat.reduceMul, Nat.reduceLT, Nat.reduceLeDiff, Nat.reduceBEq, Int.reduceLE, Int.reduceLT, Int.reduceToNat, reduceCtorEq, Ty.all, g1, g3, g4, l5, hr]; (repeat' apply And.intro) <;> first | trivial | exact .inl (by decide +kernel)) ?_)); try simp (maxSteps := 2000000) only [undef, am0, am1, am2, am3, amb0, amb1, amb2, amb3, amb4, lwn, drn, callee, wantedB, isW, eff, pev, pst0, retPost, resAll, resP, resV, intP, mkV, putC, pbin, sbin, strsEq, peq, pint, pshift, pstr, pun, pconv, isShift, isConstB, app, subS, lay, rowsOf, lkV, keyKind, keyEq, mfind, mput, oInt, isZeroInt, forall_const, exists_eq_left', implies_true, IntKind.bits, ↓reduceIte, Nat.reduceEqDiff, Nat.reduceAdd, Nat.reduceSub, Nat.reduceMul, Nat.reduceLT, Nat.reduceLeDiff, Nat.reduceBEq, Int.reduceLE, Int.reduceLT, Int.reduceToNat, reduceCtorEq, Ty.all, g1, g3, g4, l5, hr])
          | (rw [if_pos]; rotate_left 1; omega; simp (maxSteps := 2000000) only [undef, am0, am1, am2, am3, amb0, amb1, amb2, amb3, amb4, lwn, drn, callee, wantedB, isW, eff, pev, pst0, retPost, resAll, resP, resV, intP, mkV, putC, pbin, sbin, strsEq, peq, pint, pshift, pstr, pun, pconv, isShift, isConstB, app, subS, lay, rowsOf, lkV, keyKind, keyEq, mfind, mput, oInt, isZeroInt, forall_const, exists_eq_left', implies_true, IntKind.bits, ↓reduceIte, Nat.reduceEqDiff, Nat.reduceAdd, Nat.reduceSub, Nat.reduceMul, Nat.reduceLT, Nat.reduceLeDiff, Nat.reduceBEq, Int.reduceLE, Int.reduceLT, Int.reduceToNat, reduceCtorEq, Ty.all, g1, g3, g4, l5, hr]))
        first
          | refine a_dcall0 (c2 _) (by (try simp only [undef, am0, am1, am2, am3, amb0, amb1, amb2, amb3, amb4, lwn, drn, callee, wantedB, isW, eff, pev, pst0, retPost, resAll, resP, resV, intP, mkV, putC, pbin, sbin, strsEq, peq, pint, pshift, pstr, pun, pconv, isShift, isConstB, app, subS, lay, rowsOf, lkV, keyKind, keyEq, mfind, mput, oInt, isZeroInt, forall_const, exists_eq_left', implies_true, IntKind.bits, ↓reduceIte, Nat.reduceEqDiff, Nat.reduceAdd, Nat.reduceSub, Nat.reduceMul, Nat.reduceLT, Nat.reduceLeDiff, Nat.reduceBEq, Int.reduceLE, Int.reduceLT, Int.reduceToNat, reduceCtorEq, g1, g3, g4, l5, hr]); try rfl) ?_
          | refine a_dcallA (c2 _) (by (try simp only [undef, am0, am1, am2, am3, amb0, amb1, amb2, amb3, amb4, lwn, drn, callee, wantedB, isW, eff, pev, pst0, retPost, resAll, resP, resV, intP, mkV, putC, pbin, sbin, strsEq, peq, pint, pshift, pstr, pun, pconv, isShift, isConstB, app, subS, lay, rowsOf, lkV, keyKind, keyEq, mfind, mput, oInt, isZeroInt, forall_const, exists_eq_left', implies_true, IntKind.bits, ↓reduceIte, Nat.reduceEqDiff, Nat.reduceAdd, Nat.reduceSub, Nat.reduceMul, Nat.reduceLT, Nat.reduceLeDiff, Nat.reduceBEq, Int.reduceLE, Int.reduceLT, Int.reduceToNat, reduceCtorEq, g1, g3, g4, l5, hr]); try rfl) (by simp only [undef, am0, am1, am2, am3, amb0, amb1, amb2, amb3, amb4, lwn, drn, callee, wantedB, isW, eff, pev, pst0, retPost, resAll, resP, resV, intP, mkV, putC, pbin, sbin, strsEq, peq, pint, pshift, pstr, pun, pconv, isShift, isConstB, app, subS, lay, rowsOf, lkV, keyKind, keyEq, mfind, mput, oInt, isZeroInt, forall_const, exists_eq_left', implies_true, IntKind.bits, ↓reduceIte, Nat.reduceEqDiff, Nat.reduceAdd, Nat.reduceSub, Nat.reduceMul, Nat.reduceLT, Nat.reduceLeDiff, Nat.reduceBEq, Int.reduceLE, Int.reduceLT, Int.reduceToNat, reduceCtorEq, Ty.all, g1, g3, g4, l5, hr]; try trivial) ?_
        simp (maxSteps := 2000000) only [undef, am0, am1, am2, am3, amb0, amb1, amb2, amb3, amb4, lwn, drn, callee, wantedB, isW, eff, pev, pst0, retPost, resAll, resP, resV, intP, mkV, putC, pbin, sbin, strsEq, peq, pint, pshift, pstr, pun, pconv, isShift, isConstB, app, subS, lay, rowsOf, lkV, keyKind, keyEq, mfind, mput, oInt, isZeroInt, forall_const, exists_eq_left', implies_true, IntKind.bits, ↓reduceIte, Nat.reduceEqDiff, Nat.reduceAdd, Nat.reduceSub, Nat.reduceMul, Nat.reduceLT, Nat.reduceLeDiff, Nat.reduceBEq, Int.reduceLE, Int.reduceLT, Int.reduceToNat, reduceCtorEq, Ty.all, Option.getD_some, g1, g3, g4, l5, hr]
        repeat' (first
          | (refine a_seq (fun K hK => ?_))
          | (refine a_block ?_)
          | ((first | refine a_regionS ?_ | refine a_drawS (by decide +kernel) ?_ | refine a_region (fun K hK => ?_) | refine a_draw (by decide +kernel) (fun K hK => ?_) | refine a_ret ?_); simp (maxSteps := 2000000) only [undef, am0, am1, am2, am3, amb0, amb1, amb2, amb3, amb4, lwn, drn, callee, wantedB, isW, eff, pev, pst0, retPost, resAll, resP, resV, intP, mkV, putC, pbin, sbin, strsEq, peq, pint, pshift, pstr, pun, pconv, isShift, isConstB, app, subS, lay, rowsOf, lkV, keyKind, keyEq, mfind, mput, oInt, isZeroInt, forall_const, exists_eq_left', implies_true, IntKind.bits, ↓reduceIte, Nat.reduceEqDiff, Nat.reduceAdd, Nat.reduceSub, Nat.reduceMul, Nat.reduceLT, Nat.reduceLeDiff, Nat.reduceBEq, Int.reduceLE, Int.reduceLT, Int.reduceToNat, reduceCtorEq, Ty.all, g1, g3, g4, l5, hr, w7])
          | (refine a_skip ?_; try simp only [pst0, ↓reduceIte, Nat.reduceEqDiff])
          | (refine a_exit ?_; try simp only [pst0, ↓reduceIte, Nat.reduceEqDiff])
          | (refine a_cond _ (by (try simp (maxSteps := 2000000) only [undef, am0, am1, am2, am3, amb0, amb1, amb2, amb3, amb4, lwn, drn, callee, wantedB, isW, eff, pev, pst0, retPost, resAll, resP, resV, intP, mkV, putC, pbin, sbin, strsEq, peq, pint, pshift, pstr, pun, pconv, isShift, isConstB, app, subS, lay, rowsOf, lkV, keyKind, keyEq, mfind, mput, oInt, isZeroInt, forall_const, exists_eq_left', implies_true, IntKind.bits, ↓reduceIte, Nat.reduceEqDiff, Nat.reduceAdd, Nat.reduceSub, Nat.reduceMul, Nat.reduceLT, Nat.reduceLeDiff, Nat.reduceBEq, Int.reduceLE, Int.reduceLT, Int.reduceToNat, reduceCtorEq, Ty.all, g1, g3, g4, l5, hr, w7]); rfl) (fun hb => ?_) (fun hb => ?_) <;> (try simp only [hb0, decide_eq_true_eq, decide_eq_false_iff_not, reduceCtorEq] at hb) <;> (try (exfalso; omega)))
          | (with_reducible refine ite_in (fun hb => ?_) (fun hb => ?_) <;> (try simp only [Decidable.not_not] at hb) <;> (try simp only [hb, if_true, if_false, not_false_eq_true, not_true_eq_false, ↓reduceIte]) <;> (try simp only [hb0, decide_eq_true_eq, decide_eq_false_iff_not, reduceCtorEq] at hb) <;> (try (exfalso; omega)))
          | (refine hK _ _ ?_; clear hK; try simp only [pst0, ↓reduceIte, Nat.reduceEqDiff])
          | (clear hK; refine hK _ _ ?_; clear hK; try simp only [pst0, ↓reduceIte, Nat.reduceEqDiff])
          | (clear hK; clear hK; refine hK _ _ ?_; clear hK; try simp only [pst0, ↓reduceIte, Nat.reduceEqDiff])
          | (clear hK; clear hK; clear hK; refine hK _ _ ?_; clear hK; try simp only [pst0, ↓reduceIte, Nat.reduceEqDiff])
          | ((first | (with_reducible refine a_past _ rfl (by decide +kernel) ?_) | (with_reducible refine a_past2 (by simp only [List.forall_mem_cons, undef, am0, am1, am2, am3, amb0, amb1, amb2, amb3, amb4, lwn, drn, callee, wantedB, isW, eff, pev, pst0, retPost, resAll, resP, resV, intP, mkV, putC, pbin, sbin, strsEq, peq, pint, pshift, pstr, pun, pconv, isShift, isConstB, app, subS, lay, rowsOf, lkV, keyKind, keyEq, mfind, mput, oInt, isZeroInt, forall_const, exists_eq_left', implies_true, IntKind.bits, ↓reduceIte, Nat.reduceEqDiff, Nat.reduceAdd, Nat.reduceSub, Nat.reduceMul, Nat.reduceLT, Nat.reduceLeDiff, Nat.reduceBEq, Int.reduceLE, Int.reduceLT, Int.reduceToNat, reduceCtorEq, Ty.all, g1, g3, g4, l5, hr, w7]; (repeat' apply And.intro) <;> first | trivial | exact .inl (by decide +kernel)) ?_)); try simp (maxSteps := 2000000) only [undef, am0, am1, am2, am3, amb0, amb1, amb2, amb3, amb4, lwn, drn, callee, wantedB, isW, eff, pev, pst0, retPost, resAll, resP, resV, intP, mkV, putC, pbin, sbin, strsEq, peq, pint, pshift, pstr, pun, pconv, isShift, isConstB, app, subS, lay, rowsOf, lkV, keyKind, keyEq, mfind, mput, oInt, isZeroInt, forall_const, exists_eq_left', implies_true, IntKind.bits, ↓reduceIte, Nat.reduceEqDiff, Nat.reduceAdd, Nat.reduceSub, Nat.reduceMul, Nat.reduceLT, Nat.reduceLeDiff, Nat.reduceBEq, Int.reduceLE, Int.reduceLT, Int.reduceToNat, reduceCtorEq, Ty.all, g1, g3, g4, l5, hr, w7])
          | (rw [if_pos]; rotate_left 1; omega; simp (maxSteps := 2000000) only [undef, am0, am1, am2, am3, amb0, amb1, amb2, amb3, amb4, lwn, drn, callee, wantedB, isW, eff, pev, pst0, retPost, resAll, resP, resV, intP, mkV, putC, pbin, sbin, strsEq, peq, pint, pshift, pstr, pun, pconv, isShift, isConstB, app, subS, lay, rowsOf, lkV, keyKind, keyEq, mfind, mput, oInt, isZeroInt, forall_const, exists_eq_left', implies_true, IntKind.bits, ↓reduceIte, Nat.reduceEqDiff, Nat.reduceAdd, Nat.reduceSub, Nat.reduceMul, Nat.reduceLT, Nat.reduceLeDiff, Nat.reduceBEq, Int.reduceLE, Int.reduceLT, Int.reduceToNat, reduceCtorEq, Ty.all, g1, g3, g4, l5, hr, w7]))
        exact ⟨actions.length - (k + 1), by omega, by rw [hC], k + 1, _, by simp, rfl, by omega, rfl, hinv⟩
      · have hd : decide ((k : Int) < (actions.length : Int)) = false := by simp; omega
        rw [List.drop_eq_nil_of_le (by omega)] at hinv
        simp only [actsM] at hinv
        repeat' (first
          | (refine a_seq (fun K hK => ?_))
          | (refine a_block ?_)
          | ((first | refine a_regionS ?_ | refine a_region (fun K hK => ?_) | refine a_ret ?_); simp (maxSteps := 2000000) only [undef, am0, am1, am2, am3, amb0, amb1, amb2, amb3, amb4, lwn, drn, callee, wantedB, isW, eff, pev, pst0, retPost, resAll, resP, resV, intP, mkV, putC, pbin, sbin, strsEq, peq, pint, pshift, pstr, pun, pconv, isShift, isConstB, app, subS, lay, rowsOf, lkV, keyKind, keyEq, mfind, mput, oInt, isZeroInt, forall_const, exists_eq_left', implies_true, IntKind.bits, ↓reduceIte, Nat.reduceEqDiff, Nat.reduceAdd, Nat.reduceSub, Nat.reduceMul, Nat.reduceLT, Nat.reduceLeDiff, Nat.reduceBEq, Int.reduceLE, Int.reduceLT, Int.reduceToNat, reduceCtorEq, Ty.all, g1, g3, g4, l5, hd])
          | (refine a_skip ?_; try simp only [pst0, ↓reduceIte, Nat.reduceEqDiff])
          | (refine a_exit ?_; try simp only [pst0, ↓reduceIte, Nat.reduceEqDiff])
          | (refine a_cond _ (by (try simp (maxSteps := 2000000) only [undef, am0, am1, am2, am3, amb0, amb1, amb2, amb3, amb4, lwn, drn, callee, wantedB, isW, eff, pev, pst0, retPost, resAll, resP, resV, intP, mkV, putC, pbin, sbin, strsEq, peq, pint, pshift, pstr, pun, pconv, isShift, isConstB, app, subS, lay, rowsOf, lkV, keyKind, keyEq, mfind, mput, oInt, isZeroInt, forall_const, exists_eq_left', implies_true, IntKind.bits, ↓reduceIte, Nat.reduceEqDiff, Nat.reduceAdd, Nat.reduceSub, Nat.reduceMul, Nat.reduceLT, Nat.reduceLeDiff, Nat.reduceBEq, Int.reduceLE, Int.reduceLT, Int.reduceToNat, reduceCtorEq, Ty.all, g1, g3, g4, l5, hd]); rfl) (fun hb => ?_) (fun hb => ?_) <;> (try simp only [hb0, decide_eq_true_eq, decide_eq_false_iff_not, reduceCtorEq] at hb) <;> (try (exfalso; omega)))
          | (with_reducible refine ite_in (fun hb => ?_) (fun hb => ?_) <;> (try simp only [Decidable.not_not] at hb) <;> (try simp only [hb, if_true, if_false, not_false_eq_true, not_true_eq_false, ↓reduceIte]) <;> (try simp only [hb0, decide_eq_true_eq, decide_eq_false_iff_not, reduceCtorEq] at hb) <;> (try (exfalso; omega)))
          | (refine hK _ _ ?_; clear hK; try simp only [pst0, ↓reduceIte, Nat.reduceEqDiff])
          | (clear hK; refine hK _ _ ?_; clear hK; try simp only [pst0, ↓reduceIte, Nat.reduceEqDiff])
          | (clear hK; clear hK; refine hK _ _ ?_; clear hK; try simp only [pst0, ↓reduceIte, Nat.reduceEqDiff])
          | (clear hK; clear hK; clear hK; refine hK _ _ ?_; clear hK; try simp only [pst0, ↓reduceIte, Nat.reduceEqDiff])
          | (rw [if_pos]; rotate_left 1; omega; simp (maxSteps := 2000000) only [undef, am0, am1, am2, am3, amb0, amb1, amb2, amb3, amb4, lwn, drn, callee, wantedB, isW, eff, pev, pst0, retPost, resAll, resP, resV, intP, mkV, putC, pbin, sbin, strsEq, peq, pint, pshift, pstr, pun, pconv, isShift, isConstB, app, subS, lay, rowsOf, lkV, keyKind, keyEq, mfind, mput, oInt, isZeroInt, forall_const, exists_eq_left', implies_true, IntKind.bits, ↓reduceIte, Nat.reduceEqDiff, Nat.reduceAdd, Nat.reduceSub, Nat.reduceMul, Nat.reduceLT, Nat.reduceLeDiff, Nat.reduceBEq, Int.reduceLE, Int.reduceLT, Int.reduceToNat, reduceCtorEq, Ty.all, g1, g3, g4, l5, hd]))
        simp only [undef, am0, am1, am2, am3, amb0, amb1, amb2, amb3, amb4, lwn, drn, callee, wantedB, isW, eff, pev, pst0, retPost, resAll, resP, resV, intP, mkV, putC, pbin, sbin, strsEq, peq, pint, pshift, pstr, pun, pconv, isShift, isConstB, app, subS, lay, rowsOf, lkV, keyKind, keyEq, mfind, mput, oInt, isZeroInt, forall_const, exists_eq_left', implies_true, IntKind.bits, ↓reduceIte, Nat.reduceEqDiff, Nat.reduceAdd, Nat.reduceSub, Nat.reduceMul, Nat.reduceLT, Nat.reduceLeDiff, Nat.reduceBEq, Int.reduceLE, Int.reduceLT, Int.reduceToNat, reduceCtorEq, g1, g3, hinv, hC]
  · rintro S h' ⟨rfl, g1, g3⟩
    rw [hC] at g1
    clear hNA hN0
    repeat' (first | (with_reducible refine a_hold 6 ?_) | (first
      | (refine a_seq (fun K hK => ?_))
      | (refine a_block ?_)
      | ((first | refine a_regionS ?_ | refine a_region (fun K hK => ?_) | refine a_ret ?_); simp (maxSteps := 2000000) only [undef, am0, am1, am2, am3, amb0, amb1, amb2, amb3, amb4, lwn, drn, callee, wantedB, isW, eff, pev, pst0, retPost, resAll, resP, resV, intP, mkV, putC, pbin, sbin, strsEq, peq, pint, pshift, pstr, pun, pconv, isShift, isConstB, app, subS, lay, rowsOf, lkV, keyKind, keyEq, mfind, mput, oInt, isZeroInt, forall_const, exists_eq_left', implies_true, IntKind.bits, ↓reduceIte, Nat.reduceEqDiff, Nat.reduceAdd, Nat.reduceSub, Nat.reduceMul, Nat.reduceLT, Nat.reduceLeDiff, Nat.reduceBEq, Int.reduceLE, Int.reduceLT, Int.reduceToNat, reduceCtorEq, Ty.all, g1, g3])
      | (refine a_skip ?_; try simp only [pst0, ↓reduceIte, Nat.reduceEqDiff])
      | (refine a_exit ?_; try simp only [pst0, ↓reduceIte, Nat.reduceEqDiff])
      | (refine a_cond _ (by (try simp (maxSteps := 2000000) only [undef, am0, am1, am2, am3, amb0, amb1, amb2, amb3, amb4, lwn, drn, callee, wantedB, isW, eff, pev, pst0, retPost, resAll, resP, resV, intP, mkV, putC, pbin, sbin, strsEq, peq, pint, pshift, pstr, pun, pconv, isShift, isConstB, app, subS, lay, rowsOf, lkV, keyKind, keyEq, mfind, mput, oInt, isZeroInt, forall_const, exists_eq_left', implies_true, IntKind.bits, ↓reduceIte, Nat.reduceEqDiff, Nat.reduceAdd, Nat.reduceSub, Nat.reduceMul, Nat.reduceLT, Nat.reduceLeDiff, Nat.reduceBEq, Int.reduceLE, Int.reduceLT, Int.reduceToNat, reduceCtorEq, Ty.all, g1, g3]); rfl) (fun hb => ?_) (fun hb => ?_) <;> (try simp only [hb0, decide_eq_true_eq, decide_eq_false_iff_not, reduceCtorEq] at hb) <;> (try (exfalso; omega)))
      | (with_reducible refine ite_in (fun hb => ?_) (fun hb => ?_) <;> (try simp only [Decidable.not_not] at hb) <;> (try simp only [hb, if_true, if_false, not_false_eq_true, not_true_eq_false, ↓reduceIte]) <;> (try simp only [hb0, decide_eq_true_eq, decide_eq_false_iff_not, reduceCtorEq] at hb) <;> (try (exfalso; omega)))
      | (refine hK _ _ ?_; clear hK; try simp only [pst0, ↓reduceIte, Nat.reduceEqDiff])
      | (clear hK; refine hK _ _ ?_; clear hK; try simp only [pst0, ↓reduceIte, Nat.reduceEqDiff])
      | (clear hK; clear hK; refine hK _ _ ?_; clear hK; try simp only [pst0, ↓reduceIte, Nat.reduceEqDiff])
      | (clear hK; clear hK; clear hK; refine hK _ _ ?_; clear hK; try simp only [pst0, ↓reduceIte, Nat.reduceEqDiff])
      | (rw [if_pos]; rotate_left 1; omega; simp (maxSteps := 2000000) only [undef, am0, am1, am2, am3, amb0, amb1, amb2, amb3, amb4, lwn, drn, callee, wantedB, isW, eff, pev, pst0, retPost, resAll, resP, resV, intP, mkV, putC, pbin, sbin, strsEq, peq, pint, pshift, pstr, pun, pconv, isShift, isConstB, app, subS, lay, rowsOf, lkV, keyKind, keyEq, mfind, mput, oInt, isZeroInt, forall_const, exists_eq_left', implies_true, IntKind.bits, ↓reduceIte, Nat.reduceEqDiff, Nat.reduceAdd, Nat.reduceSub, Nat.reduceMul, Nat.reduceLT, Nat.reduceLeDiff, Nat.reduceBEq, Int.reduceLE, Int.reduceLT, Int.reduceToNat, reduceCtorEq, Ty.all, g1, g3])))
    refine ⟨?_⟩
    refine a_cut (fun S h2 => Grow h' h2 ∧ S 3 = .sc (.int .i64 nV)) ?_ ?_
    · repeat' (first
        | (refine a_seq (fun K hK => ?_))
        | (refine a_block ?_)
        | ((first | refine a_regionS ?_ | refine a_region (fun K hK => ?_) | refine a_ret ?_); simp (maxSteps := 2000000) only [undef, am0, am1, am2, am3, amb0, amb1, amb2, amb3, amb4, lwn, drn, callee, wantedB, isW, eff, pev, pst0, retPost, resAll, resP, resV, intP, mkV, putC, pbin, sbin, strsEq, peq, pint, pshift, pstr, pun, pconv, isShift, isConstB, app, subS, lay, rowsOf, lkV, keyKind, keyEq, mfind, mput, oInt, isZeroInt, forall_const, exists_eq_left', implies_true, IntKind.bits, ↓reduceIte, Nat.reduceEqDiff, Nat.reduceAdd, Nat.reduceSub, Nat.reduceMul, Nat.reduceLT, Nat.reduceLeDiff, Nat.reduceBEq, Int.reduceLE, Int.reduceLT, Int.reduceToNat, reduceCtorEq, Ty.all, g1, g3])
        | (refine a_skip ?_; try simp only [pst0, ↓reduceIte, Nat.reduceEqDiff])
        | (refine a_exit ?_; try simp only [pst0, ↓reduceIte, Nat.reduceEqDiff])
        | (refine a_cond _ (by (try simp (maxSteps := 2000000) only [undef, am0, am1, am2, am3, amb0, amb1, amb2, amb3, amb4, lwn, drn, callee, wantedB, isW, eff, pev, pst0, retPost, resAll, resP, resV, intP, mkV, putC, pbin, sbin, strsEq, peq, pint, pshift, pstr, pun, pconv, isShift, isConstB, app, subS, lay, rowsOf, lkV, keyKind, keyEq, mfind, mput, oInt, isZeroInt, forall_const, exists_eq_left', implies_true, IntKind.bits, ↓reduceIte, Nat.reduceEqDiff, Nat.reduceAdd, Nat.reduceSub, Nat.reduceMul, Nat.reduceLT, Nat.reduceLeDiff, Nat.reduceBEq, Int.reduceLE, Int.reduceLT, Int.reduceToNat, reduceCtorEq, Ty.all, g1, g3]); rfl) (fun hb => ?_) (fun hb => ?_) <;> (try simp only [hb0, decide_eq_true_eq, decide_eq_false_iff_not, reduceCtorEq] at hb) <;> (try (exfalso; omega)))
        | (with_reducible refine ite_in (fun hb => ?_) (fun hb => ?_) <;> (try simp only [Decidable.not_not] at hb) <;> (try simp only [hb, if_true, if_false, not_false_eq_true, not_true_eq_false, ↓reduceIte]) <;> (try simp only [hb0, decide_eq_true_eq, decide_eq_false_iff_not, reduceCtorEq] at hb) <;> (try (exfalso; omega)))
        | (refine hK _ _ ?_; clear hK; try simp only [pst0, ↓reduceIte, Nat.reduceEqDiff])
        | (clear hK; refine hK _ _ ?_; clear hK; try simp only [pst0, ↓reduceIte, Nat.reduceEqDiff])
        | (clear hK; clear hK; refine hK _ _ ?_; clear hK; try simp only [pst0, ↓reduceIte, Nat.reduceEqDiff])
        | (clear hK; clear hK; clear hK; refine hK _ _ ?_; clear hK; try simp only [pst0, ↓reduceIte, Nat.reduceEqDiff])
        | (rw [if_pos]; rotate_left 1; omega; simp (maxSteps := 2000000) only [undef, am0, am1, am2, am3, amb0, amb1, amb2, amb3, amb4, lwn, drn, callee, wantedB, isW, eff, pev, pst0, retPost, resAll, resP, resV, intP, mkV, putC, pbin, sbin, strsEq, peq, pint, pshift, pstr, pun, pconv, isShift, isConstB, app, subS, lay, rowsOf, lkV, keyKind, keyEq, mfind, mput, oInt, isZeroInt, forall_const, exists_eq_left', implies_true, IntKind.bits, ↓reduceIte, Nat.reduceEqDiff, Nat.reduceAdd, Nat.reduceSub, Nat.reduceMul, Nat.reduceLT, Nat.reduceLeDiff, Nat.reduceBEq, Int.reduceLE, Int.reduceLT, Int.reduceToNat, reduceCtorEq, Ty.all, g1, g3]))
      refine a_loop (fun c S h2 => Grow h' h2 ∧ S 1 = .cptr (Dm.mk name types constants predicates functions actions duratives).cells ∧ ∃ (k : Nat) (n : Int), S 5 = .sc (.int .i64 k) ∧ S 3 = .sc (.int .i64 n) ∧ k ≤ duratives.length ∧ c = duratives.length - k ∧ nV = dursM n (duratives.drop k)) duratives.length ?_ ?_
      · simp only [undef, am0, am1, am2, am3, amb0, amb1, amb2, amb3, amb4, lwn, drn, callee, wantedB, isW, eff, pev, pst0, retPost, resAll, resP, resV, intP, mkV, putC, pbin, sbin, strsEq, peq, pint, pshift, pstr, pun, pconv, isShift, isConstB, app, subS, lay, rowsOf, lkV, keyKind, keyEq, mfind, mput, oInt, isZeroInt, forall_const, exists_eq_left', implies_true, IntKind.bits, ↓reduceIte, Nat.reduceEqDiff, Nat.reduceAdd, Nat.reduceSub, Nat.reduceMul, Nat.reduceLT, Nat.reduceLeDiff, Nat.reduceBEq, Int.reduceLE, Int.reduceLT, Int.reduceToNat, reduceCtorEq, g1, g3, hC]
        exact ⟨Grow.refl _, 0, nA, rfl, rfl, by omega, rfl, by rw [← hNV]; try rfl⟩
      · clear g1 g3
        rintro c S h2 ⟨hg, g1, k, n, g5, g3, hk, rfl, hinv⟩
        rw [hC] at g1
        by_cases hlt : k < duratives.length
        · have hd : decide ((k : Int) < (duratives.length : Int)) = true := by simp; omega
          have w7 : IntKind.i64.wrap ((k : Int) + 1) = k + 1 := by rw [wrap64 (by omega) (by omega)]
          obtain ⟨a, hx⟩ : ∃ a, duratives[k]? = some a := ⟨_, List.getElem?_eq_getElem hlt⟩
          have hr := duRows_get hx
          have ha := huo a (List.mem_of_getElem? hx)
          rw [drop_of_get hx] at hinv
          simp only [dursM] at hinv
          have c1 := rsize_c a.start ha.start
          have c2 := rsize_c a.over ha.over
          have c3 := rsize_c a.stop ha.stop
          have c4 := fun h : Heap => heavy_c ha.atStart h
          have c5 := fun h : Heap => heavy_c ha.atStop h
          clear ha
          obtain ⟨aname, aparams, adur, start, over, stop, atStart, atStop⟩ := a
          simp only at hinv c1 c2 c3 c4 c5
          generalize start.size = s1 at hinv c1
          generalize over.size = s2 at hinv c2
          generalize stop.size = s3 at hinv c3
          generalize heavyM 0 atStart = s4 at hinv c4
          generalize heavyM 0 atStop = s5 at hinv c5
          obtain ⟨fop, fna, far, fpa, fex, fki⟩ := start
          obtain ⟨fop2, fna2, far2, fpa2, fex2, fki2⟩ := over
          obtain ⟨fop3, fna3, far3, fpa3, fex3, fki3⟩ := stop
          simp only [duRow, Fm.cells, List.cons_append, List.nil_append] at hr c1 c2 c3
          repeat' (first
            | (refine a_seq (fun K hK => ?_))
            | (refine a_block ?_)
            | ((first | refine a_regionS ?_ | refine a_drawS (by decide +kernel) ?_ | refine a_region (fun K hK => ?_) | refine a_draw (by decide +kernel) (fun K hK => ?_) | refine a_ret ?_); simp (maxSteps := 2000000) only [undef, am0, am1, am2, am3, amb0, amb1, amb2, amb3, amb4, lwn, drn, callee, wantedB, isW, eff, pev, pst0, retPost, resAll, resP, resV, intP, mkV, putC, pbin, sbin, strsEq, peq, pint, pshift, pstr, pun, pconv, isShift, isConstB, app, subS, lay, rowsOf, lkV, keyKind, keyEq, mfind, mput, oInt, isZeroInt, forall_const, exists_eq_left', implies_true, IntKind.bits, ↓reduceIte, Nat.reduceEqDiff, Nat.reduceAdd, Nat.reduceSub, Nat.reduceMul, Nat.reduceLT, Nat.reduceLeDiff, Nat.reduceBEq, Int.reduceLE, Int.reduceLT, Int.reduceToNat, reduceCtorEq, Ty.all, g1, g3, g5, l6, hd, hr])
            | (refine a_skip ?_; try simp only [pst0, ↓reduceIte, Nat.reduceEqDiff])
            | (refine a_exit ?_; try simp only [pst0, ↓reduceIte, Nat.reduceEqDiff])
            | (refine a_cond _ (by (try simp (maxSteps := 2000000) only [undef, am0, am1, am2, am3, amb0, amb1, amb2, amb3, amb4, lwn, drn, callee, wantedB, isW, eff, pev, pst0, retPost, resAll, resP, resV, intP, mkV, putC, pbin, sbin, strsEq, peq, pint, pshift, pstr, pun, pconv, isShift, isConstB, app, subS, lay, rowsOf, lkV, keyKind, keyEq, mfind, mput, oInt, isZeroInt, forall_const, exists_eq_left', implies_true, IntKind.bits, ↓reduceIte, Nat.reduceEqDiff, Nat.reduceAdd, Nat.reduceSub, Nat.reduceMul, Nat.reduceLT, Nat.reduceLeDiff, Nat.reduceBEq, Int.reduceLE, Int.reduceLT, Int.reduceToNat, reduceCtorEq, Ty.all, g1, g3, g5, l6, hd, hr]); rfl) (fun hb => ?_) (fun hb => ?_) <;> (try simp only [hb0, decide_eq_true_eq, decide_eq_false_iff_not, reduceCtorEq] at hb) <;> (try (exfalso; omega)))
            | (with_reducible refine ite_in (fun hb => ?_) (fun hb => ?_) <;> (try simp only [Decidable.not_not] at hb) <;> (try simp only [hb, if_true, if_false, not_false_eq_true, not_true_eq_false, ↓reduceIte]) <;> (try simp only [hb0, decide_eq_true_eq, decide_eq_false_iff_not, reduceCtorEq] at hb) <;> (try (exfalso; omega)))
            | (refine hK _ _ ?_; clear hK; try simp only [pst0, ↓reduceIte, Nat.reduceEqDiff])
            | (clear hK; refine hK _ _ ?_; clear hK; try simp only [pst0, ↓reduceIte, Nat.reduceEqDiff])
            | (clear hK; clear hK; refine hK _ _ ?_; clear hK; try simp only [pst0, ↓reduceIte, Nat.reduceEqDiff])
            | (clear hK; clear hK; clear hK; refine hK _ _ ?_; clear hK; try simp only [pst0, ↓reduceIte, Nat.reduceEqDiff])
            | ((first | (with_reducible refine a_past _ rfl (by decide +kernel) ?_) | (with_reducible refine a_past2 (by simp only [List.forall_mem_cons, undef, am0, am1, am2, am3, amb0, amb1, amb2, amb3, amb4, lwn, drn, callee, wantedB, isW, eff, pev, pst0, retPost, resAll, resP, resV, intP, mkV, putC, pbin, sbin, strsEq, peq, pint, pshift, pstr, pun, pconv, isShift, isConstB, app, subS, lay, rowsOf, lkV, keyKind, keyEq, mfind, mput, oInt, isZeroInt, forall_const, exists_eq_left', implies_true, IntKind.bits, ↓reduceIte, Nat.reduceEqDiff, Nat.reduceAdd, Nat.reduceSub, Nat.reduceMul, Nat.reduceLT, Nat.reduceLeDiff, Nat.reduceBEq, Int.reduceLE, Int.reduceLT, Int.reduceToNat, reduceCtorEq, Ty.all, g1, g3, g5, l6, hd, hr]; (repeat' apply And.intro) <;> first | trivial | exact .inl (by decide +kernel)) ?_)); try simp (maxSteps := 2000000) only [undef, am0, am1, am2, am3, amb0, amb1, amb2, amb3, amb4, lwn, drn, callee, wantedB, isW, eff, pev, pst0, retPost, resAll, resP, resV, intP, mkV, putC, pbin, sbin, strsEq, peq, pint, pshift, pstr, pun, pconv, isShift, isConstB, app, subS, lay, rowsOf, lkV, keyKind, keyEq, mfind, mput, oInt, isZeroInt, forall_const, exists_eq_left', implies_true, IntKind.bits, ↓reduceIte, Nat.reduceEqDiff, Nat.reduceAdd, Nat.reduceSub, Nat.reduceMul, Nat.reduceLT, Nat.reduceLeDiff, Nat.reduceBEq, Int.reduceLE, Int.reduceLT, Int.reduceToNat, reduceCtorEq, Ty.all, g1, g3, g5, l6, hd, hr])
            | (rw [if_pos]; rotate_left 1; omega; simp (maxSteps := 2000000) only [undef, am0, am1, am2, am3, amb0, amb1, amb2, amb3, amb4, lwn, drn, callee, wantedB, isW, eff, pev, pst0, retPost, resAll, resP, resV, intP, mkV, putC, pbin, sbin, strsEq, peq, pint, pshift, pstr, pun, pconv, isShift, isConstB, app, subS, lay, rowsOf, lkV, keyKind, keyEq, mfind, mput, oInt, isZeroInt, forall_const, exists_eq_left', implies_true, IntKind.bits, ↓reduceIte, Nat.reduceEqDiff, Nat.reduceAdd, Nat.reduceSub, Nat.reduceMul, Nat.reduceLT, Nat.reduceLeDiff, Nat.reduceBEq, Int.reduceLE, Int.reduceLT, Int.reduceToNat, reduceCtorEq, Ty.all, g1, g3, g5, l6, hd, hr]))
          first
            | refine a_dcall0 (c1 _) (by (try simp only [undef, am0, am1, am2, am3, amb0, amb1, amb2, amb3, amb4, lwn, drn, callee, wantedB, isW, eff, pev, pst0, retPost, resAll, resP, resV, intP, mkV, putC, pbin, sbin, strsEq, peq, pint, pshift, pstr, pun, pconv, isShift, isConstB, app, subS, lay, rowsOf, lkV, keyKind, keyEq, mfind, mput, oInt, isZeroInt, forall_const, exists_eq_left', implies_true, IntKind.bits, ↓reduceIte, Nat.reduceEqDiff, Nat.reduceAdd, Nat.reduceSub, Nat.reduceMul, Nat.reduceLT, Nat.reduceLeDiff, Nat.reduceBEq, Int.reduceLE, Int.reduceLT, Int.reduceToNat, reduceCtorEq, g1, g3, g5, l6, hr]); try rfl) ?_
            | refine a_dcallA (c1 _) (by (try simp only [undef, am0, am1, am2, am3, amb0, amb1, amb2, amb3, amb4, lwn, drn, callee, wantedB, isW, eff, pev, pst0, retPost, resAll, resP, resV, intP, mkV, putC, pbin, sbin, strsEq, peq, pint, pshift, pstr, pun, pconv, isShift, isConstB, app, subS, lay, rowsOf, lkV, keyKind, keyEq, mfind, mput, oInt, isZeroInt, forall_const, exists_eq_left', implies_true, IntKind.bits, ↓reduceIte, Nat.reduceEqDiff, Nat.reduceAdd, Nat.reduceSub, Nat.reduceMul, Nat.reduceLT, Nat.reduceLeDiff, Nat.reduceBEq, Int.reduceLE, Int.reduceLT, Int.reduceToNat, reduceCtorEq, g1, g3, g5, l6, hr]); try rfl) (by simp only [undef, am0, am1, am2, am3, amb0, amb1, amb2, amb3, amb4, lwn, drn, callee, wantedB, isW, eff, pev, pst0, retPost, resAll, resP, resV, intP, mkV, putC, pbin, sbin, strsEq, peq, pint, pshift, pstr, pun, pconv, isShift, isConstB, app, subS, lay, rowsOf, lkV, keyKind, keyEq, mfind, mput, oInt, isZeroInt, forall_const, exists_eq_left', implies_true, IntKind.bits, ↓reduceIte, Nat.reduceEqDiff, Nat.reduceAdd, Nat.reduceSub, Nat.reduceMul, Nat.reduceLT, Nat.reduceLeDiff, Nat.reduceBEq, Int.reduceLE, Int.reduceLT, Int.reduceToNat, reduceCtorEq, Ty.all, g1, g3, g5, l6, hr]; try trivial) ?_
          simp (maxSteps := 2000000) only [undef, am0, am1, am2, am3, amb0, amb1, amb2, amb3, amb4, lwn, drn, callee, wantedB, isW, eff, pev, pst0, retPost, resAll, resP, resV, intP, mkV, putC, pbin, sbin, strsEq, peq, pint, pshift, pstr, pun, pconv, isShift, isConstB, app, subS, lay, rowsOf, lkV, keyKind, keyEq, mfind, mput, oInt, isZeroInt, forall_const, exists_eq_left', implies_true, IntKind.bits, ↓reduceIte, Nat.reduceEqDiff, Nat.reduceAdd, Nat.reduceSub, Nat.reduceMul, Nat.reduceLT, Nat.reduceLeDiff, Nat.reduceBEq, Int.reduceLE, Int.reduceLT, Int.reduceToNat, reduceCtorEq, Ty.all, Option.getD_some, g1, g3, g5, l6, hr]
          repeat' (first
            | (refine a_seq (fun K hK => ?_))
            | (refine a_block ?_)
            | ((first | refine a_regionS ?_ | refine a_drawS (by decide +kernel) ?_ | refine a_region (fun K hK => ?_) | refine a_draw (by decide +kernel) (fun K hK => ?_) | refine a_ret ?_); simp (maxSteps := 2000000) only [undef, am0, am1, am2, am3, amb0, amb1, amb2, amb3, amb4, lwn, drn, callee, wantedB, isW, eff, pev, pst0, retPost, resAll, resP, resV, intP, mkV, putC, pbin, sbin, strsEq, peq, pint, pshift, pstr, pun, pconv, isShift, isConstB, app, subS, lay, rowsOf, lkV, keyKind, keyEq, mfind, mput, oInt, isZeroInt, forall_const, exists_eq_left', implies_true, IntKind.bits, ↓reduceIte, Nat.reduceEqDiff, Nat.reduceAdd, Nat.reduceSub, Nat.reduceMul, Nat.reduceLT, Nat.reduceLeDiff, Nat.reduceBEq, Int.reduceLE, Int.reduceLT, Int.reduceToNat, reduceCtorEq, Ty.all, g1, g3, g5, l6, hr])
            | (refine a_skip ?_; try simp only [pst0, ↓reduceIte, Nat.reduceEqDiff])
            | (refine a_exit ?_; try simp only [pst0, ↓reduceIte, Nat.reduceEqDiff])
            | (refine a_cond _ (by (try simp (maxSteps := 2000000) only [undef, am0, am1, am2, am3, amb0, amb1, amb2, amb3, amb4, lwn, drn, callee, wantedB, isW, eff, pev, pst0, retPost, resAll, resP, resV, intP, mkV, putC, pbin, sbin, strsEq, peq, pint, pshift, pstr, pun, pconv, isShift, isConstB, app, subS, lay, rowsOf, lkV, keyKind, keyEq, mfind, mput, oInt, isZeroInt, forall_const, exists_eq_left', implies_true, IntKind.bits, ↓reduceIte, Nat.reduceEqDiff, Nat.reduceAdd, Nat.reduceSub, Nat.reduceMul, Nat.reduceLT, Nat.reduceLeDiff, Nat.reduceBEq, Int.reduceLE, Int.reduceLT, Int.reduceToNat, reduceCtorEq, Ty.all, g1, g3, g5, l6, hr]); rfl) (fun hb => ?_) (fun hb => ?_) <;> (try simp only [hb0, decide_eq_true_eq, decide_eq_false_iff_not, reduceCtorEq] at hb) <;> (try (exfalso; omega)))
            | (with_reducible refine ite_in (fun hb => ?_) (fun hb => ?_) <;> (try simp only [Decidable.not_not] at hb) <;> (try simp only [hb, if_true, if_false, not_false_eq_true, not_true_eq_false, ↓reduceIte]) <;> (try simp only [hb0, decide_eq_true_eq, decide_eq_false_iff_not, reduceCtorEq] at hb) <;> (try (exfalso; omega)))
            | (refine hK _ _ ?_; clear hK; try simp only [pst0, ↓reduceIte, Nat.reduceEqDiff])
            | (clear hK; refine hK _ _ ?_; clear hK; try simp only [pst0, ↓reduceIte, Nat.reduceEqDiff])
            | (clear hK; clear hK; refine hK _ _ ?_; clear hK; try simp only [pst0, ↓reduceIte, Nat.reduceEqDiff])
            | (clear hK; clear hK; clear hK; refine hK _ _ ?_; clear hK; try simp only [pst0, ↓reduceIte, Nat.reduceEqDiff])
            | ((first | (with_reducible refine a_past _ rfl (by decide +kernel) ?_) | (with_reducible refine a_past2 (by simp only [List.forall_mem_cons, undef, am0, am1, am2, am3, amb0, amb1, amb2, amb3, amb4, lwn, drn, callee, wantedB, isW, eff, pev, pst0, retPost, resAll, resP, resV, intP, mkV, putC, pbin, sbin, strsEq, peq, pint, pshift, pstr, pun, pconv, isShift, isConstB, app, subS, lay, rowsOf, lkV, keyKind, keyEq, mfind, mput, oInt, isZeroInt, forall_const, exists_eq_left', implies_true, IntKind.bits, ↓reduceIte, Nat.reduceEqDiff, Nat.reduceAdd, Nat.reduceSub, Nat.reduceMul, Nat.reduceLT, Nat.reduceLeDiff, Nat.reduceBEq, Int.reduceLE, Int.reduceLT, Int.reduceToNat, reduceCtorEq, Ty.all, g1, g3, g5, l6, hr]; (repeat' apply And.intro) <;> first | trivial | exact .inl (by decide +kernel)) ?_)); try simp (maxSteps := 2000000) only [undef, am0, am1, am2, am3, amb0, amb1, amb2, amb3, amb4, lwn, drn, callee, wantedB, isW, eff, pev, pst0, retPost, resAll, resP, resV, intP, mkV, putC, pbin, sbin, strsEq, peq, pint, pshift, pstr, pun, pconv, isShift, isConstB, app, subS, lay, rowsOf, lkV, keyKind, keyEq, mfind, mput, oInt, isZeroInt, forall_const, exists_eq_left', implies_true, IntKind.bits, ↓reduceIte, Nat.reduceEqDiff, Nat.reduceAdd, Nat.reduceSub, Nat.reduceMul, Nat.reduceLT, Nat.reduceLeDiff, Nat.reduceBEq, Int.reduceLE, Int.reduceLT, Int.reduceToNat, reduceCtorEq, Ty.all, g1, g3, g5, l6, hr])
            | (rw [if_pos]; rotate_left 1; omega; simp (maxSteps := 2000000) only [undef, am0, am1, am2, am3, amb0, amb1, amb2, amb3, amb4, lwn, drn, callee, wantedB, isW, eff, pev, pst0, retPost, resAll, resP, resV, intP, mkV, putC, pbin, sbin, strsEq, peq, pint, pshift, pstr, pun, pconv, isShift, isConstB, app, subS, lay, rowsOf, lkV, keyKind, keyEq, mfind, mput, oInt, isZeroInt, forall_const, exists_eq_left', implies_true, IntKind.bits, ↓reduceIte, Nat.reduceEqDiff, Nat.reduceAdd, Nat.reduceSub, Nat.reduceMul, Nat.reduceLT, Nat.reduceLeDiff, Nat.reduceBEq, Int.reduceLE, Int.reduceLT, Int.reduceToNat, reduceCtorEq, Ty.all, g1, g3, g5, l6, hr]))
          first
            | refine a_dcall0 (c2 _) (by (try simp only [undef, am0, am1, am2, am3, amb0, amb1, amb2, amb3, amb4, lwn, drn, callee, wantedB, isW, eff, pev, pst0, retPost, resAll, resP, resV, intP, mkV, putC, pbin, sbin, strsEq, peq, pint, pshift, pstr, pun, pconv, isShift, isConstB, app, subS, lay, rowsOf, lkV, keyKind, keyEq, mfind, mput, oInt, isZeroInt, forall_const, exists_eq_left', implies_true, IntKind.bits, ↓reduceIte, Nat.reduceEqDiff, Nat.reduceAdd, Nat.reduceSub, Nat.reduceMul, Nat.reduceLT, Nat.reduceLeDiff, Nat.reduceBEq, Int.reduceLE, Int.reduceLT, Int.reduceToNat, reduceCtorEq, g1, g3, g5, l6, hr]); try rfl) ?_
            | refine a_dcallA (c2 _) (by (try simp only [undef, am0, am1, am2, am3, amb0, amb1, amb2, amb3, amb4, lwn, drn, callee, wantedB, isW, eff, pev, pst0, retPost, resAll, resP, resV, intP, mkV, putC, pbin, sbin, strsEq, peq, pint, pshift, pstr, pun, pconv, isShift, isConstB, app, subS, lay, rowsOf, lkV, keyKind, keyEq, mfind, mput, oInt, isZeroInt, forall_const, exists_eq_left', implies_true, IntKind.bits, ↓reduceIte, Nat.reduceEqDiff, Nat.reduceAdd, Nat.reduceSub, Nat.reduceMul, Nat.reduceLT, Nat.reduceLeDiff, Nat.reduceBEq, Int.reduceLE, Int.reduceLT, Int.reduceToNat, reduceCtorEq, g1, g3, g5, l6, hr]); try rfl) (by simp only [undef, am0, am1, am2, am3, amb0, amb1, amb2, amb3, amb4, lwn, drn, callee, wantedB, isW, eff, pev, pst0, retPost, resAll, resP, resV, intP, mkV, putC, pbin, sbin, strsEq, peq, pint, pshift, pstr, pun, pconv, isShift, isConstB, app, subS, lay, rowsOf, lkV, keyKind, keyEq, mfind, mput, oInt, isZeroInt, forall_const, exists_eq_left', implies_true, IntKind.bits, ↓reduceIte, Nat.reduceEqDiff, Nat.reduceAdd, Nat.reduceSub, Nat.reduceMul, Nat.reduceLT, Nat.reduceLeDiff, Nat.reduceBEq, Int.reduceLE, Int.reduceLT, Int.reduceToNat, reduceCtorEq, Ty.all, g1, g3, g5, l6, hr]; try trivial) ?_
          simp (maxSteps := 2000000) only [undef, am0, am1, am2, am3, amb0, amb1, amb2, amb3, amb4, lwn, drn, callee, wantedB, isW, eff, pev, pst0, retPost, resAll, resP, resV, intP, mkV, putC, pbin, sbin, strsEq, peq, pint, pshift, pstr, pun, pconv, isShift, isConstB, app, subS, lay, rowsOf, lkV, keyKind, keyEq, mfind, mput, oInt, isZeroInt, forall_const, exists_eq_left', implies_true, IntKind.bits, ↓reduceIte, Nat.reduceEqDiff, Nat.reduceAdd, Nat.reduceSub, Nat.reduceMul, Nat.reduceLT, Nat.reduceLeDiff, Nat.reduceBEq, Int.reduceLE, Int.reduceLT, Int.reduceToNat, reduceCtorEq, Ty.all, Option.getD_some, g1, g3, g5, l6, hr]
          repeat' (first
            | (refine a_seq (fun K hK => ?_))
            | (refine a_block ?_)
            | ((first | refine a_regionS ?_ | refine a_drawS (by decide +kernel) ?_ | refine a_region (fun K hK => ?_) | refine a_draw (by decide +kernel) (fun K hK => ?_) | refine a_ret ?_); simp (maxSteps := 2000000) only [undef, am0, am1, am2, am3, amb0, amb1, amb2, amb3, amb4, lwn, drn, callee, wantedB, isW, eff, pev, pst0, retPost, resAll, resP, resV, intP, mkV, putC, pbin, sbin, strsEq, peq, pint, pshift, pstr, pun, pconv, isShift, isConstB, app, subS, lay, rowsOf, lkV, keyKind, keyEq, mfind, mput, oInt, isZeroInt, forall_const, exists_eq_left', implies_true, IntKind.bits, ↓reduceIte, Nat.reduceEqDiff, Nat.reduceAdd, Nat.reduceSub, Nat.reduceMul, Nat.reduceLT, Nat.reduceLeDiff, Nat.reduceBEq, Int.reduceLE, Int.reduceLT, Int.reduceToNat, reduceCtorEq, Ty.all, g1, g3, g5, l6, hr])
            | (refine a_skip ?_; try simp only [pst0, ↓reduceIte, Nat.reduceEqDiff])
            | (refine a_exit ?_; try simp only [pst0, ↓reduceIte, Nat.reduceEqDiff])
            | (refine a_cond _ (by (try simp (maxSteps := 2000000) only [undef, am0, am1, am2, am3, amb0, amb1, amb2, amb3, amb4, lwn, drn, callee, wantedB, isW, eff, pev, pst0, retPost, resAll, resP, resV, intP, mkV, putC, pbin, sbin, strsEq, peq, pint, pshift, pstr, pun, pconv, isShift, isConstB, app, subS, lay, rowsOf, lkV, keyKind, keyEq, mfind, mput, oInt, isZeroInt, forall_const, exists_eq_left', implies_true, IntKind.bits, ↓reduceIte, Nat.reduceEqDiff, Nat.reduceAdd, Nat.reduceSub, Nat.reduceMul, Nat.reduceLT, Nat.reduceLeDiff, Nat.reduceBEq, Int.reduceLE, Int.reduceLT, Int.reduceToNat, reduceCtorEq, Ty.all, g1, g3, g5, l6, hr]); rfl) (fun hb => ?_) (fun hb => ?_) <;> (try simp only [hb0, decide_eq_true_eq, decide_eq_false_iff_not, reduceCtorEq] at hb) <;> (try (exfalso; omega)))
            | (with_reducible refine ite_in (fun hb => ?_) (fun hb => ?_) <;> (try simp only [Decidable.not_not] at hb) <;> (try simp only [hb, if_true, if_false, not_false_eq_true, not_true_eq_false, ↓reduceIte]) <;> (try simp only [hb0, decide_eq_true_eq, decide_eq_false_iff_not, reduceCtorEq] at hb) <;> (try (exfalso; omega)))
            | (refine hK _ _ ?_; clear hK; try simp only [pst0, ↓reduceIte, Nat.reduceEqDiff])
            | (clear hK; refine hK _ _ ?_; clear hK; try simp only [pst0, ↓reduceIte, Nat.reduceEqDiff])
            | (clear hK; clear hK; refine hK _ _ ?_; clear hK; try simp only [pst0, ↓reduceIte, Nat.reduceEqDiff])
            | (clear hK; clear hK; clear hK; refine hK _ _ ?_; clear hK; try simp only [pst0, ↓reduceIte, Nat.reduceEqDiff])
            | ((first | (with_reducible refine a_past _ rfl (by decide +kernel) ?_) | (with_reducible refine a_past2 (by simp only [List.forall_mem_cons, undef, am0, am1, am2, am3, amb0, amb1, amb2, amb3, amb4, lwn, drn, callee, wantedB, isW, eff, pev, pst0, retPost, resAll, resP, resV, intP, mkV, putC, pbin, sbin, strsEq, peq, pint, pshift, pstr, pun, pconv, isShift, isConstB, app, subS, lay, rowsOf, lkV, keyKind, keyEq, mfind, mput, oInt, isZeroInt, forall_const, exists_eq_left', implies_true, IntKind.bits, ↓reduceIte, Nat.reduceEqDiff, Nat.reduceAdd, Nat.reduceSub, Nat.reduceMul, Nat.reduceLT, Nat.reduceLeDiff, Nat.reduceBEq, Int.reduceLE, Int.reduceLT, Int.reduceToNat, reduceCtorEq, Ty.all, g1, g3, g5, l6, hr]; (repeat' apply And.intro) <;> first | trivial | exact .inl (by decide +kernel)) ?_)); try simp (maxSteps := 2000000) only [undef, am0, am1, am2, am3, amb0, amb1, amb2, amb3, amb4, lwn, drn, callee, wantedB, isW, eff, pev, pst0, retPost, resAll, resP, resV, intP, mkV, putC, pbin, sbin, strsEq, peq, pint, pshift, pstr, pun, pconv, isShift, isConstB, app, subS, lay, rowsOf, lkV, keyKind, keyEq, mfind, mput, oInt, isZeroInt, forall_const, exists_eq_left', implies_true, IntKind.bits, ↓reduceIte, Nat.reduceEqDiff, Nat.reduceAdd, Nat.reduceSub, Nat.reduceMul, Nat.reduceLT, Nat.reduceLeDiff, Nat.reduceBEq, Int.reduceLE, Int.reduceLT, Int.reduceToNat, reduceCtorEq, Ty.all, g1, g3, g5, l6, hr])
            | (rw [if_pos]; rotate_left 1; omega; simp (maxSteps := 2000000) only [undef, am0, am1, am2, am3, amb0, amb1, amb2, amb3, amb4, lwn, drn, callee, wantedB, isW, eff, pev, pst0, retPost, resAll, resP, resV, intP, mkV, putC, pbin, sbin, strsEq, peq, pint, pshift, pstr, pun, pconv, isShift, isConstB, app, subS, lay, rowsOf, lkV, keyKind, keyEq, mfind, mput, oInt, isZeroInt, forall_const, exists_eq_left', implies_true, IntKind.bits, ↓reduceIte, Nat.reduceEqDiff, Nat.reduceAdd, Nat.reduceSub, Nat.reduceMul, Nat.reduceLT, Nat.reduceLeDiff, Nat.reduceBEq, Int.reduceLE, Int.reduceLT, Int.reduceToNat, reduceCtorEq, Ty.all, g1, g3, g5, l6, hr]))
          first
            | refine a_dcall0 (c3 _) (by (try simp only [undef, am0, am1, am2, am3, amb0, amb1, amb2, amb3, amb4, lwn, drn, callee, wantedB, isW, eff, pev, pst0, retPost, resAll, resP, resV, intP, mkV, putC, pbin, sbin, strsEq, peq, pint, pshift, pstr, pun, pconv, isShift, isConstB, app, subS, lay, rowsOf, lkV, keyKind, keyEq, mfind, mput, oInt, isZeroInt, forall_const, exists_eq_left', implies_true, IntKind.bits, ↓reduceIte, Nat.reduceEqDiff, Nat.reduceAdd, Nat.reduceSub, Nat.reduceMul, Nat.reduceLT, Nat.reduceLeDiff, Nat.reduceBEq, Int.reduceLE, Int.reduceLT, Int.reduceToNat, reduceCtorEq, g1, g3, g5, l6, hr]); try rfl) ?_
            | refine a_dcallA (c3 _) (by (try simp only [undef, am0, am1, am2, am3, amb0, amb1, amb2, amb3, amb4, lwn, drn, callee, wantedB, isW, eff, pev, pst0, retPost, resAll, resP, resV, intP, mkV, putC, pbin, sbin, strsEq, peq, pint, pshift, pstr, pun, pconv, isShift, isConstB, app, subS, lay, rowsOf, lkV, keyKind, keyEq, mfind, mput, oInt, isZeroInt, forall_const, exists_eq_left', implies_true, IntKind.bits, ↓reduceIte, Nat.reduceEqDiff, Nat.reduceAdd, Nat.reduceSub, Nat.reduceMul, Nat.reduceLT, Nat.reduceLeDiff, Nat.reduceBEq, Int.reduceLE, Int.reduceLT, Int.reduceToNat, reduceCtorEq, g1, g3, g5, l6, hr]); try rfl) (by simp only [undef, am0, am1, am2, am3, amb0, amb1, amb2, amb3, amb4, lwn, drn, callee, wantedB, isW, eff, pev, pst0, retPost, resAll, resP, resV, intP, mkV, putC, pbin, sbin, strsEq, peq, pint, pshift, pstr, pun, pconv, isShift, isConstB, app, subS, lay, rowsOf, lkV, keyKind, keyEq, mfind, mput, oInt, isZeroInt, forall_const, exists_eq_left', implies_true, IntKind.bits, ↓reduceIte, Nat.reduceEqDiff, Nat.reduceAdd, Nat.reduceSub, Nat.reduceMul, Nat.reduceLT, Nat.reduceLeDiff, Nat.reduceBEq, Int.reduceLE, Int.reduceLT, Int.reduceToNat, reduceCtorEq, Ty.all, g1, g3, g5, l6, hr]; try trivial) ?_
          simp (maxSteps := 2000000) only [undef, am0, am1, am2, am3, amb0, amb1, amb2, amb3, amb4, lwn, drn, callee, wantedB, isW, eff, pev, pst0, retPost, resAll, resP, resV, intP, mkV, putC, pbin, sbin, strsEq, peq, pint, pshift, pstr, pun, pconv, isShift, isConstB, app, subS, lay, rowsOf, lkV, keyKind, keyEq, mfind, mput, oInt, isZeroInt, forall_const, exists_eq_left', implies_true, IntKind.bits, ↓reduceIte, Nat.reduceEqDiff, Nat.reduceAdd, Nat.reduceSub, Nat.reduceMul, Nat.reduceLT, Nat.reduceLeDiff, Nat.reduceBEq, Int.reduceLE, Int.reduceLT, Int.reduceToNat, reduceCtorEq, Ty.all, Option.getD_some, g1, g3, g5, l6, hr]
          repeat' (first
            | (refine a_seq (fun K hK => ?_))
            | (refine a_block ?_)
            | ((first | refine a_regionS ?_ | refine a_drawS (by decide +kernel) ?_ | refine a_region (fun K hK => ?_) | refine a_draw (by decide +kernel) (fun K hK => ?_) | refine a_ret ?_); simp (maxSteps := 2000000) only [undef, am0, am1, am2, am3, amb0, amb1, amb2, amb3, amb4, lwn, drn, callee, wantedB, isW, eff, pev, pst0, retPost, resAll, resP, resV, intP, mkV, putC, pbin, sbin, strsEq, peq, pint, pshift, pstr, pun, pconv, isShift, isConstB, app, subS, lay, rowsOf, lkV, keyKind, keyEq, mfind, mput, oInt, isZeroInt, forall_const, exists_eq_left', implies_true, IntKind.bits, ↓reduceIte, Nat.reduceEqDiff, Nat.reduceAdd, Nat.reduceSub, Nat.reduceMul, Nat.reduceLT, Nat.reduceLeDiff, Nat.reduceBEq, Int.reduceLE, Int.reduceLT, Int.reduceToNat, reduceCtorEq, Ty.all, g1, g3, g5, l6, hr])
            | (refine a_skip ?_; try simp only [pst0, ↓reduceIte, Nat.reduceEqDiff])
            | (refine a_exit ?_; try simp only [pst0, ↓reduceIte, Nat.reduceEqDiff])
            | (refine a_cond _ (by (try simp (maxSteps := 2000000) only [undef, am0, am1, am2, am3, amb0, amb1, amb2, amb3, amb4, lwn, drn, callee, wantedB, isW, eff, pev, pst0, retPost, resAll, resP, resV, intP, mkV, putC, pbin, sbin, strsEq, peq, pint, pshift, pstr, pun, pconv, isShift, isConstB, app, subS, lay, rowsOf, lkV, keyKind, keyEq, mfind, mput, oInt, isZeroInt, forall_const, exists_eq_left', implies_true, IntKind.bits, ↓reduceIte, Nat.reduceEqDiff, Nat.reduceAdd, Nat.reduceSub, Nat.reduceMul, Nat.reduceLT, Nat.reduceLeDiff, Nat.reduceBEq, Int.reduceLE, Int.reduceLT, Int.reduceToNat, reduceCtorEq, Ty.all, g1, g3, g5, l6, hr]); rfl) (fun hb => ?_) (fun hb => ?_) <;> (try simp only [hb0, decide_eq_true_eq, decide_eq_false_iff_not, reduceCtorEq] at hb) <;> (try (exfalso; omega)))
            | (with_reducible refine ite_in (fun hb => ?_) (fun hb => ?_) <;> (try simp only [Decidable.not_not] at hb) <;> (try simp only [hb, if_true, if_false, not_false_eq_true, not_true_eq_false, ↓reduceIte]) <;> (try simp only [hb0, decide_eq_true_eq, decide_eq_false_iff_not, reduceCtorEq] at hb) <;> (try (exfalso; omega)))
            | (refine hK _ _ ?_; clear hK; try simp only [pst0, ↓reduceIte, Nat.reduceEqDiff])
            | (clear hK; refine hK _ _ ?_; clear hK; try simp only [pst0, ↓reduceIte, Nat.reduceEqDiff])
            | (clear hK; clear hK; refine hK _ _ ?_; clear hK; try simp only [pst0, ↓reduceIte, Nat.reduceEqDiff])
            | (clear hK; clear hK; clear hK; refine hK _ _ ?_; clear hK; try simp only [pst0, ↓reduceIte, Nat.reduceEqDiff])
            | ((first | (with_reducible refine a_past _ rfl (by decide +kernel) ?_) | (with_reducible refine a_past2 (by simp only [List.forall_mem_cons, undef, am0, am1, am2, am3, amb0, amb1, amb2, amb3, amb4, lwn, drn, callee, wantedB, isW, eff, pev, pst0, retPost, resAll, resP, resV, intP, mkV, putC, pbin, sbin, strsEq, peq, pint, pshift, pstr, pun, pconv, isShift, isConstB, app, subS, lay, rowsOf, lkV, keyKind, keyEq, mfind, mput, oInt, isZeroInt, forall_const, exists_eq_left', implies_true, IntKind.bits, ↓reduceIte, Nat.reduceEqDiff, Nat.reduceAdd, Nat.reduceSub, Nat.reduceMul, Nat.reduceLT, Nat.reduceLeDiff, Nat.reduceBEq, Int.reduceLE, Int.reduceLT, Int.reduceToNat, reduceCtorEq, Ty.all, g1, g3, g5, l6, hr]; (repeat' apply And.intro) <;> first | trivial | exact .inl (by decide +kernel)) ?_)); try simp (maxSteps := 2000000) only [undef, am0, am1, am2, am3, amb0, amb1, amb2, amb3, amb4, lwn, drn, callee, wantedB, isW, eff, pev, pst0, retPost, resAll, resP, resV, intP, mkV, putC, pbin, sbin, strsEq, peq, pint, pshift, pstr, pun, pconv, isShift, isConstB, app, subS, lay, rowsOf, lkV, keyKind, keyEq, mfind, mput, oInt, isZeroInt, forall_const, exists_eq_left', implies_true, IntKind.bits, ↓reduceIte, Nat.reduceEqDiff, Nat.reduceAdd, Nat.reduceSub, Nat.reduceMul, Nat.reduceLT, Nat.reduceLeDiff, Nat.reduceBEq, Int.reduceLE, Int.reduceLT, Int.reduceToNat, reduceCtorEq, Ty.all, g1, g3, g5, l6, hr])
            | (rw [if_pos]; rotate_left 1; omega; simp (maxSteps := 2000000) only [undef, am0, am1, am2, am3, amb0, amb1, amb2, amb3, amb4, lwn, drn, callee, wantedB, isW, eff, pev, pst0, retPost, resAll, resP, resV, intP, mkV, putC, pbin, sbin, strsEq, peq, pint, pshift, pstr, pun, pconv, isShift, isConstB, app, subS, lay, rowsOf, lkV, keyKind, keyEq, mfind, mput, oInt, isZeroInt, forall_const, exists_eq_left', implies_true, IntKind.bits, ↓reduceIte, Nat.reduceEqDiff, Nat.reduceAdd, Nat.reduceSub, Nat.reduceMul, Nat.reduceLT, Nat.reduceLeDiff, Nat.reduceBEq, Int.reduceLE, Int.reduceLT, Int.reduceToNat, reduceCtorEq, Ty.all, g1, g3, g5, l6, hr]))
          first
            | refine a_dcall0 (c4 _) (by (try simp only [undef, am0, am1, am2, am3, amb0, amb1, amb2, amb3, amb4, lwn, drn, callee, wantedB, isW, eff, pev, pst0, retPost, resAll, resP, resV, intP, mkV, putC, pbin, sbin, strsEq, peq, pint, pshift, pstr, pun, pconv, isShift, isConstB, app, subS, lay, rowsOf, lkV, keyKind, keyEq, mfind, mput, oInt, isZeroInt, forall_const, exists_eq_left', implies_true, IntKind.bits, ↓reduceIte, Nat.reduceEqDiff, Nat.reduceAdd, Nat.reduceSub, Nat.reduceMul, Nat.reduceLT, Nat.reduceLeDiff, Nat.reduceBEq, Int.reduceLE, Int.reduceLT, Int.reduceToNat, reduceCtorEq, g1, g3, g5, l6, hr]); try rfl) ?_
            | refine a_dcallA (c4 _) (by (try simp only [undef, am0, am1, am2, am3, amb0, amb1, amb2, amb3, amb4, lwn, drn, callee, wantedB, isW, eff, pev, pst0, retPost, resAll, resP, resV, intP, mkV, putC, pbin, sbin, strsEq, peq, pint, pshift, pstr, pun, pconv, isShift, isConstB, app, subS, lay, rowsOf, lkV, keyKind, keyEq, mfind, mput, oInt, isZeroInt, forall_const, exists_eq_left', implies_true, IntKind.bits, ↓reduceIte, Nat.reduceEqDiff, Nat.reduceAdd, Nat.reduceSub, Nat.reduceMul, Nat.reduceLT, Nat.reduceLeDiff, Nat.reduceBEq, Int.reduceLE, Int.reduceLT, Int.reduceToNat, reduceCtorEq, g1, g3, g5, l6, hr]); try rfl) (by simp only [undef, am0, am1, am2, am3, amb0, amb1, amb2, amb3, amb4, lwn, drn, callee, wantedB, isW, eff, pev, pst0, retPost, resAll, resP, resV, intP, mkV, putC, pbin, sbin, strsEq, peq, pint, pshift, pstr, pun, pconv, isShift, isConstB, app, subS, lay, rowsOf, lkV, keyKind, keyEq, mfind, mput, oInt, isZeroInt, forall_const, exists_eq_left', implies_true, IntKind.bits, ↓reduceIte, Nat.reduceEqDiff, Nat.reduceAdd, Nat.reduceSub, Nat.reduceMul, Nat.reduceLT, Nat.reduceLeDiff, Nat.reduceBEq, Int.reduceLE, Int.reduceLT, Int.reduceToNat, reduceCtorEq, Ty.all, g1, g3, g5, l6, hr]; try trivial) ?_
          simp (maxSteps := 2000000) only [undef, am0, am1, am2, am3, amb0, amb1, amb2, amb3, amb4, lwn, drn, callee, wantedB, isW, eff, pev, pst0, retPost, resAll, resP, resV, intP, mkV, putC, pbin, sbin, strsEq, peq, pint, pshift, pstr, pun, pconv, isShift, isConstB, app, subS, lay, rowsOf, lkV, keyKind, keyEq, mfind, mput, oInt, isZeroInt, forall_const, exists_eq_left', implies_true, IntKind.bits, ↓reduceIte, Nat.reduceEqDiff, Nat.reduceAdd, Nat.reduceSub, Nat.reduceMul, Nat.reduceLT, Nat.reduceLeDiff, Nat.reduceBEq, Int.reduceLE, Int.reduceLT, Int.reduceToNat, reduceCtorEq, Ty.all, Option.getD_some, g1, g3, g5, l6, hr]
          repeat' (first
            | (refine a_seq (fun K hK => ?_))
            | (refine a_block ?_)
            | ((first | refine a_regionS ?_ | refine a_drawS (by decide +kernel) ?_ | refine a_region (fun K hK => ?_) | refine a_draw (by decide +kernel) (fun K hK => ?_) | refine a_ret ?_); simp (maxSteps := 2000000) only [undef, am0, am1, am2, am3, amb0, amb1, amb2, amb3, amb4, lwn, drn, callee, wantedB, isW, eff, pev, pst0, retPost, resAll, resP, resV, intP, mkV, putC, pbin, sbin, strsEq, peq, pint, pshift, pstr, pun, pconv, isShift, isConstB, app, subS, lay, rowsOf, lkV, keyKind, keyEq, mfind, mput, oInt, isZeroInt, forall_const, exists_eq_left', implies_true, IntKind.bits, ↓reduceIte, Nat.reduceEqDiff, Nat.reduceAdd, Nat.reduceSub, Nat.reduceMul, Nat.reduceLT, Nat.reduceLeDiff, Nat.reduceBEq, Int.reduceLE, Int.reduceLT, Int.reduceToNat, reduceCtorEq, Ty.all, g1, g3, g5, l6, hr])
            | (refine a_skip ?_; try simp only [pst0, ↓reduceIte, Nat.reduceEqDiff])
            | (refine a_exit ?_; try simp only [pst0, ↓reduceIte, Nat.reduceEqDiff])
            | (refine a_cond _ (by (try simp (maxSteps := 2000000) only [undef, am0, am1, am2, am3, amb0, amb1, amb2, amb3, amb4, lwn, drn, callee, wantedB, isW, eff, pev, pst0, retPost, resAll, resP, resV, intP, mkV, putC, pbin, sbin, strsEq, peq, pint, pshift, pstr, pun, pconv, isShift, isConstB, app, subS, lay, rowsOf, lkV, keyKind, keyEq, mfind, mput, oInt, isZeroInt, forall_const, exists_eq_left', implies_true, IntKind.bits, ↓reduceIte, Nat.reduceEqDiff, Nat.reduceAdd, Nat.reduceSub, Nat.reduceMul, Nat.reduceLT, Nat.reduceLeDiff, Nat.reduceBEq, Int.reduceLE, Int.reduceLT, Int.reduceToNat, reduceCtorEq, Ty.all, g1, g3, g5, l6, hr]); rfl) (fun hb => ?_) (fun hb => ?_) <;> (try simp only [hb0, decide_eq_true_eq, decide_eq_false_iff_not, reduceCtorEq] at hb) <;> (try (exfalso; omega)))
            | (with_reducible refine ite_in (fun hb => ?_) (fun hb => ?_) <;> (try simp only [Decidable.not_not] at hb) <;> (try simp only [hb, if_true, if_false, not_false_eq_true, not_true_eq_false, ↓reduceIte]) <;> (try simp only [hb0, decide_eq_true_eq, decide_eq_false_iff_not, reduceCtorEq] at hb) <;> (try (exfalso; omega)))
            | (refine hK _ _ ?_; clear hK; try simp only [pst0, ↓reduceIte, Nat.reduceEqDiff])
            | (clear hK; refine hK _ _ ?_; clear hK; try simp only [pst0, ↓reduceIte, Nat.reduceEqDiff])
            | (clear hK; clear hK; refine hK _ _ ?_; clear hK; try simp only [pst0, ↓reduceIte, Nat.reduceEqDiff])
            | (clear hK; clear hK; clear hK; refine hK _ _ ?_; clear hK; try simp only [pst0, ↓reduceIte, Nat.reduceEqDiff])
            | ((first | (with_reducible refine a_past _ rfl (by decide +kernel) ?_) | (with_reducible refine a_past2 (by simp only [List.forall_mem_cons, undef, am0, am1, am2, am3, amb0, amb1, amb2, amb3, amb4, lwn, drn, callee, wantedB, isW, eff, pev, pst0, retPost, resAll, resP, resV, intP, mkV, putC, pbin, sbin, strsEq, peq, pint, pshift, pstr, pun, pconv, isShift, isConstB, app, subS, lay, rowsOf, lkV, keyKind, keyEq, mfind, mput, oInt, isZeroInt, forall_const, exists_eq_left', implies_true, IntKind.bits, ↓reduceIte, Nat.reduceEqDiff, Nat.reduceAdd, Nat.reduceSub, Nat.reduceMul, Nat.reduceLT, Nat.reduceLeDiff, Nat.reduceBEq, Int.reduceLE, Int.reduceLT, Int.reduceToNat, reduceCtorEq, Ty.all, g1, g3, g5, l6, hr]; (repeat' apply And.intro) <;> first | trivial | exact .inl (by decide +kernel)) ?_)); try simp (maxSteps := 2000000) only [undef, am0, am1, am2, am3, amb0, amb1, amb2, amb3, amb4, lwn, drn, callee, wantedB, isW, eff, pev, pst0, retPost, resAll, resP, resV, intP, mkV, putC, pbin, sbin, strsEq, peq, pint, pshift, pstr, pun, pconv, isShift, isConstB, app, subS, lay, rowsOf, lkV, keyKind, keyEq, mfind, mput, oInt, isZeroInt, forall_const, exists_eq_left', implies_true, IntKind.bits, ↓reduceIte, Nat.reduceEqDiff, Nat.reduceAdd, Nat.reduceSub, Nat.reduceMul, Nat.reduceLT, Nat.reduceLeDiff, Nat.reduceBEq, Int.reduceLE, Int.reduceLT, Int.reduceToNat, reduceCtorEq, Ty.all, g1, g3, g5, l6, hr])
            | (rw [if_pos]; rotate_left 1; omega; simp (maxSteps := 2000000) only [undef, am0, am1, am2, am3, amb0, amb1, amb2, amb3, amb4, lwn, drn, callee, wantedB, isW, eff, pev, pst0, retPost, resAll, resP, resV, intP, mkV, putC, pbin, sbin, strsEq, peq, pint, pshift, pstr, pun, pconv, isShift, isConstB, app, subS, lay, rowsOf, lkV, keyKind, keyEq, mfind, mput, oInt, isZeroInt, forall_const, exists_eq_left', implies_true, IntKind.bits, ↓reduceIte, Nat.reduceEqDiff, Nat.reduceAdd, Nat.reduceSub, Nat.reduceMul, Nat.reduceLT, Nat.reduceLeDiff, Nat.reduceBEq, Int.reduceLE, Int.reduceLT, Int.reduceToNat, reduceCtorEq, Ty.all, g1, g3, g5, l6, hr]))
          first
            | refine a_dcall0 (c5 _) (by (try simp only [undef, am0, am1, am2, am3, amb0, amb1, amb2, amb3, amb4, lwn, drn, callee, wantedB, isW, eff, pev, pst0, retPost, resAll, resP, resV, intP, mkV, putC, pbin, sbin, strsEq, peq, pint, pshift, pstr, pun, pconv, isShift, isConstB, app, subS, lay, rowsOf, lkV, keyKind, keyEq, mfind, mput, oInt, isZeroInt, forall_const, exists_eq_left', implies_true, IntKind.bits, ↓reduceIte, Nat.reduceEqDiff, Nat.reduceAdd, Nat.reduceSub, Nat.reduceMul, Nat.reduceLT, Nat.reduceLeDiff, Nat.reduceBEq, Int.reduceLE, Int.reduceLT, Int.reduceToNat, reduceCtorEq, g1, g3, g5, l6, hr]); try rfl) ?_
            | refine a_dcallA (c5 _) (by (try simp only [undef, am0, am1, am2, am3, amb0, amb1, amb2, amb3, amb4, lwn, drn, callee, wantedB, isW, eff, pev, pst0, retPost, resAll, resP, resV, intP, mkV, putC, pbin, sbin, strsEq, peq, pint, pshift, pstr, pun, pconv, isShift, isConstB, app, subS, lay, rowsOf, lkV, keyKind, keyEq, mfind, mput, oInt, isZeroInt, forall_const, exists_eq_left', implies_true, IntKind.bits, ↓reduceIte, Nat.reduceEqDiff, Nat.reduceAdd, Nat.reduceSub, Nat.reduceMul, Nat.reduceLT, Nat.reduceLeDiff, Nat.reduceBEq, Int.reduceLE, Int.reduceLT, Int.reduceToNat, reduceCtorEq, g1, g3, g5, l6, hr]); try rfl) (by simp only [undef, am0, am1, am2, am3, amb0, amb1, amb2, amb3, amb4, lwn, drn, callee, wantedB, isW, eff, pev, pst0, retPost, resAll, resP, resV, intP, mkV, putC, pbin, sbin, strsEq, peq, pint, pshift, pstr, pun, pconv, isShift, isConstB, app, subS, lay, rowsOf, lkV, keyKind, keyEq, mfind, mput, oInt, isZeroInt, forall_const, exists_eq_left', implies_true, IntKind.bits, ↓reduceIte, Nat.reduceEqDiff, Nat.reduceAdd, Nat.reduceSub, Nat.reduceMul, Nat.reduceLT, Nat.reduceLeDiff, Nat.reduceBEq, Int.reduceLE, Int.reduceLT, Int.reduceToNat, reduceCtorEq, Ty.all, g1, g3, g5, l6, hr]; try trivial) ?_
          simp (maxSteps := 2000000) only [undef, am0, am1, am2, am3, amb0, amb1, amb2, amb3, amb4, lwn, drn, callee, wantedB, isW, eff, pev, pst0, retPost, resAll, resP, resV, intP, mkV, putC, pbin, sbin, strsEq, peq, pint, pshift, pstr, pun, pconv, isShift, isConstB, app, subS, lay, rowsOf, lkV, keyKind, keyEq, mfind, mput, oInt, isZeroInt, forall_const, exists_eq_left', implies_true, IntKind.bits, ↓reduceIte, Nat.reduceEqDiff, Nat.reduceAdd, Nat.reduceSub, Nat.reduceMul, Nat.reduceLT, Nat.reduceLeDiff, Nat.reduceBEq, Int.reduceLE, Int.reduceLT, Int.reduceToNat, reduceCtorEq, Ty.all, Option.getD_some, g1, g3, g5, l6, hr]
          repeat' (first
            | (refine a_seq (fun K hK => ?_))
            | (refine a_block ?_)
            | ((first | refine a_regionS ?_ | refine a_drawS (by decide +kernel) ?_ | refine a_region (fun K hK => ?_) | refine a_draw (by decide +kernel) (fun K hK => ?_) | refine a_ret ?_); simp (maxSteps := 2000000) only [undef, am0, am1, am2, am3, amb0, amb1, amb2, amb3, amb4, lwn, drn, callee, wantedB, isW, eff, pev, pst0, retPost, resAll, resP, resV, intP, mkV, putC, pbin, sbin, strsEq, peq, pint, pshift, pstr, pun, pconv, isShift, isConstB, app, subS, lay, rowsOf, lkV, keyKind, keyEq, mfind, mput, oInt, isZeroInt, forall_const, exists_eq_left', implies_true, IntKind.bits, ↓reduceIte, Nat.reduceEqDiff, Nat.reduceAdd, Nat.reduceSub, Nat.reduceMul, Nat.reduceLT, Nat.reduceLeDiff, Nat.reduceBEq, Int.reduceLE, Int.reduceLT, Int.reduceToNat, reduceCtorEq, Ty.all, g1, g3, g5, l6, hr, w7])
            | (refine a_skip ?_; try simp only [pst0, ↓reduceIte, Nat.reduceEqDiff])
            | (refine a_exit ?_; try simp only [pst0, ↓reduceIte, Nat.reduceEqDiff])
            | (refine a_cond _ (by (try simp (maxSteps := 2000000) only [undef, am0, am1, am2, am3, amb0, amb1, amb2, amb3, amb4, lwn, drn, callee, wantedB, isW, eff, pev, pst0, retPost, resAll, resP, resV, intP, mkV, putC, pbin, sbin, strsEq, peq, pint, pshift, pstr, pun, pconv, isShift, isConstB, app, subS, lay, rowsOf, lkV, keyKind, keyEq, mfind, mput, oInt, isZeroInt, forall_const, exists_eq_left', implies_true, IntKind.bits, ↓reduceIte, Nat.reduceEqDiff, Nat.reduceAdd, Nat.reduceSub, Nat.reduceMul, Nat.reduceLT, Nat.reduceLeDiff, Nat.reduceBEq, Int.reduceLE, Int.reduceLT, Int.reduceToNat, reduceCtorEq, Ty.all, g1, g3, g5, l6, hr, w7]); rfl) (fun hb => ?_) (fun hb => ?_) <;> (try simp only [hb0, decide_eq_true_eq, decide_eq_false_iff_not, reduceCtorEq] at hb) <;> (try (exfalso; omega)))
            | (with_reducible refine ite_in (fun hb => ?_) (fun hb => ?_) <;> (try simp only [Decidable.not_not] at hb) <;> (try simp only [hb, if_true, if_false, not_false_eq_true, not_true_eq_false, ↓reduceIte]) <;> (try simp only [hb0, decide_eq_true_eq, decide_eq_false_iff_not, reduceCtorEq] at hb) <;> (try (exfalso; omega)))
            | (refine hK _ _ ?_; clear hK; try simp only [pst0, ↓reduceIte, Nat.reduceEqDiff])
            | (clear hK; refine hK _ _ ?_; clear hK; try simp only [pst0, ↓reduceIte, Nat.reduceEqDiff])
            | (clear hK; clear hK; refine hK _ _ ?_; clear hK; try simp only [pst0, ↓reduceIte, Nat.reduceEqDiff])
            | (clear hK; clear hK; clear hK; refine hK _ _ ?_; clear hK; try simp only [pst0, ↓reduceIte, Nat.reduceEqDiff])
            | ((first | (with_reducible refine a_past _ rfl (by decide +kernel) ?_) | (with_reducible refine a_past2 (by simp only [List.forall_mem_cons, undef, am0, am1, am2, am3, amb0, amb1, amb2, amb3, amb4, lwn, drn, callee, wantedB, isW, eff, pev, pst0, retPost, resAll, resP, resV, intP, mkV, putC, pbin, sbin, strsEq, peq, pint, pshift, pstr, pun, pconv, isShift, isConstB, app, subS, lay, rowsOf, lkV, keyKind, keyEq, mfind, mput, oInt, isZeroInt, forall_const, exists_eq_left', implies_true, IntKind.bits, ↓reduceIte, Nat.reduceEqDiff, Nat.reduceAdd, Nat.reduceSub, Nat.reduceMul, Nat.reduceLT, Nat.reduceLeDiff, Nat.reduceBEq, Int.reduceLE, Int.reduceLT, Int.reduceToNat, reduceCtorEq, Ty.all, g1, g3, g5, l6, hr, w7]; (repeat' apply And.intro) <;> first | trivial | exact .inl (by decide +kernel)) ?_)); try simp (maxSteps := 2000000) only [undef, am0, am1, am2, am3, amb0, amb1, amb2, amb3, amb4, lwn, drn, callee, wantedB, isW, eff, pev, pst0, retPost, resAll, resP, resV, intP, mkV, putC, pbin, sbin, strsEq, peq, pint, pshift, pstr, pun, pconv, isShift, isConstB, app, subS, lay, rowsOf, lkV, keyKind, keyEq, mfind, mput, oInt, isZeroInt, forall_const, exists_eq_left', implies_true, IntKind.bits, ↓reduceIte, Nat.reduceEqDiff, Nat.reduceAdd, Nat.reduceSub, Nat.reduceMul, Nat.reduceLT, Nat.reduceLeDiff, Nat.reduceBEq, Int.reduceLE, Int.reduceLT, Int.reduceToNat, reduceCtorEq, Ty.all, g1, g3, g5, l6, hr, w7])
            | (rw [if_pos]; rotate_left 1; omega; simp (maxSteps := 2000000) only [undef, am0, am1, am2, am3, amb0, amb1, amb2, amb3, amb4, lwn, drn, callee, wantedB, isW, eff, pev, pst0, retPost, resAll, resP, resV, intP, mkV, putC, pbin, sbin, strsEq, peq, pint, pshift, pstr, pun, pconv, isShift, isConstB, app, subS, lay, rowsOf, lkV, keyKind, keyEq, mfind, mput, oInt, isZeroInt, forall_const, exists_eq_left', implies_true, IntKind.bits, ↓reduceIte, Nat.reduceEqDiff, Nat.reduceAdd, Nat.reduceSub, Nat.reduceMul, Nat.reduceLT, Nat.reduceLeDiff, Nat.reduceBEq, Int.reduceLE, Int.reduceLT, Int.reduceToNat, reduceCtorEq, Ty.all, g1, g3, g5, l6, hr, w7]))
          exact ⟨duratives.length - (k + 1), by omega, (hg.new _).set hg.le _, by rw [hC], k + 1, _, by simp, rfl, by omega, rfl, hinv⟩
        · have hd : decide ((k : Int) < (duratives.length : Int)) = false := by simp; omega
          rw [List.drop_eq_nil_of_le (by omega)] at hinv
          simp only [dursM] at hinv
          repeat' (first
            | (refine a_seq (fun K hK => ?_))
            | (refine a_block ?_)
            | ((first | refine a_regionS ?_ | refine a_region (fun K hK => ?_) | refine a_ret ?_); simp (maxSteps := 2000000) only [undef, am0, am1, am2, am3, amb0, amb1, amb2, amb3, amb4, lwn, drn, callee, wantedB, isW, eff, pev, pst0, retPost, resAll, resP, resV, intP, mkV, putC, pbin, sbin, strsEq, peq, pint, pshift, pstr, pun, pconv, isShift, isConstB, app, subS, lay, rowsOf, lkV, keyKind, keyEq, mfind, mput, oInt, isZeroInt, forall_const, exists_eq_left', implies_true, IntKind.bits, ↓reduceIte, Nat.reduceEqDiff, Nat.reduceAdd, Nat.reduceSub, Nat.reduceMul, Nat.reduceLT, Nat.reduceLeDiff, Nat.reduceBEq, Int.reduceLE, Int.reduceLT, Int.reduceToNat, reduceCtorEq, Ty.all, g1, g3, g5, l6, hd])
            | (refine a_skip ?_; try simp only [pst0, ↓reduceIte, Nat.reduceEqDiff])
            | (refine a_exit ?_; try simp only [pst0, ↓reduceIte, Nat.reduceEqDiff])
            | (refine a_cond _ (by (try simp (maxSteps := 2000000) only [undef, am0, am1, am2, am3, amb0, amb1, amb2, amb3, amb4, lwn, drn, callee, wantedB, isW, eff, pev, pst0, retPost, resAll, resP, resV, intP, mkV, putC, pbin, sbin, strsEq, peq, pint, pshift, pstr, pun, pconv, isShift, isConstB, app, subS, lay, rowsOf, lkV, keyKind, keyEq, mfind, mput, oInt, isZeroInt, forall_const, exists_eq_left', implies_true, IntKind.bits, ↓reduceIte, Nat.reduceEqDiff, Nat.reduceAdd, Nat.reduceSub, Nat.reduceMul, Nat.reduceLT, Nat.reduceLeDiff, Nat.reduceBEq, Int.reduceLE, Int.reduceLT, Int.reduceToNat, reduceCtorEq, Ty.all, g1, g3, g5, l6, hd]); rfl) (fun hb => ?_) (fun hb => ?_) <;> (try simp only [hb0, decide_eq_true_eq, decide_eq_false_iff_not, reduceCtorEq] at hb) <;> (try (exfalso; omega)))
            | (with_reducible refine ite_in (fun hb => ?_) (fun hb => ?_) <;> (try simp only [Decidable.not_not] at hb) <;> (try simp only [hb, if_true, if_false, not_false_eq_true, not_true_eq_false, ↓reduceIte]) <;> (try simp only [hb0, decide_eq_true_eq, decide_eq_false_iff_not, reduceCtorEq] at hb) <;> (try (exfalso; omega)))
            | (refine hK _ _ ?_; clear hK; try simp only [pst0, ↓reduceIte, Nat.reduceEqDiff])
            | (clear hK; refine hK _ _ ?_; clear hK; try simp only [pst0, ↓reduceIte, Nat.reduceEqDiff])
            | (clear hK; clear hK; refine hK _ _ ?_; clear hK; try simp only [pst0, ↓reduceIte, Nat.reduceEqDiff])
            | (clear hK; clear hK; clear hK; refine hK _ _ ?_; clear hK; try simp only [pst0, ↓reduceIte, Nat.reduceEqDiff])
            | (rw [if_pos]; rotate_left 1; omega; simp (maxSteps := 2000000) only [undef, am0, am1, am2, am3, amb0, amb1, amb2, amb3, amb4, lwn, drn, callee, wantedB, isW, eff, pev, pst0, retPost, resAll, resP, resV, intP, mkV, putC, pbin, sbin, strsEq, peq, pint, pshift, pstr, pun, pconv, isShift, isConstB, app, subS, lay, rowsOf, lkV, keyKind, keyEq, mfind, mput, oInt, isZeroInt, forall_const, exists_eq_left', implies_true, IntKind.bits, ↓reduceIte, Nat.reduceEqDiff, Nat.reduceAdd, Nat.reduceSub, Nat.reduceMul, Nat.reduceLT, Nat.reduceLeDiff, Nat.reduceBEq, Int.reduceLE, Int.reduceLT, Int.reduceToNat, reduceCtorEq, Ty.all, g1, g3, g5, l6, hd]))
          simp only [undef, am0, am1, am2, am3, amb0, amb1, amb2, amb3, amb4, lwn, drn, callee, wantedB, isW, eff, pev, pst0, retPost, resAll, resP, resV, intP, mkV, putC, pbin, sbin, strsEq, peq, pint, pshift, pstr, pun, pconv, isShift, isConstB, app, subS, lay, rowsOf, lkV, keyKind, keyEq, mfind, mput, oInt, isZeroInt, forall_const, exists_eq_left', implies_true, IntKind.bits, ↓reduceIte, Nat.reduceEqDiff, Nat.reduceAdd, Nat.reduceSub, Nat.reduceMul, Nat.reduceLT, Nat.reduceLeDiff, Nat.reduceBEq, Int.reduceLE, Int.reduceLT, Int.reduceToNat, reduceCtorEq, g1, g3, hinv]
          exact hg
    · clear g1 g3
      rintro S h2 ⟨hg, g3⟩
      repeat' (first
        | (refine a_seq (fun K hK => ?_))
        | (refine a_block ?_)
        | ((first | refine a_regionS ?_ | refine a_region (fun K hK => ?_) | refine a_ret ?_); simp (maxSteps := 2000000) only [undef, am0, am1, am2, am3, amb0, amb1, amb2, amb3, amb4, lwn, drn, callee, wantedB, isW, eff, pev, pst0, retPost, resAll, resP, resV, intP, mkV, putC, pbin, sbin, strsEq, peq, pint, pshift, pstr, pun, pconv, isShift, isConstB, app, subS, lay, rowsOf, lkV, keyKind, keyEq, mfind, mput, oInt, isZeroInt, forall_const, exists_eq_left', implies_true, IntKind.bits, ↓reduceIte, Nat.reduceEqDiff, Nat.reduceAdd, Nat.reduceSub, Nat.reduceMul, Nat.reduceLT, Nat.reduceLeDiff, Nat.reduceBEq, Int.reduceLE, Int.reduceLT, Int.reduceToNat, reduceCtorEq, Ty.all, g3])
        | (refine a_skip ?_; try simp only [pst0, ↓reduceIte, Nat.reduceEqDiff])
        | (refine a_exit ?_; try simp only [pst0, ↓reduceIte, Nat.reduceEqDiff])
        | (refine a_cond _ (by (try simp (maxSteps := 2000000) only [undef, am0, am1, am2, am3, amb0, amb1, amb2, amb3, amb4, lwn, drn, callee, wantedB, isW, eff, pev, pst0, retPost, resAll, resP, resV, intP, mkV, putC, pbin, sbin, strsEq, peq, pint, pshift, pstr, pun, pconv, isShift, isConstB, app, subS, lay, rowsOf, lkV, keyKind, keyEq, mfind, mput, oInt, isZeroInt, forall_const, exists_eq_left', implies_true, IntKind.bits, ↓reduceIte, Nat.reduceEqDiff, Nat.reduceAdd, Nat.reduceSub, Nat.reduceMul, Nat.reduceLT, Nat.reduceLeDiff, Nat.reduceBEq, Int.reduceLE, Int.reduceLT, Int.reduceToNat, reduceCtorEq, Ty.all, g3]); rfl) (fun hb => ?_) (fun hb => ?_) <;> (try simp only [hb0, decide_eq_true_eq, decide_eq_false_iff_not, reduceCtorEq] at hb) <;> (try (exfalso; omega)))
        | (with_reducible refine ite_in (fun hb => ?_) (fun hb => ?_) <;> (try simp only [Decidable.not_not] at hb) <;> (try simp only [hb, if_true, if_false, not_false_eq_true, not_true_eq_false, ↓reduceIte]) <;> (try simp only [hb0, decide_eq_true_eq, decide_eq_false_iff_not, reduceCtorEq] at hb) <;> (try (exfalso; omega)))
        | (refine hK _ _ ?_; clear hK; try simp only [pst0, ↓reduceIte, Nat.reduceEqDiff])
        | (clear hK; refine hK _ _ ?_; clear hK; try simp only [pst0, ↓reduceIte, Nat.reduceEqDiff])
        | (clear hK; clear hK; refine hK _ _ ?_; clear hK; try simp only [pst0, ↓reduceIte, Nat.reduceEqDiff])
        | (clear hK; clear hK; clear hK; refine hK _ _ ?_; clear hK; try simp only [pst0, ↓reduceIte, Nat.reduceEqDiff])
        | (rw [if_pos]; rotate_left 1; omega; simp (maxSteps := 2000000) only [undef, am0, am1, am2, am3, amb0, amb1, amb2, amb3, amb4, lwn, drn, callee, wantedB, isW, eff, pev, pst0, retPost, resAll, resP, resV, intP, mkV, putC, pbin, sbin, strsEq, peq, pint, pshift, pstr, pun, pconv, isShift, isConstB, app, subS, lay, rowsOf, lkV, keyKind, keyEq, mfind, mput, oInt, isZeroInt, forall_const, exists_eq_left', implies_true, IntKind.bits, ↓reduceIte, Nat.reduceEqDiff, Nat.reduceAdd, Nat.reduceSub, Nat.reduceMul, Nat.reduceLT, Nat.reduceLeDiff, Nat.reduceBEq, Int.reduceLE, Int.reduceLT, Int.reduceToNat, reduceCtorEq, Ty.all, g3]))
      all_goals first | exact hg | exact ⟨rfl, hg⟩
end Go.Proofs.YtikhonogkpboaaaGreat
