/- FormulaBinds: for every input of bulk at most 1048576 the Go function stratagem/stratagemlaw08.FormulaBinds returns true and leaves its arguments as they were. The condition is the statement's own. -/
import Derived.Test.YtjlkapgpjamnkaaRows
import Derived.WalkKit
import Derived.ProofKit
import Derived.OpenShut
import Derived.ShutString
import Derived.ChangeOld
import Derived.Below
import Derived.SizedLaws
import Derived.JoinedCond
import Derived.Deep.CondSized
import Derived.Test.YtjlkapgpjamnkaaZb6
set_option linter.unusedVariables false
set_option linter.unusedSimpArgs false
set_option linter.unusedSectionVars false
namespace Go.Proofs.Ytjlkapgpjamnkaa.formulaBinds
open Go.AM
open Go.ChangeShapes Go.WideShapes Go.ChangeAt Go.RowKit
theorem own : ownKnob Try.prog.godebug = none := by kernel_rfl
theorem laidOut : laidOutB Try.prog = true := by kernel_rfl
set_option maxRecDepth 100000 in
theorem lifted (os : Os) (started : os.Started) (H : Type) (enc : TypeId × Value → H) (F : Stop.Interp) :
    ReturnsInHanded {} Try.checked os 9 .any ((Rows.OpenSpec.upto Rows.formulaBindsSpec).pre6 enc Try.prog Try.f9 Rows.formulaBindsUptoRow.domain false) (((Rows.OpenSpec.upto Rows.formulaBindsSpec).at F).post enc Try.prog Try.f9 false true false false) := by
  refine returnsInHanded_of_cond_sized (C := Try.checked) (s := Rows.OpenSpec.upto Rows.formulaBindsSpec) (k := Rows.uptoSmall) rfl own started (by kernel_rfl) Try.func9
    (OpenSpec.witness (enc := enc) (C := Try.checked) (s := Rows.OpenSpec.upto Rows.formulaBindsSpec) (k := Rows.uptoSmall) rfl false ⟨#[], #[.agg #[.string ⟨#[]⟩, .string ⟨#[]⟩, .slice none 0 0, .slice none 0 0, .slice none 0 0, .slice none 0 0], .agg #[.string ⟨#[]⟩, .string ⟨#[]⟩, .int .i64 0, .slice none 0 0, .slice none 0 0], .agg #[.slice none 0 0, .slice none 0 0]], []⟩ 8 (by kernel_rfl) (by kernel_rfl) (by kernel_rfl)
      (x := ([.agg [.lit (.string []), .lit (.string []), .nil, .nil, .nil, .nil], .agg [.lit (.string []), .lit (.string []), .lit (.int .i64 0), .nil, .nil], .agg [.nil, .nil]], [], [])) (by kernel_rfl) rfl (by kernel_rfl)) ?_
  intro W base args ds gs before hval0 hW hcnd hk hsz0 _
  have hval : ∀ (j : Nat) t v, Try.f9.params[j]? = some t → args[j]? = some v → Value.okWide Try.prog W .any base t v := hval0
  have hsz : (DataW.weightsEach Try.prog (Try.f9.params.toList ++ Rows.formulaBindsSpec.plain.varTypes Try.prog) (ds ++ gs)).all (· ≤ reachBytes) = true := hsz0
  have hW' := hW
  obtain ⟨p, q, hA0, hV, rfl, hfz, hnd⟩ := hW
  have hA : DataW.TrodAll enc Try.prog W 0 (fun _ => true) true Try.f9.params.toList args.toList ds p := hA0
  rw [Try.params9] at hA hval hsz
  obtain ⟨v0, vs0, d0, ds0, p0, q0, hargs, rfl, rfl, h0, r0⟩ := trodAll_cons hA
  obtain ⟨v1, vs1, d1, ds1, p1, q1, rfl, rfl, rfl, h1, r1⟩ := trodAll_cons r0
  obtain ⟨v2, vs2, d2, ds2, p2, q2, rfl, rfl, rfl, h2, r2⟩ := trodAll_cons r1
  obtain ⟨rfl, rfl, rfl⟩ := trodAll_nil r2
  obtain rfl : args = #[v0, v1, v2] := by cases args; simp_all
  obtain ⟨rfl, rfl⟩ := trodVars_none hV
  have wle : ∀ (j : Nat) (t : TypeId) (d : DataW H), ([29, 57, 37] ++ Rows.formulaBindsSpec.plain.varTypes Try.prog)[j]? = some t → ([d0, d1, d2] ++ [])[j]? = some d → ∀ n ∈ d.weights Try.prog t, n ≤ reachBytes := fun j t d g1 g2 n hn => by
    have := List.all_eq_true.1 hsz n (DataW.weights_mem_each g1 g2 n hn)
    exact of_decide_eq_true this
  have k0 := h0
  have lt0 : ∀ x ∈ p0, x.block < W.heap.size := by obtain ⟨m, hm⟩ := k0; exact DataW.trod_lt m _ _ _ hm
  obtain ⟨c0, a0, x0, y0, b0⟩ := arg_value5 (P := Try.prog) (w := W) (Ts := recTs) (t := 29) (by kernel_rfl) (by kernel_rfl) Try.underlying29 h0 ⟨base, hval 0 29 v0 rfl rfl⟩ (wle 0 29 d0 rfl rfl)
  have k1 := h1
  have lt1 : ∀ x ∈ p1, x.block < W.heap.size := by obtain ⟨m, hm⟩ := k1; exact DataW.trod_lt m _ _ _ hm
  obtain ⟨c1, a1, x1, y1, b1⟩ := arg_value5 (P := Try.prog) (w := W) (Ts := recTs) (t := 57) (by kernel_rfl) (by kernel_rfl) Try.underlying57 h1 ⟨base, hval 1 57 v1 rfl rfl⟩ (wle 1 57 d1 rfl rfl)
  have k2 := h2
  have lt2 : ∀ x ∈ p2, x.block < W.heap.size := by obtain ⟨m, hm⟩ := k2; exact DataW.trod_lt m _ _ _ hm
  obtain ⟨c2, a2, x2, y2, b2⟩ := arg_value5 (P := Try.prog) (w := W) (Ts := bdTs) (t := 37) (by kernel_rfl) (by kernel_rfl) Try.underlying37 h2 ⟨base, hval 2 37 v2 rfl rfl⟩ (wle 2 37 d2 rfl rfl)
  have hB : Rows.uptoBulkAll ([d0, d1, d2] ++ []) ≤ 1048576 := of_decide_eq_true hk
  simp only [List.cons_append, List.nil_append, Rows.uptoBulkAll] at hB
  have z0 : PV.bulkL a0 ≤ 1048576 := by omega
  have z1 : PV.bulkL a1 ≤ 1048576 := by omega
  have z2 : PV.bulkL a2 ≤ 1048576 := by omega
  clear hA0 hval0
  have walk : ∃ pargs : List PV, pargs = [.agg a0, .agg a1, .agg a2] ∧ PCall Try.prog 9 pargs Heap.nil (fun r _ => r = .sc (.bool true)) := by
    obtain ⟨f, hf, rfl⟩ := arg_fm _ x0
    obtain ⟨x, hx, rfl⟩ := arg_ex _ x1
    obtain ⟨n, a, hn, ha, hns, has, rfl⟩ := arg_bd x2 z2
    exact ⟨_, rfl, formulaBinds_c hf z0 hx z1 hn ha hns has⟩
  obtain ⟨pargs, rfl, hc⟩ := walk
  refine (law_calls (w := W) (vals := [v0, v1, v2]) Ty.hb_9 hc (by simp only [RepL]; exact ⟨y0 _ _, y1 _ _, y2 _ _, trivial⟩)).mono fun e W' ⟨he, bel⟩ => ?_
  subst he
  exact ⟨_, rfl, _, _, _, [], _, [], hW', trodAll_mk1 (shut_bool Try.underlying4 _), (trodAll_cons_mk (Below.trod laidOut (by kernel_rfl) (of_decide_eq_true (by kernel_rfl)) k0 bel lt0) (trodAll_cons_mk (Below.trod laidOut (by kernel_rfl) (of_decide_eq_true (by kernel_rfl)) k1 bel lt1) (trodAll_cons_mk (Below.trod laidOut (by kernel_rfl) (of_decide_eq_true (by kernel_rfl)) k2 bel lt2) trodAll_mk0))), rfl, bel.frame _, fun h => by cases h⟩
theorem over : Rows.formulaBindsUptoRow.holds Try.pinned (Rows.OpenSpec.upto Rows.formulaBindsSpec) :=
  OpenClaim.holds_of_cond 9 Try.f9 rfl rfl rfl rfl rfl rfl rfl ⟨rfl, rfl, rfl, rfl, rfl⟩ rfl rfl rfl rfl rfl (by kernel_rfl) Try.func9 (by kernel_rfl)
    (of_decide_eq_true (by kernel_rfl)) (by unfold Func.isWrapper; first | (rw [if_pos (by decide +kernel)]; kernel_rfl) | (rw [if_neg (by decide +kernel)]; exact ⟨rfl, rfl⟩))
    (fun os started H enc _ F => lifted os started H enc F)
/-- THE STATEMENT -/
theorem proved : Rows.FormulaBindsUptoSaid := over
#print axioms proved
end Go.Proofs.Ytjlkapgpjamnkaa.formulaBinds
