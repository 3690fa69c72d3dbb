/- FormulaReturns: for every input the Go function stratagem/stratagemlaw08.FormulaReturns returns true and leaves its arguments as they were. No conditions beyond those of the statement. -/
import Derived.Test.YtjlkapgpjamnkaaRows
import Derived.WalkKit
import Derived.ProofKit
import Derived.OpenShut
import Derived.ShutString
import Derived.ChangeOld
import Derived.Below
import Derived.SizedLaws
import Derived.Test.YtjlkapgpjamnkaaZr5
set_option linter.unusedVariables false
set_option linter.unusedSimpArgs false
set_option linter.unusedSectionVars false
namespace Go.Proofs.Ytjlkapgpjamnkaa.formulaReturns
open Go.AM
open Go.ChangeShapes Go.WideShapes Go.ChangeAt Go.RowKit
theorem own : ownKnob Try.prog.godebug = none := by kernel_rfl
theorem laidOut : laidOutB Try.prog = true := by kernel_rfl
set_option maxRecDepth 100000 in
theorem lifted (os : Os) (started : os.Started) (H : Type) (enc : TypeId × Value → H) :
    ReturnsInHanded {} Try.checked os 11 .any (Rows.formulaReturnsSpec.pre6 enc Try.prog Try.f11 Rows.formulaReturnsRow.domain false) (Rows.formulaReturnsSpec.post enc Try.prog Try.f11 false true false false) := by
  refine returnsInHanded_of_change_sized (C := Try.checked) own started (by kernel_rfl) Try.func11
    (ChangeSpec.witness6 (enc := enc) (C := Try.checked) false ⟨#[], #[.agg #[.int .i64 0, .int .i64 0, .int .i64 0, .int .i64 0, .string ⟨#[]⟩, .slice none 0 0]], []⟩ 8 (by kernel_rfl) (by kernel_rfl) (by kernel_rfl) (by kernel_rfl)) ?_
  intro W base args ds gs before hval0 hW hcnd hsz0 _
  have hval : ∀ (j : Nat) t v, Try.f11.params[j]? = some t → args[j]? = some v → Value.okWide Try.prog W .any base t v := hval0
  have hsz : (DataW.weightsEach Try.prog (Try.f11.params.toList ++ Rows.formulaReturnsSpec.plain.varTypes Try.prog) (ds ++ gs)).all (· ≤ reachBytes) = true := hsz0
  have hW' := hW
  obtain ⟨p, q, hA0, hV, rfl, hfz, hnd⟩ := hW
  have hA : DataW.TrodAll enc Try.prog W 0 (fun _ => true) true Try.f11.params.toList args.toList ds p := hA0
  rw [Try.params11] at hA hval hsz
  obtain ⟨v0, vs0, d0, ds0, p0, q0, hargs, rfl, rfl, h0, r0⟩ := trodAll_cons hA
  obtain ⟨rfl, rfl, rfl⟩ := trodAll_nil r0
  obtain rfl : args = #[v0] := by cases args; simp_all
  obtain ⟨rfl, rfl⟩ := trodVars_none hV
  have wle : ∀ (j : Nat) (t : TypeId) (d : DataW H), ([41] ++ Rows.formulaReturnsSpec.plain.varTypes Try.prog)[j]? = some t → ([d0] ++ [])[j]? = some d → ∀ n ∈ d.weights Try.prog t, n ≤ reachBytes := fun j t d g1 g2 n hn => by
    have := List.all_eq_true.1 hsz n (DataW.weights_mem_each g1 g2 n hn)
    exact of_decide_eq_true this
  have k0 := h0
  have lt0 : ∀ x ∈ p0, x.block < W.heap.size := by obtain ⟨m, hm⟩ := k0; exact DataW.trod_lt m _ _ _ hm
  obtain ⟨c0, a0, x0, y0⟩ := arg_valueC (P := Try.prog) (w := W) (Ts := recTs) (t := 41) (by kernel_rfl) (by kernel_rfl) Try.underlying41 h0 ⟨base, hval 0 41 v0 rfl rfl⟩ (wle 0 41 d0 rfl rfl)
  clear hA0 hval0
  have walk : ∃ pargs : List PV, pargs = [.agg a0] ∧ PCall Try.prog 11 pargs Heap.nil (fun r _ => r = .sc (.bool true)) := by
    obtain ⟨x, hx, rfl⟩ := arg_sx _ x0
    exact ⟨_, rfl, formulaReturns_c hx⟩
  obtain ⟨pargs, rfl, hc⟩ := walk
  refine (law_calls (w := W) (vals := [v0]) Ty.hb_11 hc (by simp only [RepL]; exact ⟨y0 _ _, trivial⟩)).mono fun e W' ⟨he, bel⟩ => ?_
  subst he
  exact ⟨_, rfl, _, _, _, [], _, [], hW', trodAll_mk1 (shut_bool Try.underlying4 _), (trodAll_cons_mk (Below.trod laidOut (by kernel_rfl) (of_decide_eq_true (by kernel_rfl)) k0 bel lt0) trodAll_mk0), rfl, bel.frame _, fun h => by cases h⟩
theorem over : Rows.formulaReturnsRow.holds Try.pinned (OpenSpec.ofChange Rows.formulaReturnsSpec) :=
  OpenClaim.holds_of_wide 11 Try.f11 rfl rfl rfl rfl rfl rfl rfl ⟨rfl, rfl, rfl, rfl, rfl⟩ rfl rfl rfl rfl rfl (by kernel_rfl) Try.func11 (by kernel_rfl)
    (of_decide_eq_true (by kernel_rfl)) (by unfold Func.isWrapper; first | (rw [if_pos (by decide +kernel)]; kernel_rfl) | (rw [if_neg (by decide +kernel)]; exact ⟨rfl, rfl⟩))
    (fun os started H enc _ => lifted os started H enc)
/-- THE STATEMENT -/
theorem proved : Rows.FormulaReturnsSaid := over
#print axioms proved
end Go.Proofs.Ytjlkapgpjamnkaa.formulaReturns
