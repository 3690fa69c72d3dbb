/- FormulaNames: for every input the Go function stratagem/stratagemlaw08.FormulaNames returns true and leaves its arguments as they were. No conditions beyond those of the statement. -/
import Derived.Test.YtjlkapgpjamnkaaRows
import Derived.WalkKit
import Derived.ProofKit
import Derived.OpenShut
import Derived.ShutString
import Derived.ChangeOld
import Derived.Below
import Derived.SizedLaws
import Derived.Test.YtjlkapgpjamnkaaFmNames
import Derived.Test.YtjlkapgpjamnkaaArgs4
set_option linter.unusedVariables false
set_option linter.unusedSimpArgs false
set_option linter.unusedSectionVars false
namespace Go.Proofs.Ytjlkapgpjamnkaa.formulaNames
open Go.AM
open Go.ChangeShapes Go.WideShapes Go.ChangeAt Go.RowKit

theorem own : ownKnob Try.prog.godebug = none := by kernel_rfl
theorem laidOut : laidOutB Try.prog = true := by kernel_rfl

set_option maxRecDepth 100000 in
theorem lifted (os : Os) (started : os.Started) (H : Type) (enc : TypeId × Value → H) :
    ReturnsInHanded {} Try.checked os 3 .any (Rows.formulaNamesSpec.pre6 enc Try.prog Try.f3 Rows.formulaNamesRow.domain false) (Rows.formulaNamesSpec.post enc Try.prog Try.f3 false true false false) := by
  refine returnsInHanded_of_change_sized (C := Try.checked) own started (by kernel_rfl) Try.func3
    (ChangeSpec.witness6 (enc := enc) (C := Try.checked) false ⟨#[], #[.string ⟨#[]⟩], []⟩ 8 (by kernel_rfl) (by kernel_rfl) (by kernel_rfl) (by kernel_rfl)) ?_
  intro W base args ds gs before hval0 hW hcnd hsz0 _
  have hval : ∀ (j : Nat) t v, Try.f3.params[j]? = some t → args[j]? = some v → Value.okWide Try.prog W .any base t v := hval0
  have hsz : (DataW.weightsEach Try.prog (Try.f3.params.toList ++ Rows.formulaNamesSpec.plain.varTypes Try.prog) (ds ++ gs)).all (· ≤ reachBytes) = true := hsz0
  have hW' := hW
  obtain ⟨p, q, hA0, hV, rfl, hfz, hnd⟩ := hW
  have hA : DataW.TrodAll enc Try.prog W 0 (fun _ => true) true Try.f3.params.toList args.toList ds p := hA0
  rw [Try.params3] at hA hval hsz
  obtain ⟨v0, vs0, d0, ds0, p0, q0, hargs, rfl, rfl, h0, r0⟩ := trodAll_cons hA
  obtain ⟨rfl, rfl, rfl⟩ := trodAll_nil r0
  obtain rfl : args = #[v0] := by cases args; simp_all
  obtain ⟨rfl, rfl⟩ := trodVars_none hV
  have wle : ∀ (j : Nat) (t : TypeId) (d : DataW H), ([9] ++ Rows.formulaNamesSpec.plain.varTypes Try.prog)[j]? = some t → ([d0] ++ [])[j]? = some d → ∀ n ∈ d.weights Try.prog t, n ≤ reachBytes := fun j t d g1 g2 n hn => by
    have := List.all_eq_true.1 hsz n (DataW.weights_mem_each g1 g2 n hn)
    exact of_decide_eq_true this
  have k0 := h0
  have lt0 : ∀ x ∈ p0, x.block < W.heap.size := by obtain ⟨m, hm⟩ := k0; exact DataW.trod_lt m _ _ _ hm
  obtain ⟨a0, x0, y0⟩ := arg_value (P := Try.prog) (w := W) (c := 8) (t := 9) (by kernel_rfl) h0 ⟨base, hval 0 9 v0 rfl rfl⟩ (wle 0 9 d0 rfl rfl)
  clear hA0 hval0
  have walk : ∃ pargs : List PV, pargs = [a0] ∧ PCall Try.prog 3 pargs Heap.nil (fun r _ => r = .sc (.bool true)) := by
    obtain ⟨s, hs, rfl⟩ := argV_str Try.underlying9 x0
    exact ⟨_, rfl, formulaNames_c (s := s) (by unfold reachBytes at hs; omega)⟩
  obtain ⟨pargs, rfl, hc⟩ := walk
  refine (law_calls (w := W) (vals := [v0]) Ty.hb_3 hc (by simp only [RepL]; exact ⟨y0 _ _, trivial⟩)).mono fun e W' ⟨he, bel⟩ => ?_
  subst he
  exact ⟨_, rfl, _, _, _, [], _, [], hW', trodAll_mk1 (shut_bool Try.underlying4 _), (trodAll_cons_mk (Below.trod laidOut (by kernel_rfl) (of_decide_eq_true (by kernel_rfl)) k0 bel lt0) trodAll_mk0), rfl, bel.frame _, fun h => by cases h⟩

theorem over : Rows.formulaNamesRow.holds Try.pinned (OpenSpec.ofChange Rows.formulaNamesSpec) :=
  OpenClaim.holds_of_wide 3 Try.f3 rfl rfl rfl rfl rfl rfl rfl ⟨rfl, rfl, rfl, rfl, rfl⟩ rfl rfl rfl rfl rfl (by kernel_rfl) Try.func3 (by kernel_rfl)
    (of_decide_eq_true (by kernel_rfl)) (by unfold Func.isWrapper; first | (rw [if_pos (by decide +kernel)]; kernel_rfl) | (rw [if_neg (by decide +kernel)]; exact ⟨rfl, rfl⟩))
    (fun os started H enc _ => lifted os started H enc)

/-- THE STATEMENT -/
theorem proved : Rows.FormulaNamesSaid := over
#print axioms proved
end Go.Proofs.Ytjlkapgpjamnkaa.formulaNames
