/- CheckScopes: for every input the Go function stratagem/stratagemlaw11.CheckScopes returns true and leaves its arguments as they were. No conditions beyond those of the statement. -/
import Derived.Test.YtdnpmfjfgamaeaaGreatRows
import Derived.WalkKit
import Derived.ProofKit
import Derived.OpenShut
import Derived.ChangeOld
import Derived.Below
import Derived.HandedShaped
import Derived.Test.YtdnpmfjfgamaeaaGreatCkTop
import Derived.Test.YtdnpmfjfgamaeaaGreatCkSc1
import Derived.Test.YtdnpmfjfgamaeaaGreatCkSc2
import Derived.Test.YtdnpmfjfgamaeaaGreatCkSc3
set_option linter.unusedVariables false
set_option linter.unusedSimpArgs false
set_option linter.unusedSectionVars false
namespace Go.Proofs.YtdnpmfjfgamaeaaGreat.checkScopes
open Go.AM
open Go.ChangeShapes Go.WideShapes Go.ChangeAt Go.RowKit

theorem own : ownKnob Tryz.prog.godebug = none := by kernel_rfl
theorem laidOut : laidOutB Tryz.prog = true := by kernel_rfl

theorem all {x0 : Int} (h0 : 0 ≤ x0) (g0 : x0 ≤ 255) : PCall Tryz.prog 4 [.sc (.int .u8 x0)] hG fun r _ => r = .sc (.bool true) := by
  have t0 : x0.tmod 9 = x0 % 9 := Int.tmod_eq_emod_of_nonneg h0
  have c0 : x0 % 9 = 0 ∨ x0 % 9 = 1 ∨ x0 % 9 = 2 ∨ x0 % 9 = 3 ∨ x0 % 9 = 4 ∨ x0 % 9 = 5 ∨ x0 % 9 = 6 ∨ x0 % 9 = 7 ∨ x0 % 9 = 8 := by omega
  rcases c0 with e | e | e | e | e | e | e | e | e
  · exact scopes0.ab1 h0 g0 (t0.trans e)
  · exact scopes1.ab1 h0 g0 (t0.trans e)
  · exact scopes2.ab1 h0 g0 (t0.trans e)
  · exact scopes3.ab1 h0 g0 (t0.trans e)
  · exact scopes4.ab1 h0 g0 (t0.trans e)
  · exact scopes5.ab1 h0 g0 (t0.trans e)
  · exact scopes6.ab1 h0 g0 (t0.trans e)
  · exact scopes7.ab1 h0 g0 (t0.trans e)
  · exact scopes8.ab1 h0 g0 (t0.trans e)
set_option maxRecDepth 100000 in
theorem lifted (os : Os) (started : os.Started) (H : Type) (enc : TypeId × Value → H) :
    ReturnsInHanded {} Tryz.checked os 4 .any (Rows.checkScopesSpec.pre6 enc Tryz.prog Tryz.f4 Rows.checkScopesRow.domain false) (Rows.checkScopesSpec.post enc Tryz.prog Tryz.f4 false true false false) := by
  refine returnsInHanded_of_change_shaped (C := Tryz.checked) own started (by kernel_rfl) Tryz.func4
    (ChangeSpec.witness6 (enc := enc) (C := Tryz.checked) false ⟨#[], #[.int .u8 0], []⟩ 8 (by kernel_rfl) (by kernel_rfl) (by kernel_rfl) (by kernel_rfl)) ?_
  intro W base args ds gs before hval0 hW hcnd _ hsh0 _
  have hsh : W.ShapedOpen Tryz.prog := hsh0
  have hval : ∀ (j : Nat) t v, Tryz.f4.params[j]? = some t → args[j]? = some v → Value.okWide Tryz.prog W .any base t v := hval0
  obtain ⟨i, hg, lo, hi⟩ := glb_of_shape (P := Tryz.prog) (g := 0) (t := 3) (zero := #[.int .i64 0]) hsh (of_decide_eq_true (by kernel_rfl)) (by kernel_rfl) rfl (by kernel_rfl) (by kernel_rfl) Tryz.underlying3
  have hW' := hW
  obtain ⟨p, q, hA0, hV, rfl, hfz, hnd⟩ := hW
  have hA : DataW.TrodAll enc Tryz.prog W 0 (fun _ => true) true Tryz.f4.params.toList args.toList ds p := hA0
  rw [Tryz.params4] at hA hval
  obtain ⟨v0, vs0, d0, ds0, p0, q0, hargs, rfl, rfl, k0, r0⟩ := trodAll_cons hA
  obtain ⟨rfl, rfl, rfl⟩ := trodAll_nil r0
  obtain rfl : args = #[v0] := by cases args; simp_all
  obtain ⟨rfl, rfl⟩ := trodVars_none hV
  have lt0 : ∀ x ∈ p0, x.block < W.heap.size := by obtain ⟨m, hm⟩ := k0; exact DataW.trod_lt m _ _ _ hm
  obtain ⟨x0, a0, b0, e0⟩ := int_arg Tryz.underlying5 (hval 0 5 v0 rfl rfl)
  have hc : PCall Tryz.prog 4 [.sc (.int .u8 x0)] (heapG 0 minI maxI) (fun r _ => r = .sc (.bool true)) := all a0 b0
  refine (law_callsG (w := W) (vals := [v0]) hg lo hi Ty.hb_4 hc (by simp only [RepL, Rep]; exact ⟨e0, trivial⟩)).mono fun e W' ⟨he, bel⟩ => ?_
  subst he
  exact ⟨_, rfl, _, _, _, [], _, [], hW', trodAll_mk1 (shut_bool Tryz.underlying4 _), (trodAll_cons_mk (Below.trod laidOut (by kernel_rfl) (of_decide_eq_true (by kernel_rfl)) k0 bel lt0) trodAll_mk0), rfl, bel.frame _, fun h => by cases h⟩

theorem over : Rows.checkScopesRow.holds Tryz.pinned (OpenSpec.ofChange Rows.checkScopesSpec) :=
  OpenClaim.holds_of_wide 4 Tryz.f4 rfl rfl rfl rfl rfl rfl rfl ⟨rfl, rfl, rfl, rfl, rfl⟩ rfl rfl rfl rfl rfl (by kernel_rfl) Tryz.func4 (by kernel_rfl)
    (of_decide_eq_true (by kernel_rfl)) (by unfold Func.isWrapper; first | (rw [if_pos (by decide +kernel)]; kernel_rfl) | (rw [if_neg (by decide +kernel)]; exact ⟨rfl, rfl⟩))
    (fun os started H enc _ => lifted os started H enc)

/-- THE STATEMENT -/
theorem proved : Rows.CheckScopesSaid := over
#print axioms proved
end Go.Proofs.YtdnpmfjfgamaeaaGreat.checkScopes
