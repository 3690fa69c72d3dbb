/- CheckLimits: for every input the Go function stratagem/stratagemlaw11.CheckLimits returns true and leaves its arguments as they were. No conditions beyond those of the statement. -/
import Derived.Test.YtdnpmfjfgamaeaaGreatRows
import Derived.WalkKit
import Derived.ProofKit
import Derived.OpenShut
import Derived.ChangeOld
import Derived.Below
import Derived.HandedShaped
import Derived.Test.YtdnpmfjfgamaeaaGreatCkTop
import Derived.Test.YtdnpmfjfgamaeaaGreatCkLm0
import Derived.Test.YtdnpmfjfgamaeaaGreatCkLm1
import Derived.Test.YtdnpmfjfgamaeaaGreatCkLm2
import Derived.Test.YtdnpmfjfgamaeaaGreatCkLm3
set_option linter.unusedVariables false
set_option linter.unusedSimpArgs false
set_option linter.unusedSectionVars false
namespace Go.Proofs.YtdnpmfjfgamaeaaGreat.checkLimits
open Go.AM
open Go.ChangeShapes Go.WideShapes Go.ChangeAt Go.RowKit

theorem own : ownKnob Tryz.prog.godebug = none := by kernel_rfl
theorem laidOut : laidOutB Tryz.prog = true := by kernel_rfl

theorem all {x0 x1 : Int} (h0 : 0 ≤ x0) (g0 : x0 ≤ 255) (h1 : minI ≤ x1) (g1 : x1 ≤ maxI) : PCall Tryz.prog 8 [.sc (.int .u8 x0), .sc (.int .i64 x1)] hG fun r _ => r = .sc (.bool true) := by
  have t0 : x0.tmod 4 = x0 % 4 := Int.tmod_eq_emod_of_nonneg h0
  have c0 : x0 % 4 = 0 ∨ x0 % 4 = 1 ∨ x0 % 4 = 2 ∨ x0 % 4 = 3 := by omega
  rcases c0 with e | e | e | e
  · rcases (show x1 ≤ -2 ∨ x1 = -1 ∨ x1 = 0 ∨ x1 = 1 ∨ 2 ≤ x1 by omega) with f | rfl | rfl | rfl | f
    · exact limits0a.ab2 h0 g0 (t0.trans e) h1 f (Int.tmod_one _)
    · exact limits0b.abs h0 g0 (t0.trans e)
    · exact limits0c.abs h0 g0 (t0.trans e)
    · exact limits0d.abs h0 g0 (t0.trans e)
    · exact limits0e.ab2 h0 g0 (t0.trans e) f g1 (Int.tmod_one _)
  · rcases (show x1 ≤ -2 ∨ x1 = -1 ∨ x1 = 0 ∨ x1 = 1 ∨ 2 ≤ x1 by omega) with f | rfl | rfl | rfl | f
    · exact limits1a.ab2 h0 g0 (t0.trans e) h1 f (Int.tmod_one _)
    · exact limits1b.abs h0 g0 (t0.trans e)
    · exact limits1c.abs h0 g0 (t0.trans e)
    · exact limits1d.abs h0 g0 (t0.trans e)
    · exact limits1e.ab2 h0 g0 (t0.trans e) f g1 (Int.tmod_one _)
  · rcases (show x1 ≤ -2 ∨ x1 = -1 ∨ x1 = 0 ∨ x1 = 1 ∨ 2 ≤ x1 by omega) with f | rfl | rfl | rfl | f
    · exact limits2a.ab2 h0 g0 (t0.trans e) h1 f (Int.tmod_one _)
    · exact limits2b.abs h0 g0 (t0.trans e)
    · exact limits2c.abs h0 g0 (t0.trans e)
    · exact limits2d.abs h0 g0 (t0.trans e)
    · exact limits2e.ab2 h0 g0 (t0.trans e) f g1 (Int.tmod_one _)
  · rcases (show x1 ≤ -2 ∨ x1 = -1 ∨ x1 = 0 ∨ x1 = 1 ∨ 2 ≤ x1 by omega) with f | rfl | rfl | rfl | f
    · exact limits3a.ab2 h0 g0 (t0.trans e) h1 f (Int.tmod_one _)
    · exact limits3b.abs h0 g0 (t0.trans e)
    · exact limits3c.abs h0 g0 (t0.trans e)
    · exact limits3d.abs h0 g0 (t0.trans e)
    · exact limits3e.ab2 h0 g0 (t0.trans e) f g1 (Int.tmod_one _)
set_option maxRecDepth 100000 in
theorem lifted (os : Os) (started : os.Started) (H : Type) (enc : TypeId × Value → H) :
    ReturnsInHanded {} Tryz.checked os 8 .any (Rows.checkLimitsSpec.pre6 enc Tryz.prog Tryz.f8 Rows.checkLimitsRow.domain false) (Rows.checkLimitsSpec.post enc Tryz.prog Tryz.f8 false true false false) := by
  refine returnsInHanded_of_change_shaped (C := Tryz.checked) own started (by kernel_rfl) Tryz.func8
    (ChangeSpec.witness6 (enc := enc) (C := Tryz.checked) false ⟨#[], #[.int .u8 0, .int .i64 0], []⟩ 8 (by kernel_rfl) (by kernel_rfl) (by kernel_rfl) (by kernel_rfl)) ?_
  intro W base args ds gs before hval0 hW hcnd _ hsh0 _
  have hsh : W.ShapedOpen Tryz.prog := hsh0
  have hval : ∀ (j : Nat) t v, Tryz.f8.params[j]? = some t → args[j]? = some v → Value.okWide Tryz.prog W .any base t v := hval0
  obtain ⟨i, hg, lo, hi⟩ := glb_of_shape (P := Tryz.prog) (g := 0) (t := 3) (zero := #[.int .i64 0]) hsh (of_decide_eq_true (by kernel_rfl)) (by kernel_rfl) rfl (by kernel_rfl) (by kernel_rfl) Tryz.underlying3
  have hW' := hW
  obtain ⟨p, q, hA0, hV, rfl, hfz, hnd⟩ := hW
  have hA : DataW.TrodAll enc Tryz.prog W 0 (fun _ => true) true Tryz.f8.params.toList args.toList ds p := hA0
  rw [Tryz.params8] at hA hval
  obtain ⟨v0, vs0, d0, ds0, p0, q0, hargs, rfl, rfl, k0, r0⟩ := trodAll_cons hA
  obtain ⟨v1, vs1, d1, ds1, p1, q1, rfl, rfl, rfl, k1, r1⟩ := trodAll_cons r0
  obtain ⟨rfl, rfl, rfl⟩ := trodAll_nil r1
  obtain rfl : args = #[v0, v1] := by cases args; simp_all
  obtain ⟨rfl, rfl⟩ := trodVars_none hV
  have lt0 : ∀ x ∈ p0, x.block < W.heap.size := by obtain ⟨m, hm⟩ := k0; exact DataW.trod_lt m _ _ _ hm
  obtain ⟨x0, a0, b0, e0⟩ := int_arg Tryz.underlying5 (hval 0 5 v0 rfl rfl)
  have lt1 : ∀ x ∈ p1, x.block < W.heap.size := by obtain ⟨m, hm⟩ := k1; exact DataW.trod_lt m _ _ _ hm
  obtain ⟨x1, a1, b1, e1⟩ := int_arg Tryz.underlying3 (hval 1 3 v1 rfl rfl)
  have hc : PCall Tryz.prog 8 [.sc (.int .u8 x0), .sc (.int .i64 x1)] (heapG 0 minI maxI) (fun r _ => r = .sc (.bool true)) := all a0 b0 a1 b1
  refine (law_callsG (w := W) (vals := [v0, v1]) hg lo hi Ty.hb_8 hc (by simp only [RepL, Rep]; exact ⟨e0, e1, trivial⟩)).mono fun e W' ⟨he, bel⟩ => ?_
  subst he
  exact ⟨_, rfl, _, _, _, [], _, [], hW', trodAll_mk1 (shut_bool Tryz.underlying4 _), (trodAll_cons_mk (Below.trod laidOut (by kernel_rfl) (of_decide_eq_true (by kernel_rfl)) k0 bel lt0) (trodAll_cons_mk (Below.trod laidOut (by kernel_rfl) (of_decide_eq_true (by kernel_rfl)) k1 bel lt1) trodAll_mk0)), rfl, bel.frame _, fun h => by cases h⟩

theorem over : Rows.checkLimitsRow.holds Tryz.pinned (OpenSpec.ofChange Rows.checkLimitsSpec) :=
  OpenClaim.holds_of_wide 8 Tryz.f8 rfl rfl rfl rfl rfl rfl rfl ⟨rfl, rfl, rfl, rfl, rfl⟩ rfl rfl rfl rfl rfl (by kernel_rfl) Tryz.func8 (by kernel_rfl)
    (of_decide_eq_true (by kernel_rfl)) (by unfold Func.isWrapper; first | (rw [if_pos (by decide +kernel)]; kernel_rfl) | (rw [if_neg (by decide +kernel)]; exact ⟨rfl, rfl⟩))
    (fun os started H enc _ => lifted os started H enc)

/-- THE STATEMENT -/
theorem proved : Rows.CheckLimitsSaid := over
#print axioms proved
end Go.Proofs.YtdnpmfjfgamaeaaGreat.checkLimits
