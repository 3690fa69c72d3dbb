/- CheckAtoms: for every input the Go function stratagem/stratagemlaw11.CheckAtoms returns true and leaves its arguments as they were. No conditions beyond those of the statement. -/
import Derived.Test.YtdnpmfjfgamaeaaGreatRows
import Derived.WalkKit
import Derived.ProofKit
import Derived.OpenShut
import Derived.ChangeOld
import Derived.Below
import Derived.HandedShaped
import Derived.Test.YtdnpmfjfgamaeaaGreatCkTop
import Derived.Test.YtdnpmfjfgamaeaaGreatCkAt0
import Derived.Test.YtdnpmfjfgamaeaaGreatCkAt1
import Derived.Test.YtdnpmfjfgamaeaaGreatCkAt2
import Derived.Test.YtdnpmfjfgamaeaaGreatCkAt3
import Derived.Test.YtdnpmfjfgamaeaaGreatCkAt4
set_option linter.unusedVariables false
set_option linter.unusedSimpArgs false
set_option linter.unusedSectionVars false
namespace Go.Proofs.YtdnpmfjfgamaeaaGreat.checkAtoms
open Go.AM
open Go.ChangeShapes Go.WideShapes Go.ChangeAt Go.RowKit

theorem own : ownKnob Tryz.prog.godebug = none := by kernel_rfl
theorem laidOut : laidOutB Tryz.prog = true := by kernel_rfl

theorem all {x0 x1 : Int} (h0 : 0 ≤ x0) (g0 : x0 ≤ 255) (h1 : 0 ≤ x1) (g1 : x1 ≤ 255) : PCall Tryz.prog 3 [.sc (.int .u8 x0), .sc (.int .u8 x1)] hG fun r _ => r = .sc (.bool true) := by
  have t0 : x0.tmod 10 = x0 % 10 := Int.tmod_eq_emod_of_nonneg h0
  have c0 : x0 % 10 = 0 ∨ x0 % 10 = 1 ∨ x0 % 10 = 2 ∨ x0 % 10 = 3 ∨ x0 % 10 = 4 ∨ x0 % 10 = 5 ∨ x0 % 10 = 6 ∨ x0 % 10 = 7 ∨ x0 % 10 = 8 ∨ x0 % 10 = 9 := by omega
  have t1 : x1.tmod 5 = x1 % 5 := Int.tmod_eq_emod_of_nonneg h1
  have c1 : x1 % 5 = 0 ∨ x1 % 5 = 1 ∨ x1 % 5 = 2 ∨ x1 % 5 = 3 ∨ x1 % 5 = 4 := by omega
  rcases c0 with e | e | e | e | e | e | e | e | e | e
  · rcases c1 with f | f | f | f | f
    · exact atoms0_0.ab2 h0 g0 (t0.trans e) h1 g1 (t1.trans f)
    · exact atoms0_1.ab2 h0 g0 (t0.trans e) h1 g1 (t1.trans f)
    · exact atoms0_2.ab2 h0 g0 (t0.trans e) h1 g1 (t1.trans f)
    · exact atoms0_3.ab2 h0 g0 (t0.trans e) h1 g1 (t1.trans f)
    · exact atoms0_4.ab2 h0 g0 (t0.trans e) h1 g1 (t1.trans f)
  · rcases c1 with f | f | f | f | f
    · exact atoms1_0.ab2 h0 g0 (t0.trans e) h1 g1 (t1.trans f)
    · exact atoms1_1.ab2 h0 g0 (t0.trans e) h1 g1 (t1.trans f)
    · exact atoms1_2.ab2 h0 g0 (t0.trans e) h1 g1 (t1.trans f)
    · exact atoms1_3.ab2 h0 g0 (t0.trans e) h1 g1 (t1.trans f)
    · exact atoms1_4.ab2 h0 g0 (t0.trans e) h1 g1 (t1.trans f)
  · rcases c1 with f | f | f | f | f
    · exact atoms2_0.ab2 h0 g0 (t0.trans e) h1 g1 (t1.trans f)
    · exact atoms2_1.ab2 h0 g0 (t0.trans e) h1 g1 (t1.trans f)
    · exact atoms2_2.ab2 h0 g0 (t0.trans e) h1 g1 (t1.trans f)
    · exact atoms2_3.ab2 h0 g0 (t0.trans e) h1 g1 (t1.trans f)
    · exact atoms2_4.ab2 h0 g0 (t0.trans e) h1 g1 (t1.trans f)
  · rcases c1 with f | f | f | f | f
    · exact atoms3_0.ab2 h0 g0 (t0.trans e) h1 g1 (t1.trans f)
    · exact atoms3_1.ab2 h0 g0 (t0.trans e) h1 g1 (t1.trans f)
    · exact atoms3_2.ab2 h0 g0 (t0.trans e) h1 g1 (t1.trans f)
    · exact atoms3_3.ab2 h0 g0 (t0.trans e) h1 g1 (t1.trans f)
    · exact atoms3_4.ab2 h0 g0 (t0.trans e) h1 g1 (t1.trans f)
  · rcases c1 with f | f | f | f | f
    · exact atoms4_0.ab2 h0 g0 (t0.trans e) h1 g1 (t1.trans f)
    · exact atoms4_1.ab2 h0 g0 (t0.trans e) h1 g1 (t1.trans f)
    · exact atoms4_2.ab2 h0 g0 (t0.trans e) h1 g1 (t1.trans f)
    · exact atoms4_3.ab2 h0 g0 (t0.trans e) h1 g1 (t1.trans f)
    · exact atoms4_4.ab2 h0 g0 (t0.trans e) h1 g1 (t1.trans f)
  · rcases c1 with f | f | f | f | f
    · exact atoms5_0.ab2 h0 g0 (t0.trans e) h1 g1 (t1.trans f)
    · exact atoms5_1.ab2 h0 g0 (t0.trans e) h1 g1 (t1.trans f)
    · exact atoms5_2.ab2 h0 g0 (t0.trans e) h1 g1 (t1.trans f)
    · exact atoms5_3.ab2 h0 g0 (t0.trans e) h1 g1 (t1.trans f)
    · exact atoms5_4.ab2 h0 g0 (t0.trans e) h1 g1 (t1.trans f)
  · rcases c1 with f | f | f | f | f
    · exact atoms6_0.ab2 h0 g0 (t0.trans e) h1 g1 (t1.trans f)
    · exact atoms6_1.ab2 h0 g0 (t0.trans e) h1 g1 (t1.trans f)
    · exact atoms6_2.ab2 h0 g0 (t0.trans e) h1 g1 (t1.trans f)
    · exact atoms6_3.ab2 h0 g0 (t0.trans e) h1 g1 (t1.trans f)
    · exact atoms6_4.ab2 h0 g0 (t0.trans e) h1 g1 (t1.trans f)
  · rcases c1 with f | f | f | f | f
    · exact atoms7_0.ab2 h0 g0 (t0.trans e) h1 g1 (t1.trans f)
    · exact atoms7_1.ab2 h0 g0 (t0.trans e) h1 g1 (t1.trans f)
    · exact atoms7_2.ab2 h0 g0 (t0.trans e) h1 g1 (t1.trans f)
    · exact atoms7_3.ab2 h0 g0 (t0.trans e) h1 g1 (t1.trans f)
    · exact atoms7_4.ab2 h0 g0 (t0.trans e) h1 g1 (t1.trans f)
  · rcases c1 with f | f | f | f | f
    · exact atoms8_0.ab2 h0 g0 (t0.trans e) h1 g1 (t1.trans f)
    · exact atoms8_1.ab2 h0 g0 (t0.trans e) h1 g1 (t1.trans f)
    · exact atoms8_2.ab2 h0 g0 (t0.trans e) h1 g1 (t1.trans f)
    · exact atoms8_3.ab2 h0 g0 (t0.trans e) h1 g1 (t1.trans f)
    · exact atoms8_4.ab2 h0 g0 (t0.trans e) h1 g1 (t1.trans f)
  · rcases c1 with f | f | f | f | f
    · exact atoms9_0.ab2 h0 g0 (t0.trans e) h1 g1 (t1.trans f)
    · exact atoms9_1.ab2 h0 g0 (t0.trans e) h1 g1 (t1.trans f)
    · exact atoms9_2.ab2 h0 g0 (t0.trans e) h1 g1 (t1.trans f)
    · exact atoms9_3.ab2 h0 g0 (t0.trans e) h1 g1 (t1.trans f)
    · exact atoms9_4.ab2 h0 g0 (t0.trans e) h1 g1 (t1.trans f)
set_option maxRecDepth 100000 in
theorem lifted (os : Os) (started : os.Started) (H : Type) (enc : TypeId × Value → H) :
    ReturnsInHanded {} Tryz.checked os 3 .any (Rows.checkAtomsSpec.pre6 enc Tryz.prog Tryz.f3 Rows.checkAtomsRow.domain false) (Rows.checkAtomsSpec.post enc Tryz.prog Tryz.f3 false true false false) := by
  refine returnsInHanded_of_change_shaped (C := Tryz.checked) own started (by kernel_rfl) Tryz.func3
    (ChangeSpec.witness6 (enc := enc) (C := Tryz.checked) false ⟨#[], #[.int .u8 0, .int .u8 0], []⟩ 8 (by kernel_rfl) (by kernel_rfl) (by kernel_rfl) (by kernel_rfl)) ?_
  intro W base args ds gs before hval0 hW hcnd _ hsh0 _
  have hsh : W.ShapedOpen Tryz.prog := hsh0
  have hval : ∀ (j : Nat) t v, Tryz.f3.params[j]? = some t → args[j]? = some v → Value.okWide Tryz.prog W .any base t v := hval0
  obtain ⟨i, hg, lo, hi⟩ := glb_of_shape (P := Tryz.prog) (g := 0) (t := 3) (zero := #[.int .i64 0]) hsh (of_decide_eq_true (by kernel_rfl)) (by kernel_rfl) rfl (by kernel_rfl) (by kernel_rfl) Tryz.underlying3
  have hW' := hW
  obtain ⟨p, q, hA0, hV, rfl, hfz, hnd⟩ := hW
  have hA : DataW.TrodAll enc Tryz.prog W 0 (fun _ => true) true Tryz.f3.params.toList args.toList ds p := hA0
  rw [Tryz.params3] at hA hval
  obtain ⟨v0, vs0, d0, ds0, p0, q0, hargs, rfl, rfl, k0, r0⟩ := trodAll_cons hA
  obtain ⟨v1, vs1, d1, ds1, p1, q1, rfl, rfl, rfl, k1, r1⟩ := trodAll_cons r0
  obtain ⟨rfl, rfl, rfl⟩ := trodAll_nil r1
  obtain rfl : args = #[v0, v1] := by cases args; simp_all
  obtain ⟨rfl, rfl⟩ := trodVars_none hV
  have lt0 : ∀ x ∈ p0, x.block < W.heap.size := by obtain ⟨m, hm⟩ := k0; exact DataW.trod_lt m _ _ _ hm
  obtain ⟨x0, a0, b0, e0⟩ := int_arg Tryz.underlying5 (hval 0 5 v0 rfl rfl)
  have lt1 : ∀ x ∈ p1, x.block < W.heap.size := by obtain ⟨m, hm⟩ := k1; exact DataW.trod_lt m _ _ _ hm
  obtain ⟨x1, a1, b1, e1⟩ := int_arg Tryz.underlying5 (hval 1 5 v1 rfl rfl)
  have hc : PCall Tryz.prog 3 [.sc (.int .u8 x0), .sc (.int .u8 x1)] (heapG 0 minI maxI) (fun r _ => r = .sc (.bool true)) := all a0 b0 a1 b1
  refine (law_callsG (w := W) (vals := [v0, v1]) hg lo hi Ty.hb_3 hc (by simp only [RepL, Rep]; exact ⟨e0, e1, trivial⟩)).mono fun e W' ⟨he, bel⟩ => ?_
  subst he
  exact ⟨_, rfl, _, _, _, [], _, [], hW', trodAll_mk1 (shut_bool Tryz.underlying4 _), (trodAll_cons_mk (Below.trod laidOut (by kernel_rfl) (of_decide_eq_true (by kernel_rfl)) k0 bel lt0) (trodAll_cons_mk (Below.trod laidOut (by kernel_rfl) (of_decide_eq_true (by kernel_rfl)) k1 bel lt1) trodAll_mk0)), rfl, bel.frame _, fun h => by cases h⟩

theorem over : Rows.checkAtomsRow.holds Tryz.pinned (OpenSpec.ofChange Rows.checkAtomsSpec) :=
  OpenClaim.holds_of_wide 3 Tryz.f3 rfl rfl rfl rfl rfl rfl rfl ⟨rfl, rfl, rfl, rfl, rfl⟩ rfl rfl rfl rfl rfl (by kernel_rfl) Tryz.func3 (by kernel_rfl)
    (of_decide_eq_true (by kernel_rfl)) (by unfold Func.isWrapper; first | (rw [if_pos (by decide +kernel)]; kernel_rfl) | (rw [if_neg (by decide +kernel)]; exact ⟨rfl, rfl⟩))
    (fun os started H enc _ => lifted os started H enc)

/-- THE STATEMENT -/
theorem proved : Rows.CheckAtomsSaid := over
#print axioms proved
end Go.Proofs.YtdnpmfjfgamaeaaGreat.checkAtoms
