/- RegistryPaths: for every input the Go function stratagem/stratagemlaw23.RegistryPaths returns true and leaves its arguments as they were. No conditions beyond those of the statement. -/
import Derived.Test.YtmooliecnbhbjaaRows
import Derived.WalkKit
import Derived.ProofKit
import Derived.OpenShut
import Derived.ShutString
import Derived.ChangeOld
import Derived.Below
import Derived.SizedLaws
import Derived.Test.YtmooliecnbhbjaaRgPaths
import Derived.Test.YtmooliecnbhbjaaArgs3
set_option linter.unusedVariables false
set_option linter.unusedSimpArgs false
set_option linter.unusedSectionVars false
namespace Go.Proofs.Ytmooliecnbhbjaa.registryPaths
open Go.AM
open Go.ChangeShapes Go.WideShapes Go.ChangeAt Go.RowKit

theorem own : ownKnob Try.prog.godebug = none := by kernel_rfl
theorem laidOut : laidOutB Try.prog = true := by kernel_rfl

set_option maxRecDepth 100000 in
theorem lifted (os : Os) (started : os.Started) (H : Type) (enc : TypeId × Value → H) :
    ReturnsInHanded {} Try.checked os 12 .any (Rows.registryPathsSpec.pre6 enc Try.prog Try.f12 Rows.registryPathsRow.domain false) (Rows.registryPathsSpec.post enc Try.prog Try.f12 false true false false) := by
  refine returnsInHanded_of_change_sized (C := Try.checked) own started (by kernel_rfl) Try.func12
    (ChangeSpec.witness6 (enc := enc) (C := Try.checked) false ⟨#[], #[.slice none 0 0, .slice none 0 0], []⟩ 8 (by kernel_rfl) (by kernel_rfl) (by kernel_rfl) (by kernel_rfl)) ?_
  intro W base args ds gs before hval0 hW hcnd hsz0 _
  have hval : ∀ (j : Nat) t v, Try.f12.params[j]? = some t → args[j]? = some v → Value.okWide Try.prog W .any base t v := hval0
  have hsz : (DataW.weightsEach Try.prog (Try.f12.params.toList ++ Rows.registryPathsSpec.plain.varTypes Try.prog) (ds ++ gs)).all (· ≤ reachBytes) = true := hsz0
  have hW' := hW
  obtain ⟨p, q, hA0, hV, rfl, hfz, hnd⟩ := hW
  have hA : DataW.TrodAll enc Try.prog W 0 (fun _ => true) true Try.f12.params.toList args.toList ds p := hA0
  rw [Try.params12] at hA hval hsz
  obtain ⟨v0, vs0, d0, ds0, p0, q0, hargs, rfl, rfl, h0, r0⟩ := trodAll_cons hA
  obtain ⟨v1, vs1, d1, ds1, p1, q1, rfl, rfl, rfl, h1, r1⟩ := trodAll_cons r0
  obtain ⟨rfl, rfl, rfl⟩ := trodAll_nil r1
  obtain rfl : args = #[v0, v1] := by cases args; simp_all
  obtain ⟨rfl, rfl⟩ := trodVars_none hV
  have wle : ∀ (j : Nat) (t : TypeId) (d : DataW H), ([75, 76] ++ Rows.registryPathsSpec.plain.varTypes Try.prog)[j]? = some t → ([d0, d1] ++ [])[j]? = some d → ∀ n ∈ d.weights Try.prog t, n ≤ reachBytes := fun j t d g1 g2 n hn => by
    have := List.all_eq_true.1 hsz n (DataW.weights_mem_each g1 g2 n hn)
    exact of_decide_eq_true this
  have k0 := h0
  have lt0 : ∀ x ∈ p0, x.block < W.heap.size := by obtain ⟨m, hm⟩ := k0; exact DataW.trod_lt m _ _ _ hm
  obtain ⟨a0, x0, y0⟩ := arg_value (P := Try.prog) (w := W) (c := 8) (t := 75) (by kernel_rfl) h0 ⟨base, hval 0 75 v0 rfl rfl⟩ (wle 0 75 d0 rfl rfl)
  have k1 := h1
  have lt1 : ∀ x ∈ p1, x.block < W.heap.size := by obtain ⟨m, hm⟩ := k1; exact DataW.trod_lt m _ _ _ hm
  obtain ⟨a1, x1, y1⟩ := arg_value (P := Try.prog) (w := W) (c := 8) (t := 76) (by kernel_rfl) h1 ⟨base, hval 1 76 v1 rfl rfl⟩ (wle 1 76 d1 rfl rfl)
  clear hA0 hval0
  have walk : ∃ pargs : List PV, pargs = [a0, a1] ∧ PCall Try.prog 12 pargs Heap.nil (fun r _ => r = .sc (.bool true)) := by
    obtain ⟨ps, rfl, _, hp⟩ := argV_ints Try.underlying75 Try.underlying5 (by kernel_rfl) x0
    obtain ⟨os, rfl, hb, ho⟩ := argV_ints Try.underlying76 Try.underlying77 (by kernel_rfl) x1
    have b2 : Try.prog.bytesOf 77 = 2 := by kernel_rfl
    rw [b2] at hb
    refine ⟨_, rfl, registryPaths_c (ps := ps) (os := os) (fun x hx => ?_) (fun x hx => ?_) (by simp only [reachBytes] at hb; omega)⟩
    · have := hp x hx
      simp [Lit.wf, IntKind.min, IntKind.max, IntKind.bits, IntKind.signed] at this
      omega
    · have := ho x hx
      simp [Lit.wf, IntKind.min, IntKind.max, IntKind.bits, IntKind.signed] at this
      omega
  obtain ⟨pargs, rfl, hc⟩ := walk
  refine (law_calls (w := W) (vals := [v0, v1]) hc (by simp only [RepL]; exact ⟨y0 _ _, y1 _ _, trivial⟩)).mono fun e W' ⟨he, bel⟩ => ?_
  subst he
  exact ⟨_, rfl, _, _, _, [], _, [], hW', trodAll_mk1 (shut_bool Try.underlying4 _), (trodAll_cons_mk (Below.trod laidOut (by kernel_rfl) (of_decide_eq_true (by kernel_rfl)) k0 bel lt0) (trodAll_cons_mk (Below.trod laidOut (by kernel_rfl) (of_decide_eq_true (by kernel_rfl)) k1 bel lt1) trodAll_mk0)), rfl, bel.frame _, fun h => by cases h⟩

theorem over : Rows.registryPathsRow.holds Try.pinned (OpenSpec.ofChange Rows.registryPathsSpec) :=
  OpenClaim.holds_of_wide 12 Try.f12 rfl rfl rfl rfl rfl rfl rfl ⟨rfl, rfl, rfl, rfl, rfl⟩ rfl rfl rfl rfl rfl (by kernel_rfl) Try.func12 (by kernel_rfl)
    (of_decide_eq_true (by kernel_rfl)) (by unfold Func.isWrapper; first | (rw [if_pos (by decide +kernel)]; kernel_rfl) | (rw [if_neg (by decide +kernel)]; exact ⟨rfl, rfl⟩))
    (fun os started H enc _ => lifted os started H enc)

/-- THE STATEMENT -/
theorem proved : Rows.RegistryPathsSaid := over
#print axioms proved
end Go.Proofs.Ytmooliecnbhbjaa.registryPaths
