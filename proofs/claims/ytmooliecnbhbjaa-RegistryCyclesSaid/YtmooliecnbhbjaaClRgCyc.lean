/- RegistryCycles: for every input the Go function stratagem/stratagemlaw23.RegistryCycles returns true and leaves its arguments as they were. No conditions beyond those of the statement. -/
import Derived.Test.YtmooliecnbhbjaaRows
import Derived.WalkKit
import Derived.ProofKit
import Derived.OpenShut
import Derived.ShutString
import Derived.ChangeOld
import Derived.Below
import Derived.SizedLaws
import Derived.Test.YtmooliecnbhbjaaRgCyc
import Derived.Test.YtmooliecnbhbjaaArgs3
set_option linter.unusedVariables false
set_option linter.unusedSimpArgs false
set_option linter.unusedSectionVars false
namespace Go.Proofs.Ytmooliecnbhbjaa.registryCycles
open Go.AM
open Go.ChangeShapes Go.WideShapes Go.ChangeAt Go.RowKit

theorem own : ownKnob Try.prog.godebug = none := by kernel_rfl
theorem laidOut : laidOutB Try.prog = true := by kernel_rfl

set_option maxRecDepth 100000 in
theorem lifted (os : Os) (started : os.Started) (H : Type) (enc : TypeId × Value → H) :
    ReturnsInHanded {} Try.checked os 13 .any (Rows.registryCyclesSpec.pre6 enc Try.prog Try.f13 Rows.registryCyclesRow.domain false) (Rows.registryCyclesSpec.post enc Try.prog Try.f13 false true false false) := by
  refine returnsInHanded_of_change_sized (C := Try.checked) own started (by kernel_rfl) Try.func13
    (ChangeSpec.witness6 (enc := enc) (C := Try.checked) false ⟨#[], #[.int .u8 0, .int .u8 0], []⟩ 8 (by kernel_rfl) (by kernel_rfl) (by kernel_rfl) (by kernel_rfl)) ?_
  intro W base args ds gs before hval0 hW hcnd hsz0 _
  have hval : ∀ (j : Nat) t v, Try.f13.params[j]? = some t → args[j]? = some v → Value.okWide Try.prog W .any base t v := hval0
  have hsz : (DataW.weightsEach Try.prog (Try.f13.params.toList ++ Rows.registryCyclesSpec.plain.varTypes Try.prog) (ds ++ gs)).all (· ≤ reachBytes) = true := hsz0
  have hW' := hW
  obtain ⟨p, q, hA0, hV, rfl, hfz, hnd⟩ := hW
  have hA : DataW.TrodAll enc Try.prog W 0 (fun _ => true) true Try.f13.params.toList args.toList ds p := hA0
  rw [Try.params13] at hA hval hsz
  obtain ⟨v0, vs0, d0, ds0, p0, q0, hargs, rfl, rfl, h0, r0⟩ := trodAll_cons hA
  obtain ⟨v1, vs1, d1, ds1, p1, q1, rfl, rfl, rfl, h1, r1⟩ := trodAll_cons r0
  obtain ⟨rfl, rfl, rfl⟩ := trodAll_nil r1
  obtain rfl : args = #[v0, v1] := by cases args; simp_all
  obtain ⟨rfl, rfl⟩ := trodVars_none hV
  have wle : ∀ (j : Nat) (t : TypeId) (d : DataW H), ([5, 5] ++ Rows.registryCyclesSpec.plain.varTypes Try.prog)[j]? = some t → ([d0, d1] ++ [])[j]? = some d → ∀ n ∈ d.weights Try.prog t, n ≤ reachBytes := fun j t d g1 g2 n hn => by
    have := List.all_eq_true.1 hsz n (DataW.weights_mem_each g1 g2 n hn)
    exact of_decide_eq_true this
  have k0 := h0
  have lt0 : ∀ x ∈ p0, x.block < W.heap.size := by obtain ⟨m, hm⟩ := k0; exact DataW.trod_lt m _ _ _ hm
  obtain ⟨a0, x0, y0⟩ := arg_value (P := Try.prog) (w := W) (c := 8) (t := 5) (by kernel_rfl) h0 ⟨base, hval 0 5 v0 rfl rfl⟩ (wle 0 5 d0 rfl rfl)
  have k1 := h1
  have lt1 : ∀ x ∈ p1, x.block < W.heap.size := by obtain ⟨m, hm⟩ := k1; exact DataW.trod_lt m _ _ _ hm
  obtain ⟨a1, x1, y1⟩ := arg_value (P := Try.prog) (w := W) (c := 8) (t := 5) (by kernel_rfl) h1 ⟨base, hval 1 5 v1 rfl rfl⟩ (wle 1 5 d1 rfl rfl)
  clear hA0 hval0
  have walk : ∃ pargs : List PV, pargs = [a0, a1] ∧ PCall Try.prog 13 pargs Heap.nil (fun r _ => r = .sc (.bool true)) := by
    obtain ⟨x, hx, rfl⟩ := argV_int Try.underlying5 x0
    obtain ⟨y, hy, rfl⟩ := argV_int Try.underlying5 x1
    have hb : 0 ≤ x ∧ x < 256 := by
      simp [Lit.wf, IntKind.min, IntKind.max, IntKind.bits, IntKind.signed] at hx
      omega
    have hc : 0 ≤ y ∧ y < 256 := by
      simp [Lit.wf, IntKind.min, IntKind.max, IntKind.bits, IntKind.signed] at hy
      omega
    obtain ⟨n, rfl⟩ := Int.eq_ofNat_of_zero_le hb.1
    obtain ⟨cut, rfl⟩ := Int.eq_ofNat_of_zero_le hc.1
    exact ⟨_, rfl, registryCycles_c (n := n) (cut := cut) (by omega) (by omega)⟩
  obtain ⟨pargs, rfl, hc⟩ := walk
  refine (law_calls (w := W) (vals := [v0, v1]) hc (by simp only [RepL]; exact ⟨y0 _ _, y1 _ _, trivial⟩)).mono fun e W' ⟨he, bel⟩ => ?_
  subst he
  exact ⟨_, rfl, _, _, _, [], _, [], hW', trodAll_mk1 (shut_bool Try.underlying4 _), (trodAll_cons_mk (Below.trod laidOut (by kernel_rfl) (of_decide_eq_true (by kernel_rfl)) k0 bel lt0) (trodAll_cons_mk (Below.trod laidOut (by kernel_rfl) (of_decide_eq_true (by kernel_rfl)) k1 bel lt1) trodAll_mk0)), rfl, bel.frame _, fun h => by cases h⟩

theorem over : Rows.registryCyclesRow.holds Try.pinned (OpenSpec.ofChange Rows.registryCyclesSpec) :=
  OpenClaim.holds_of_wide 13 Try.f13 rfl rfl rfl rfl rfl rfl rfl ⟨rfl, rfl, rfl, rfl, rfl⟩ rfl rfl rfl rfl rfl (by kernel_rfl) Try.func13 (by kernel_rfl)
    (of_decide_eq_true (by kernel_rfl)) (by unfold Func.isWrapper; first | (rw [if_pos (by decide +kernel)]; kernel_rfl) | (rw [if_neg (by decide +kernel)]; exact ⟨rfl, rfl⟩))
    (fun os started H enc _ => lifted os started H enc)

/-- THE STATEMENT -/
theorem proved : Rows.RegistryCyclesSaid := over
#print axioms proved
end Go.Proofs.Ytmooliecnbhbjaa.registryCycles
