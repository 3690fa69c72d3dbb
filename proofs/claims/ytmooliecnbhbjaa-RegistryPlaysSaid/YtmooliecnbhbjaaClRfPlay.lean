/- RegistryPlays: for every input the Go function stratagem/stratagemlaw23.RegistryPlays returns true and leaves its arguments as they were. No conditions beyond those of the statement. -/
import Derived.Test.YtmooliecnbhbjaaRows
import Derived.WalkKit
import Derived.ProofKit
import Derived.OpenShut
import Derived.ShutString
import Derived.ChangeOld
import Derived.Below
import Derived.SizedLaws
import Derived.Test.YtmooliecnbhbjaaRfPlay
import Derived.Test.YtmooliecnbhbjaaArgs3
set_option linter.unusedVariables false
set_option linter.unusedSimpArgs false
set_option linter.unusedSectionVars false
namespace Go.Proofs.Ytmooliecnbhbjaa.registryPlays
open Go.AM
open Go.ChangeShapes Go.WideShapes Go.ChangeAt Go.RowKit

theorem own : ownKnob Try.prog.godebug = none := by kernel_rfl
theorem laidOut : laidOutB Try.prog = true := by kernel_rfl

set_option maxRecDepth 100000 in
theorem lifted (os : Os) (started : os.Started) (H : Type) (enc : TypeId × Value → H) :
    ReturnsInHanded {} Try.checked os 14 .any (Rows.registryPlaysSpec.pre6 enc Try.prog Try.f14 Rows.registryPlaysRow.domain false) (Rows.registryPlaysSpec.post enc Try.prog Try.f14 false true false false) := by
  refine returnsInHanded_of_change_sized (C := Try.checked) own started (by kernel_rfl) Try.func14
    (ChangeSpec.witness6 (enc := enc) (C := Try.checked) false ⟨#[], #[.slice none 0 0, .slice none 0 0], []⟩ 8 (by kernel_rfl) (by kernel_rfl) (by kernel_rfl) (by kernel_rfl)) ?_
  intro W base args ds gs before hval0 hW hcnd hsz0 _
  have hval : ∀ (j : Nat) t v, Try.f14.params[j]? = some t → args[j]? = some v → Value.okWide Try.prog W .any base t v := hval0
  have hsz : (DataW.weightsEach Try.prog (Try.f14.params.toList ++ Rows.registryPlaysSpec.plain.varTypes Try.prog) (ds ++ gs)).all (· ≤ reachBytes) = true := hsz0
  have hW' := hW
  obtain ⟨p, q, hA0, hV, rfl, hfz, hnd⟩ := hW
  have hA : DataW.TrodAll enc Try.prog W 0 (fun _ => true) true Try.f14.params.toList args.toList ds p := hA0
  rw [Try.params14] at hA hval hsz
  obtain ⟨v0, vs0, d0, ds0, p0, q0, hargs, rfl, rfl, h0, r0⟩ := trodAll_cons hA
  obtain ⟨v1, vs1, d1, ds1, p1, q1, rfl, rfl, rfl, h1, r1⟩ := trodAll_cons r0
  obtain ⟨rfl, rfl, rfl⟩ := trodAll_nil r1
  obtain rfl : args = #[v0, v1] := by cases args; simp_all
  obtain ⟨rfl, rfl⟩ := trodVars_none hV
  have wle : ∀ (j : Nat) (t : TypeId) (d : DataW H), ([22, 82] ++ Rows.registryPlaysSpec.plain.varTypes Try.prog)[j]? = some t → ([d0, d1] ++ [])[j]? = some d → ∀ n ∈ d.weights Try.prog t, n ≤ reachBytes := fun j t d g1 g2 n hn => by
    have := List.all_eq_true.1 hsz n (DataW.weights_mem_each g1 g2 n hn)
    exact of_decide_eq_true this
  have k0 := h0
  have lt0 : ∀ x ∈ p0, x.block < W.heap.size := by obtain ⟨m, hm⟩ := k0; exact DataW.trod_lt m _ _ _ hm
  obtain ⟨a0, x0, y0⟩ := arg_value (P := Try.prog) (w := W) (c := 8) (t := 22) (by kernel_rfl) h0 ⟨base, hval 0 22 v0 rfl rfl⟩ (wle 0 22 d0 rfl rfl)
  have k1 := h1
  have lt1 : ∀ x ∈ p1, x.block < W.heap.size := by obtain ⟨m, hm⟩ := k1; exact DataW.trod_lt m _ _ _ hm
  obtain ⟨a1, x1, y1⟩ := arg_value (P := Try.prog) (w := W) (c := 8) (t := 82) (by kernel_rfl) h1 ⟨base, hval 1 82 v1 rfl rfl⟩ (wle 1 82 d1 rfl rfl)
  clear hA0 hval0
  have walk : ∃ pargs : List PV, pargs = [a0, a1] ∧ PCall Try.prog 14 pargs Heap.nil (fun r _ => r = .sc (.bool true)) := by
    obtain ⟨xs, rfl, _⟩ := argV_ints Try.underlying22 Try.underlying3 (by kernel_rfl) x0
    obtain ⟨rows, e1, _, hm, hr⟩ := Arg_slice Try.underlying82 (argV_slice Try.underlying82 x1)
    have hp : partsT Try.prog 85 = [(0, 5), (1, 22), (2, 3), (3, 3), (4, 3), (5, 3)] := by kernel_rfl
    have c85 : Try.prog.cellsOf 85 = 6 := by kernel_rfl
    have c5 : Try.prog.cellsOf 5 = 1 := by kernel_rfl
    have c22 : Try.prog.cellsOf 22 = 1 := by kernel_rfl
    have c3 : Try.prog.cellsOf 3 = 1 := by kernel_rfl
    obtain ⟨l, rfl, hk⟩ := rows_map (Q := fun a : Act => a.kind < 256) (f := actRow) rows (fun r hr0 => by
      obtain ⟨hl, hps⟩ := Arg_struct Try.underlying85 (hr r hr0).2
      rw [hp] at hps
      rw [c85] at hl
      obtain ⟨k, hk, ek⟩ := Arg_int Try.underlying5 (hps (0, 5) (by simp))
      obtain ⟨S, eS, _⟩ := arg_ints2 Try.underlying22 Try.underlying3 c3 (hps (1, 22) (by simp))
      obtain ⟨a, _, ea⟩ := Arg_int Try.underlying3 (hps (2, 3) (by simp))
      obtain ⟨b, _, eb⟩ := Arg_int Try.underlying3 (hps (3, 3) (by simp))
      obtain ⟨o, _, eo⟩ := Arg_int Try.underlying3 (hps (4, 3) (by simp))
      obtain ⟨c, _, ec⟩ := Arg_int Try.underlying3 (hps (5, 3) (by simp))
      have hb : 0 ≤ k ∧ k < 256 := by
        simp [Lit.wf, IntKind.min, IntKind.max, IntKind.bits, IntKind.signed] at hk
        omega
      obtain ⟨kn, rfl⟩ := Int.eq_ofNat_of_zero_le hb.1
      match r, hl with
      | [u0, u1, u2, u3, u4, u5], _ =>
        simp [c5, c22, c3] at ek eS ea eb eo ec
        exact ⟨⟨kn, S, a, b, o, c⟩, by simp only; omega, by rw [ek, eS, ea, eb, eo, ec]; rfl⟩)
    rw [c85] at e1
    simp only [List.cons.injEq, and_true] at e1
    subst e1
    exact ⟨_, rfl, registryPlays_c (xs := xs) (l := l) hk⟩
  obtain ⟨pargs, rfl, hc⟩ := walk
  refine (law_calls (w := W) (vals := [v0, v1]) hc (by simp only [RepL]; exact ⟨y0 _ _, y1 _ _, trivial⟩)).mono fun e W' ⟨he, bel⟩ => ?_
  subst he
  exact ⟨_, rfl, _, _, _, [], _, [], hW', trodAll_mk1 (shut_bool Try.underlying4 _), (trodAll_cons_mk (Below.trod laidOut (by kernel_rfl) (of_decide_eq_true (by kernel_rfl)) k0 bel lt0) (trodAll_cons_mk (Below.trod laidOut (by kernel_rfl) (of_decide_eq_true (by kernel_rfl)) k1 bel lt1) trodAll_mk0)), rfl, bel.frame _, fun h => by cases h⟩

theorem over : Rows.registryPlaysRow.holds Try.pinned (OpenSpec.ofChange Rows.registryPlaysSpec) :=
  OpenClaim.holds_of_wide 14 Try.f14 rfl rfl rfl rfl rfl rfl rfl ⟨rfl, rfl, rfl, rfl, rfl⟩ rfl rfl rfl rfl rfl (by kernel_rfl) Try.func14 (by kernel_rfl)
    (of_decide_eq_true (by kernel_rfl)) (by unfold Func.isWrapper; first | (rw [if_pos (by decide +kernel)]; kernel_rfl) | (rw [if_neg (by decide +kernel)]; exact ⟨rfl, rfl⟩))
    (fun os started H enc _ => lifted os started H enc)

/-- THE STATEMENT -/
theorem proved : Rows.RegistryPlaysSaid := over
#print axioms proved
end Go.Proofs.Ytmooliecnbhbjaa.registryPlays
