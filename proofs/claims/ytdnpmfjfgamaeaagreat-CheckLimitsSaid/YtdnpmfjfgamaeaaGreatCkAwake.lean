/- awake. -/
import Derived.Test.YtdnpmfjfgamaeaaGreatCkRight
set_option linter.unusedVariables false
set_option linter.unusedSimpArgs false
set_option linter.unusedSectionVars false
namespace Go.Proofs.YtdnpmfjfgamaeaaGreat
open Go.AM
set_option maxHeartbeats 2000000
set_option maxRecDepth 20000
/-- with the right tasks -/
noncomputable def ckExt3 (f : FuncId) (args : List PV) (h : Heap) : Option PV := match ckExt2 f args h with
  | some r => some r
  | none => if f = 16 then (match h.obj 0 with
      | some (.glb 0 lo hi) => if lo = minI ∧ hi = maxI ∧ (inNLb 1 args && (pvEq (.tup args) (.tup [smp 0, smp 1]) || pvEq (.tup args) (.tup [tmd 0, tmd 1]))) = true then some (.sc (.bool true)) else none
      | _ => none) else none
theorem ckExt3_ok : ExtOk2 Tryz.prog ckExt3 := by
  intro f args r h hx
  unfold ckExt3 at hx
  split at hx
  · rename_i r' hr
    simp only [Option.some.injEq] at hx
    subst hx
    exact ckExt2_ok _ _ _ _ hr
  split at hx
  · rename_i hf
    split at hx
    · rename_i hob
      split at hx
      · rename_i hc
        simp only [Option.some.injEq] at hx
        obtain ⟨rfl, rfl, hs⟩ := hc
        subst hx; subst hf
        simp only [Bool.and_eq_true, Bool.or_eq_true] at hs
        obtain ⟨hn, hs⟩ := hs
        have hn := inNLb_ok _ hn
        rcases hs with hs | hs
        · have := pvEq_eq _ _ hs
          simp only [PV.tup.injEq] at this
          subst this
          exact part_glb hob hn right1_c
        · have := pvEq_eq _ _ hs
          simp only [PV.tup.injEq] at this
          subst this
          exact part_glb hob hn right2_c
      · simp at hx
    · simp at hx
  · simp at hx
theorem awake_hG : PCall Tryz.prog 10 [] hG fun r h' => r = .sc (.bool true) ∧ h' = hG :=
  run_quiet ckExt3_ok (own := ck0Own) (keep := ck0Keep) (m := 2000) (k := 50) (by kernel_rfl)
theorem awake_c {h : Heap} (hob : h.obj 0 = some (.glb 0 minI maxI)) : PCall Tryz.prog 10 [] h fun r h' => r = .sc (.bool true) ∧ h' = h :=
  part_glb hob (by simp only [inNL]) awake_hG
end Go.Proofs.YtdnpmfjfgamaeaaGreat
