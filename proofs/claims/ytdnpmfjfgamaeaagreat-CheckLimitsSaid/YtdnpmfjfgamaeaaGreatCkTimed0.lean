/- CheckTimed: cases. -/
import Derived.Test.YtdnpmfjfgamaeaaGreatCkAwake
set_option linter.unusedVariables false
set_option linter.unusedSimpArgs false
set_option linter.unusedSectionVars false
namespace Go.Proofs.YtdnpmfjfgamaeaaGreat
open Go.AM
set_option maxHeartbeats 2000000
set_option maxRecDepth 20000
def ckExt4 (f : FuncId) (args : List PV) (h : Heap) : Option PV := match ckExt2 f args h with
  | some r => some r
  | none => if f = 10 then (if args.isEmpty = true then (match h.obj 0 with
      | some (.glb 0 lo hi) => if lo = minI ∧ hi = maxI then some (.sc (.bool true)) else none
      | _ => none) else none) else none
theorem ckExt4_ok : ExtOk2 Tryz.prog ckExt4 := by
  intro f args r h hx
  unfold ckExt4 at hx
  split at hx
  · rename_i r' hr
    simp only [Option.some.injEq] at hx
    subst hx
    exact ckExt2_ok _ _ _ _ hr
  split at hx
  · rename_i hf
    split at hx
    · rename_i ha
      have ha := List.isEmpty_iff.1 ha
      subst ha
      split at hx
      · rename_i hob
        split at hx
        · rename_i hc
          simp only [Option.some.injEq] at hx
          obtain ⟨rfl, rfl⟩ := hc
          subst hx; subst hf
          exact awake_c hob
        · simp at hx
      · simp at hx
    · simp at hx
  · simp at hx
theorem timed0 : PCall Tryz.prog 5 [.ab .u8 0 255 9 0] hG fun r _ => r = .sc (.bool true) :=
  pcall_run2 (wf := ckWf) (own := ckOwn) (keep := ckKeep) Ty.mixed ckExt4_ok (m := 2000) (k := 60) (by kernel_rfl)
end Go.Proofs.YtdnpmfjfgamaeaaGreat
