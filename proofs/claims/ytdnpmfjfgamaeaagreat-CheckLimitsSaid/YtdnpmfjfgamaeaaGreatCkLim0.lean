/- CheckLimits: Clip of what is far away. -/
import Derived.Test.YtdnpmfjfgamaeaaGreatCkCont
import Derived.Test.YtdnpmfjfgamaeaaGreatCkTop
set_option linter.unusedVariables false
set_option linter.unusedSimpArgs false
set_option linter.unusedSectionVars false
namespace Go.Proofs.YtdnpmfjfgamaeaaGreat
open Go.AM
set_option maxHeartbeats 2000000
set_option maxRecDepth 20000
abbrev two : PV := .sc (.int .i64 2)
abbrev neg2 : PV := .sc (.int .i64 (-2))
theorem clip_lo {h : Heap} : PCall Tryz.prog 18 [.ab .i64 minI (-2) 1 0, neg2, two] h fun r h' => r = .sc (.int .i64 (-2)) ∧ h' = h := by
  have c1 : PCall Tryz.prog 18 [.ab .i64 minI (-3) 1 0, neg2, two] Heap.nil fun r h' => r = .sc (.int .i64 (-2)) ∧ h' = Heap.nil := run_quiet ckExt5_ok (own := ckOwn) (keep := ckKeep) (m := 2000) (k := 20) (by kernel_rfl)
  have c2 : PCall Tryz.prog 18 [.sc (.int .i64 (-2)), neg2, two] Heap.nil fun r h' => r = .sc (.int .i64 (-2)) ∧ h' = Heap.nil := run_quiet ckExt5_ok (own := ckOwn) (keep := ckKeep) (m := 2000) (k := 20) (by kernel_rfl)
  exact PCall.abSplit (-3) (fun n l1 l2 => (PCall.part c1 (Nat.zero_le _) (fun id o ho => by simp [Heap.nil] at ho) (by simp only [inNL, inN, and_self])).abs (by omega) (by omega) (Int.tmod_one n)) (fun n l1 l2 => by
      obtain rfl : n = (-2) := by omega
      exact PCall.part c2 (Nat.zero_le _) (fun id o ho => by simp [Heap.nil] at ho) (by simp only [inNL, inN, and_self]))
theorem clip_hi {h : Heap} : PCall Tryz.prog 18 [.ab .i64 2 maxI 1 0, neg2, two] h fun r h' => r = .sc (.int .i64 2) ∧ h' = h := by
  have c1 : PCall Tryz.prog 18 [.ab .i64 3 maxI 1 0, neg2, two] Heap.nil fun r h' => r = .sc (.int .i64 2) ∧ h' = Heap.nil := run_quiet ckExt5_ok (own := ckOwn) (keep := ckKeep) (m := 2000) (k := 20) (by kernel_rfl)
  have c2 : PCall Tryz.prog 18 [.sc (.int .i64 2), neg2, two] Heap.nil fun r h' => r = .sc (.int .i64 2) ∧ h' = Heap.nil := run_quiet ckExt5_ok (own := ckOwn) (keep := ckKeep) (m := 2000) (k := 20) (by kernel_rfl)
  exact PCall.abSplit 2 (fun n l1 l2 => by
      obtain rfl : n = 2 := by omega
      exact PCall.part c2 (Nat.zero_le _) (fun id o ho => by simp [Heap.nil] at ho) (by simp only [inNL, inN, and_self])) (fun n l1 l2 => (PCall.part c1 (Nat.zero_le _) (fun id o ho => by simp [Heap.nil] at ho) (by simp only [inNL, inN, and_self])).abs (by omega) (by omega) (Int.tmod_one n))
/-- with Clip -/
def ckExt6 (f : FuncId) (args : List PV) (h : Heap) : Option PV :=
  if f = 18 then (match args with
    | [.ab .i64 lo hi 1 0, .sc (.int .i64 a), .sc (.int .i64 b)] => if a = -2 ∧ b = 2 then (if lo = minI ∧ hi = -2 then some neg2 else if lo = 2 ∧ hi = maxI then some two else none) else none
    | _ => ckExt5 f args h)
  else ckExt5 f args h
theorem ckExt6_ok : ExtOk2 Tryz.prog ckExt6 := by
  intro f args r h hx
  unfold ckExt6 at hx
  split at hx
  · rename_i hf
    split at hx
    · rename_i lo hi a b
      split at hx
      · rename_i hab
        obtain ⟨rfl, rfl⟩ := hab
        split at hx
        · rename_i hc
          obtain ⟨rfl, rfl⟩ := hc
          simp only [Option.some.injEq] at hx
          subst hx; subst hf
          exact clip_lo
        · split at hx
          · rename_i hc
            obtain ⟨rfl, rfl⟩ := hc
            simp only [Option.some.injEq] at hx
            subst hx; subst hf
            exact clip_hi
          · simp at hx
      · simp at hx
    · exact ckExt5_ok _ _ _ _ hx
  · exact ckExt5_ok _ _ _ _ hx
end Go.Proofs.YtdnpmfjfgamaeaaGreat
