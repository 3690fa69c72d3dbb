/- Small lemmas on states and words. -/
import Derived.Test.YtmooliecnbhbjaaPkPack
import Derived.Test.YtmooliecnbhbjaaBits
import Derived.Test.YtmooliecnbhbjaaTl
set_option linter.unusedVariables false
set_option linter.unusedSimpArgs false
set_option linter.unusedSectionVars false
namespace Go.Proofs.Ytmooliecnbhbjaa
open Go.AM
set_option maxHeartbeats 1000000
set_option maxRecDepth 20000

theorem zip_bad {xs ss : List Int} {k : Nat} (h1 : k < xs.length) (h2 : k < ss.length) (hb : ¬ (0 ≤ ss[k] ∧ ss[k] < xs[k])) : properM xs ss = false := by
  rw [Bool.eq_false_iff]
  intro hh
  simp only [properM, Bool.and_eq_true] at hh
  have hzl : k < (ss.zip xs).length := by rw [List.length_zip]; omega
  have := List.all_eq_true.1 hh.2 _ (List.getElem_mem hzl)
  rw [List.getElem_zip] at this
  simp at this; omega
theorem properM_get {xs ss : List Int} (h : properM xs ss = true) : ss.length = xs.length ∧ ∀ (k : Nat) (h1 : k < xs.length) (h2 : k < ss.length), 0 ≤ ss[k] ∧ ss[k] < xs[k] := by
  have hl : ss.length = xs.length := by
    simp only [properM, Bool.and_eq_true, decide_eq_true_eq] at h; exact h.1
  refine ⟨hl, fun k h1 h2 => ?_⟩
  by_cases hb : 0 ≤ ss[k] ∧ ss[k] < xs[k]
  · exact hb
  · rw [zip_bad h1 h2 hb] at h; exact absurd h (by simp)
theorem take_eq_succ {α : Type} {a b : List α} {k : Nat} (h1 : k < a.length) (h2 : k < b.length) (h : a.take k = b.take k) (he : a[k] = b[k]) : a.take (k + 1) = b.take (k + 1) := by
  rw [List.take_succ_eq_append_getElem h1, List.take_succ_eq_append_getElem h2, h, he]
theorem slWord {h : Heap} {p : PV} {xs : List (BitVec 64)} (hp : Sl h 1 p (rowsU xs)) {i : Nat} (hi : i < xs.length) : ∃ q, idx h 1 p (i : Int) = some q ∧ rd h q = some [.sc (.int .u64 xs[i].toNat)] := hp.get i _ (rowsU_get hi)
theorem checkM_ok {xs : List Int} (h : checkM xs = 0) : xs.length ≤ 64 ∧ xs.all okSize = true := by
  unfold checkM at h
  split at h
  · omega
  · split at h
    · exact ⟨by omega, by assumption⟩
    · omega
end Go.Proofs.Ytmooliecnbhbjaa
