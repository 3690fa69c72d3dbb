/- What the laws are handed, as the abstract machine has it. -/
import Derived.Test.YtjlkapgpjamnkaaAmTac
set_option linter.unusedVariables false
set_option linter.unusedSimpArgs false
set_option linter.unusedSectionVars false
namespace Go.AM
theorem arg_cells {k : IntKind} {w : World} {a : Addr} {zs : List Int} (hc : ∀ i, i < zs.length → w.cell? (a.add i) = some (.int k (zs.getD i 0))) (hz : zs ≠ []) : a.spot = none ∧ a.block < w.heap.size ∧ ∀ i, i < zs.length → w.cell? ⟨a.block, a.off + i, none⟩ = some (.int k (zs.getD i 0)) := by
  have hl : 0 < zs.length := by cases zs with | nil => exact absurd rfl hz | cons => simp
  have h0 := hc 0 hl
  simp only [Addr.add, if_true] at h0
  have hs : a.spot = none := by
    unfold World.cell? at h0
    split at h0
    · split at h0
      · exact absurd h0 (by simp)
      · rename_i hs; simpa using hs
    · exact absurd h0 (by simp)
  have hb : a.block < w.heap.size := by
    unfold World.cell? at h0
    split at h0
    · rename_i he
      exact (Array.getElem?_eq_some_iff.1 he).1
    · exact absurd h0 (by simp)
  refine ⟨hs, hb, fun i hi => ?_⟩
  have h1 := hc i hi
  unfold Addr.add at h1
  split at h1
  · rename_i h00
    subst h00
    rw [← h1]
    congr 1
    cases a
    simp only at hs
    subst hs
    rfl
  · exact h1
theorem arg_rows {β : Nat → Blk} {n : Nat} {F : Nat → Prop} {w : World} {k : IntKind} {b : Nat} : (zs : List Int) → (o : Nat) → (∀ i, i < zs.length → w.cell? ⟨b, o + i, none⟩ = some (.int k (zs.getD i 0))) → RepR β n F w 1 (zs.map fun x => [.sc (.int k x)]) b o
  | [], _, _ => by simp only [List.map_nil, RepR]
  | z :: zs, o, hc => by
    have h0 := hc 0 (by simp)
    simp only [List.map_cons, RepR, RepS, List.length_cons, List.length_nil, true_and, and_true, Rep]
    refine ⟨⟨_, h0, rfl, rfl⟩, arg_rows zs (o + 1) fun i hi => ?_⟩
    have := hc (i + 1) (by simpa using hi)
    rw [show o + 1 + i = o + (i + 1) by omega, this]
    rfl
/-- a slice of numbers that came in -/
theorem arg_ints {β : Nat → Blk} {n : Nat} {w : World} {k : IntKind} {a : Option Addr} {len cap : Nat} {zs : List Int}
    (h : (a = none ∧ len = 0 ∧ cap = 0 ∧ zs = []) ∨ ∃ x, a = some x ∧ len ≤ cap ∧ cap ≤ maxLen ∧ zs.length = cap ∧ (∀ i, i < zs.length → w.cell? (x.add i) = some (.int k (zs.getD i 0))) ∧ ∀ n ∈ zs, (Lit.int k n).wf = true) :
    Rep β n (fun b => b < w.heap.size) w (.imm 1 ((zs.take len).map fun x => [.sc (.int k x)])) (.slice a len cap) ∧ (∀ n ∈ zs.take len, (Lit.int k n).wf = true) ∧ (zs.take len).length = len := by
  rcases h with ⟨rfl, rfl, rfl, rfl⟩ | ⟨x, rfl, hlc, hcm, hz, hc, hw⟩
  · refine ⟨?_, by simp, rfl⟩
    simp only [Rep]
    exact ⟨none, 0, rfl, Nat.le_refl _, Nat.zero_le _, .inl rfl⟩
  · have hlen : (zs.take len).length = len := by rw [List.length_take]; omega
    refine ⟨?_, fun n hn => hw n (List.mem_of_mem_take hn), hlen⟩
    simp only [Rep]
    refine ⟨some x, cap, by rw [List.length_map, hlen], by rw [List.length_map, hlen]; exact hlc, hcm, ?_⟩
    by_cases h0 : zs.take len = []
    · left; rw [h0]; rfl
    · right
      have hzs : zs ≠ [] := by intro e; rw [e] at h0; exact h0 (by simp)
      obtain ⟨hs, hb, hcc⟩ := arg_cells hc hzs
      refine ⟨x.block, x.off, hb, by cases x; simp only at hs; subst hs; rfl, arg_rows _ _ fun i hi => ?_⟩
      rw [hlen] at hi
      rw [hcc i (by omega)]
      congr 2
      simp [List.getD, List.getElem?_take, hi]
theorem rowsU_of {l : List Int} (h : ∀ n ∈ l, (Lit.int .u64 n).wf = true) : rowsU (l.map (BitVec.ofInt 64)) = l.map fun x => [.sc (.int .u64 x)] := by
  unfold rowsU uPV
  rw [List.map_map]
  refine List.map_congr_left fun x hx => ?_
  have := h x hx
  have hr : 0 ≤ x ∧ x < 18446744073709551616 := by
    simp [Lit.wf, IntKind.min, IntKind.max, IntKind.bits, IntKind.signed] at this
    omega
  simp only [Function.comp]
  congr 3
  rw [BitVec.toNat_ofInt]
  omega
end Go.AM
