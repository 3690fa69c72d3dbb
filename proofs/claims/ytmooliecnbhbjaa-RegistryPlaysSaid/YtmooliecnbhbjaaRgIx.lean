/- Where states stand among the entries of a registry. -/
import Derived.Test.YtmooliecnbhbjaaRgFind
set_option linter.unusedVariables false
set_option linter.unusedSimpArgs false
set_option linter.unusedSectionVars false
namespace Go.Proofs.Ytmooliecnbhbjaa
open Go.AM
set_option maxHeartbeats 4000000
set_option maxRecDepth 20000

theorem pack_inj {xs ss ts : List Int} (hok : xs.all okSize = true) (hs : properM xs ss = true) (ht : properM xs ts = true) (h : packW xs ss = packW xs ts) : ss = ts := by
  have h1 := vals_pack hok hs
  have h2 := vals_pack hok ht
  rw [h, h2] at h1
  exact h1.symm
theorem ix_new {xs : List Int} (hok : xs.all okSize = true) {l : List (List Int)} {ss : List Int} (hl : ∀ s ∈ l, properM xs s = true) (hs : properM xs ss = true) (hn : ss ∉ l) {E : List Ent} (hE : E.map (·.W) = l.map (packW xs)) : ixI E (packW xs ss) = -1 := by
  rcases ixI_spec E (packW xs ss) with ⟨n, e, h1, h2, h3⟩ | ⟨h1, _⟩
  · exfalso
    have h4 : (E.map (·.W))[n]? = some (packW xs ss) := by rw [List.getElem?_map, h2]; simp [h3]
    rw [hE, List.getElem?_map, Option.map_eq_some_iff] at h4
    obtain ⟨s, h5, h6⟩ := h4
    have h7 := List.mem_of_getElem? h5
    exact hn (by rw [← pack_inj hok (hl s h7) hs h6]; exact h7)
  · exact h1
theorem ix_old {xs : List Int} {l : List (List Int)} {ss : List Int} {E : List Ent} (hu : Uniq E) {n : Nat} (hn : l[n]? = some ss) (hE : E.map (·.W) = l.map (packW xs)) : ixI E (packW xs ss) = n := by
  have h4 : (E.map (·.W))[n]? = some (packW xs ss) := by rw [hE, List.getElem?_map, hn]; rfl
  rw [List.getElem?_map, Option.map_eq_some_iff] at h4
  obtain ⟨e, h5, h6⟩ := h4
  exact (ixI_spec E (packW xs ss)).uniq hu (.inl ⟨n, e, rfl, h5, h6⟩)
theorem quo_nat (a b : Nat) (hb : 0 < b) (ha : a < 65536) : IntKind.i64.wrap ((a : Int).tdiv (b : Int)) = ((a / b : Nat) : Int) := by
  have h1 : (a : Int).tdiv (b : Int) = ((a / b : Nat) : Int) := by rw [Int.tdiv_eq_ediv_of_nonneg (by omega)]; rfl
  have h2 := Nat.div_le_self a b
  obtain ⟨q, hq⟩ : ∃ q, q = a / b := ⟨_, rfl⟩
  rw [h1, ← hq]
  rw [← hq] at h2
  rw [wrap64 (by omega) (by omega)]
theorem rem_nat (a b : Nat) : (a : Int).tmod (b : Int) = ((a % b : Nat) : Int) := by
  rw [Int.tmod_eq_emod_of_nonneg (by omega)]; rfl
theorem Tl.fr {h h' : Heap} {id0 z : Nat} {p : PV} {rows : List (List PV)} (t : Tl h id0 z p rows) (hn : h.next ≤ h'.next) (ho : ∀ j len, p = .own j 0 len → h'.obj j = h.obj j) : Tl h' id0 z p rows := by
  rcases t with ht | ⟨id, h1, h2, rfl, h3⟩
  · exact .inl ht
  · exact .inr ⟨id, h1, by omega, rfl, by rw [ho id _ rfl]; exact h3⟩
theorem Tl.lt {h : Heap} {id0 z : Nat} {p : PV} {rows : List (List PV)} (t : Tl h id0 z p rows) : ∀ j len, p = .own j 0 len → j < h.next := by
  rcases t with ⟨_, rfl | rfl⟩ | ⟨id, h1, h2, rfl, h3⟩
  · intro j len h; simp at h
  · intro j len h; simp at h
  · intro j len h; simp at h; omega
theorem one_proper {i : Nat} (hi : i < 64) : properM [64] [(i : Int)] = true := by
  unfold properM; simp; omega
theorem one_new {i : Nat} (hi : i < 64) {E : List Ent} (hE : E.map (·.W) = ((List.range i).map fun (j : Nat) => [(j : Int)]).map (packW [64])) : ixI E (packW [64] [(i : Int)]) = -1 := by
  refine ix_new (by decide) (l := (List.range i).map fun (j : Nat) => [(j : Int)]) (ss := [(i : Int)]) (fun s hs => ?_) (one_proper hi) (fun hs => ?_) hE
  · obtain ⟨j, hj, rfl⟩ := List.mem_map.1 hs
    simp at hj
    exact one_proper (by omega)
  · obtain ⟨j, hj, he⟩ := List.mem_map.1 hs
    simp at hj he
    omega
end Go.Proofs.Ytmooliecnbhbjaa
