/- Lemmas on the relation: cells and elements by their places; a step that changes one object. -/
import Derived.Test.YtdnpmfjfgamaeaaGreatAmMono
set_option linter.unusedVariables false
set_option linter.unusedSimpArgs false
set_option linter.unusedSectionVars false
namespace Go.AM
section
variable {β : Env} {n : Nat} {F : Nat → Prop} {w : World}

theorem RepS_iff : {l : List PV} → {b o : Nat} → (RepS β n F w l b o ↔ ∀ j p, l[j]? = some p → ∃ v, w.cell? ⟨b, o + j, none⟩ = some v ∧ v.oneCell' = true ∧ Rep β n F w p v)
  | [], b, o => by simp [RepS]
  | p :: ps, b, o => by
    simp only [RepS, RepS_iff (l := ps)]
    constructor
    · rintro ⟨h0, h1⟩ j q hq
      cases j with
      | zero => simp at hq; subst hq; simpa using h0
      | succ j =>
        have := h1 j q (by simpa using hq)
        rwa [show o + 1 + j = o + (j + 1) by omega] at this
    · intro h
      refine ⟨by simpa using h 0 p rfl, fun j q hq => ?_⟩
      have := h (j + 1) q (by simpa using hq)
      rwa [show o + (j + 1) = o + 1 + j by omega] at this
theorem RepR_iff {z : Nat} : {l : List (List PV)} → {b o : Nat} → (RepR β n F w z l b o ↔ ∀ i r, l[i]? = some r → r.length = z ∧ RepS β n F w r b (o + i * z))
  | [], b, o => by simp [RepR]
  | r :: rs, b, o => by
    simp only [RepR, RepR_iff (l := rs)]
    constructor
    · rintro ⟨h0, h1⟩ j q hq
      cases j with
      | zero => simp at hq; subst hq; simpa using h0
      | succ j =>
        have := h1 j q (by simpa using hq)
        rwa [show o + z + j * z = o + (j + 1) * z by rw [Nat.succ_mul]; omega] at this
    · intro h
      refine ⟨by simpa using h 0 r rfl, fun j q hq => ?_⟩
      have := h (j + 1) q (by simpa using hq)
      rwa [show o + (j + 1) * z = o + z + j * z by rw [Nat.succ_mul]; omega] at this
theorem RepL_iff : {l : List PV} → {xs : List Value} → (RepL β n F w l xs ↔ l.length = xs.length ∧ ∀ (j : Nat) (p : PV) (v : Value), l[j]? = some p → xs[j]? = some v → Rep β n F w p v)
  | [], [] => by simp [RepL]
  | [], _ :: _ => by simp [RepL]
  | _ :: _, [] => by simp [RepL]
  | p :: ps, v :: vs => by
    simp only [RepL, RepL_iff (l := ps) (xs := vs), List.length_cons]
    constructor
    · rintro ⟨h0, h1, h2⟩
      refine ⟨by omega, fun j q u hq hu => ?_⟩
      cases j with
      | zero => simp at hq hu; subst hq; subst hu; exact h0
      | succ j => exact h2 j q u (by simpa using hq) (by simpa using hu)
    · rintro ⟨h1, h2⟩
      exact ⟨h2 0 p v rfl rfl, by omega, fun j q u hq hu => h2 (j + 1) q u (by simpa using hq) (by simpa using hu)⟩

theorem RepS.drop {l : List PV} {b o : Nat} (h : RepS β n F w l b o) (f : Nat) : RepS β n F w (l.drop f) b (o + f) := by
  rw [RepS_iff] at h ⊢
  intro j p hp
  rw [List.getElem?_drop] at hp
  have := h (f + j) p hp
  rwa [show o + (f + j) = o + f + j by omega] at this
theorem RepS.take {l : List PV} {b o : Nat} (h : RepS β n F w l b o) (f : Nat) : RepS β n F w (l.take f) b o := by
  rw [RepS_iff] at h ⊢
  intro j p hp
  rw [List.getElem?_take] at hp
  split at hp
  · exact h j p hp
  · simp at hp
theorem RepR.drop {z : Nat} {l : List (List PV)} {b o : Nat} (h : RepR β n F w z l b o) (f : Nat) : RepR β n F w z (l.drop f) b (o + f * z) := by
  rw [RepR_iff] at h ⊢
  intro j p hp
  rw [List.getElem?_drop] at hp
  have := h (f + j) p hp
  rwa [show o + (f + j) * z = o + f * z + j * z by rw [Nat.add_mul]; omega] at this
theorem RepR.take {z : Nat} {l : List (List PV)} {b o : Nat} (h : RepR β n F w z l b o) (f : Nat) : RepR β n F w z (l.take f) b o := by
  rw [RepR_iff] at h ⊢
  intro j p hp
  rw [List.getElem?_take] at hp
  split at hp
  · exact h j p hp
  · simp at hp
/-- the values in a row of cells -/
theorem RepS.vals {l : List PV} {b o : Nat} (h : RepS β n F w l b o) : ∃ xs : List Value, xs.length = l.length ∧ RepL β n F w l xs ∧ (∀ v ∈ xs, v.oneCell' = true) ∧ ∀ j v, xs[j]? = some v → w.cell? ⟨b, o + j, none⟩ = some v := by
  induction l generalizing o with
  | nil => exact ⟨[], rfl, by simp [RepL], by simp, by simp⟩
  | cons p ps ih =>
    simp only [RepS] at h
    obtain ⟨⟨v, h1, h2, h3⟩, h4⟩ := h
    obtain ⟨xs, e1, e2, e3, e4⟩ := ih h4
    refine ⟨v :: xs, by simp [e1], by simp only [RepL]; exact ⟨h3, e2⟩, by simpa using ⟨h2, e3⟩, fun j u hu => ?_⟩
    cases j with
    | zero => simp at hu; subst hu; simpa using h1
    | succ j => have := e4 j u (by simpa using hu); rwa [show o + 1 + j = o + (j + 1) by omega] at this
/-- the values in a row of elements -/
theorem RepR.vals {z : Nat} {l : List (List PV)} {b o : Nat} (h : RepR β n F w z l b o) : ∃ xs : List Value, xs.length = l.length * z ∧ RepL β n F w l.flatten xs ∧ (∀ v ∈ xs, v.oneCell' = true) ∧ ∀ j v, xs[j]? = some v → w.cell? ⟨b, o + j, none⟩ = some v := by
  induction l generalizing o with
  | nil => exact ⟨[], by simp, by simp [RepL], by simp, by simp⟩
  | cons r rs ih =>
    simp only [RepR] at h
    obtain ⟨⟨hl, h1⟩, h2⟩ := h
    obtain ⟨ys, a1, a2, a3, a4⟩ := h1.vals
    obtain ⟨xs, e1, e2, e3, e4⟩ := ih h2
    refine ⟨ys ++ xs, by simp [e1, a1, hl, Nat.succ_mul]; omega, ?_, fun v hv => (List.mem_append.1 hv).elim (a3 v) (e3 v), fun j u hu => ?_⟩
    · rw [RepL_iff] at a2 e2 ⊢
      simp only [List.flatten_cons]
      refine ⟨by simp only [List.length_append]; omega, fun j p v hp hv => ?_⟩
      rw [List.getElem?_append] at hp hv
      rw [a2.1] at hp
      split at hp
      · rename_i hj; rw [if_pos hj] at hv; exact a2.2 j p v hp hv
      · rename_i hj; rw [if_neg hj] at hv; exact e2.2 _ p v hp hv
    · rw [List.getElem?_append] at hu
      split at hu
      · exact a4 j u hu
      · rename_i hj
        have := e4 _ u hu
        rwa [show o + z + (j - ys.length) = o + j by omega] at this
/-- elements out of the values of their cells -/
theorem RepR.of_vals {z : Nat} {b : Nat} : {l : List (List PV)} → {o : Nat} → {xs : List Value} → (∀ r ∈ l, r.length = z) → RepL β n F w l.flatten xs → (∀ v ∈ xs, v.oneCell' = true) → (∀ j v, xs[j]? = some v → w.cell? ⟨b, o + j, none⟩ = some v) → RepR β n F w z l b o
  | [], _, _, _, _, _, _ => by simp [RepR]
  | r :: rs, o, xs, hz, h, h1, hc => by
    have hr := hz r (by simp)
    simp only [List.flatten_cons] at h
    rw [RepL_iff] at h
    simp only [List.length_append] at h
    simp only [RepR]
    refine ⟨⟨hr, ?_⟩, RepR.of_vals (xs := xs.drop z) (fun q hq => hz q (by simp [hq])) ?_ (fun v hv => h1 v (List.mem_of_mem_drop hv)) ?_⟩
    · rw [RepS_iff]
      intro j p hp
      have hj : j < r.length := (List.getElem?_eq_some_iff.1 hp).1
      have hx : xs[j]? = some xs[j] := List.getElem?_eq_getElem (by omega)
      exact ⟨xs[j], hc j _ hx, h1 _ (List.getElem_mem _), h.2 j p _ (by rw [List.getElem?_append_left hj]; exact hp) hx⟩
    · rw [RepL_iff]
      refine ⟨by simp only [List.length_drop]; omega, fun j p v hp hv => ?_⟩
      rw [List.getElem?_drop] at hv
      exact h.2 (z + j) p v (by rw [List.getElem?_append_right (by omega)]; rw [show z + j - r.length = j by omega]; exact hp) hv
    · intro j v hv
      rw [List.getElem?_drop] at hv
      have := hc (z + j) v hv
      rwa [show o + (z + j) = o + z + j by omega] at this

/-- an abstract value of one cell stands for a real one of one cell -/
theorem Rep.one {p : PV} {x : Value} (hp : oneC p = true) (h : Rep β n F w p x) : x.oneCell' = true := by
  cases p <;> simp only [Rep] at h <;> simp [oneC] at hp
  · subst h; exact hp
  · obtain ⟨_, b, _, rfl⟩ := h; rfl
  · obtain ⟨b, o, _, rfl, _⟩ := h; rfl
  · obtain ⟨_, a, cap, rfl, _⟩ := h; rfl
  · obtain ⟨a, cap, rfl, _⟩ := h; rfl
  · obtain ⟨a, rfl⟩ := h; rfl
  · obtain ⟨_, b, _, rfl⟩ := h; rfl
  · obtain ⟨_, _, rfl, _⟩ := h; rfl
  · obtain ⟨_, _, _, _, rfl⟩ := h; rfl
/-- the cells of a value -/
theorem Rep.cells {p : PV} {x : Value} (hp : p.cells.all oneC = true) (h : Rep β n F w p x) : RepL β n F w p.cells x.cells.toList ∧ ∀ v ∈ x.cells.toList, v.oneCell' = true := by
  by_cases ha : ∃ cs, p = .agg cs
  · obtain ⟨cs, rfl⟩ := ha
    simp only [Rep] at h
    obtain ⟨xs, rfl, h1, h2⟩ := h
    exact ⟨h2, h1⟩
  · have hc : p.cells = [p] := by cases p <;> first | rfl | exact absurd ⟨_, rfl⟩ ha
    rw [hc] at hp ⊢
    simp at hp
    have h1 := Rep.one hp h
    have hx : x.cells = #[x] := by cases x <;> first | rfl | simp [Value.oneCell'] at h1
    rw [hx]
    exact ⟨by simp only [RepL]; exact ⟨h, trivial⟩, by simpa using h1⟩
theorem RepL.sc : (l : List Value) → RepL β n F w (l.map .sc) l
  | [] => by simp [RepL]
  | v :: vs => by simp only [List.map_cons, RepL, Rep]; exact ⟨trivial, RepL.sc vs⟩
theorem RepL.append {l m : List PV} {xs ys : List Value} (h : RepL β n F w l xs) (k : RepL β n F w m ys) : RepL β n F w (l ++ m) (xs ++ ys) := by
  rw [RepL_iff] at h k ⊢
  refine ⟨by simp [h.1, k.1], fun j p v hp hv => ?_⟩
  rw [List.getElem?_append] at hp hv
  rw [h.1] at hp
  split at hp
  · rename_i hj; rw [if_pos hj] at hv; exact h.2 j p v hp hv
  · rename_i hj; rw [if_neg hj] at hv; exact k.2 _ p v hp hv
theorem RepL.take {l : List PV} {xs : List Value} (h : RepL β n F w l xs) (f : Nat) : RepL β n F w (l.take f) (xs.take f) := by
  rw [RepL_iff] at h ⊢
  refine ⟨by simp [h.1], fun j p v hp hv => ?_⟩
  rw [List.getElem?_take] at hp hv
  split at hp
  · rename_i hj; rw [if_pos hj] at hv; exact h.2 j p v hp hv
  · simp at hp
theorem RepL.drop {l : List PV} {xs : List Value} (h : RepL β n F w l xs) (f : Nat) : RepL β n F w (l.drop f) (xs.drop f) := by
  rw [RepL_iff] at h ⊢
  refine ⟨by simp [h.1], fun j p v hp hv => ?_⟩
  rw [List.getElem?_drop] at hp hv
  exact h.2 _ p v hp hv
theorem RepL.len {l : List PV} {xs : List Value} (h : RepL β n F w l xs) : l.length = xs.length := (RepL_iff.1 h).1
theorem RepL.get {l : List PV} {xs : List Value} (h : RepL β n F w l xs) {j : Nat} {p : PV} (hp : l[j]? = some p) : ∃ v, xs[j]? = some v ∧ Rep β n F w p v := by
  have hj : j < l.length := (List.getElem?_eq_some_iff.1 hp).1
  have hx : xs[j]? = some (xs[j]'(by rw [← h.len]; exact hj)) := List.getElem?_eq_getElem _
  exact ⟨_, hx, (RepL_iff.1 h).2 j p _ hp hx⟩
end

section
variable {β β' : Env} {h h' : Heap} {w w' : World}
/-- A STEP THAT MAKES OR CHANGES ONE OBJECT (id0), and may forget others. -/
theorem Sim.step (s : Sim β h w) (id0 : Nat) (o0 : AObj)
    (hos : w'.os = w.os) (htape : w'.tape = w.tape) (hout : w'.output = w.output) (hsize : w.heap.size ≤ w'.heap.size)
    (hnext : h.next ≤ h'.next) (hbeta : ∀ id, id < h.next → β' id = β id)
    (h0 : h'.obj id0 = some o0) (hlt0 : id0 < h'.next)
    (hold : ∀ id, id ≠ id0 → h'.obj id = none ∨ h'.obj id = h.obj id)
    (hblk : ∀ b, (β' id0).b = some b → w.heap.size ≤ b ∨ ∃ j, (h.obj j).isSome = true ∧ (β j).b = some b ∧ (j = id0 ∨ h'.obj j = none))
    (hmem : ∀ b, b < w.heap.size → (β' id0).b ≠ some b → w'.heap[b]? = w.heap[b]?)
    (hok : Mv β h.next (Fz β h w) w β' h'.next (Fz β' h' w') w' → ObjOk β' h'.next (Fz β' h' w') w' (β' id0) o0) (hX : β'.X = β.X := by rfl) :
    Sim β' h' w' ∧ Ext β h w β' h' w' := by
  have hlive : ∀ id, id ≠ id0 → (h'.obj id).isSome = true → h'.obj id = h.obj id ∧ (h.obj id).isSome = true ∧ id < h.next ∧ β' id = β id := by
    intro id hne hs
    rcases hold id hne with h1 | h1
    · rw [h1] at hs; simp at hs
    · rw [h1] at hs
      have := s.lt id hs
      exact ⟨h1, hs, this, hbeta id this⟩
  have hxb : ∀ b, (β' id0).b = some b → ¬ β.X b := by
    intro b e hx
    rcases hblk b e with h1 | ⟨j, hj, hjb, _⟩
    · have := s.xs b hx; omega
    · exact s.nx j hj b hjb hx
  have hfz : ∀ b, Fz β h w b → Fz β' h' w' b ∧ w'.heap[b]? = w.heap[b]? := by
    intro b hb
    have hb0 : (β' id0).b ≠ some b := by
      intro e
      rcases hblk b e with h1 | ⟨j, hj, hjb, _⟩
      · exact absurd hb.1 (by omega)
      · exact hb.2.1 j hj hjb
    refine ⟨⟨Nat.lt_of_lt_of_le hb.1 hsize, fun id hs => ?_, by rw [hX]; exact hb.2.2⟩, hmem b hb.1 hb0⟩
    by_cases e : id = id0
    · subst e; exact hb0
    · obtain ⟨_, h2, _, h4⟩ := hlive id e hs
      rw [h4]; exact hb.2.1 id h2
  have m : Mv β h.next (Fz β h w) w β' h'.next (Fz β' h' w') w' := ⟨hnext, fun id hid _ => hbeta id hid, hfz⟩
  have hblkne : ∀ id, id ≠ id0 → (h'.obj id).isSome = true → ∀ b, (β id).b = some b → (β' id0).b ≠ some b := by
    intro id hne hs b hb e
    obtain ⟨h1, h2, h3, h4⟩ := hlive id hne hs
    have hin := s.ok id _ (Option.eq_some_of_isSome h2)
    have hlt : b < w.heap.size := by
      cases hob : (h.obj id).get h2 with
      | arr z rows =>
        rw [hob] at hin
        simp only [ObjOk] at hin
        rcases hin.2 with ⟨h5, _⟩ | ⟨b', c, t, fr, h5, h6, _⟩
        · rw [h5] at hb; simp at hb
        · rw [h5] at hb; simp at hb; subst hb; exact (Array.getElem?_eq_some_iff.1 h6).1
      | map es =>
        rw [hob] at hin
        simp only [ObjOk] at hin
        obtain ⟨b', fs, cl, h5, h6, _⟩ := hin
        rw [h5] at hb; simp at hb; subst hb; exact (Array.getElem?_eq_some_iff.1 h6).1
      | glb g lo hi =>
        rw [hob] at hin
        simp only [ObjOk] at hin
        rw [hin.1] at hb; simp at hb
    rcases hblk b e with h5 | ⟨j, hj, hjb, h5⟩
    · omega
    · have := s.inj j id hj h2 b hjb hb
      subst this
      rcases h5 with h5 | h5
      · exact hne h5
      · rw [h5] at hs; simp at hs
  refine ⟨⟨fun id hs => ?_, fun id o ho => ?_, fun i j hi hj b hbi hbj => ?_, fun b hb => ?_, fun id hs b hb => ?_⟩, ⟨hos, htape, hout, hsize, hnext, hbeta, hX, fun b hb hl => hmem b hl (fun e => hxb b e hb), hfz⟩⟩
  · by_cases e : id = id0
    · subst e; exact hlt0
    · exact Nat.lt_of_lt_of_le (hlive id e hs).2.2.1 hnext
  · by_cases e : id = id0
    · subst e
      rw [h0] at ho; simp at ho; subst ho
      exact hok m
    · have hs : (h'.obj id).isSome = true := by rw [ho]; rfl
      obtain ⟨h1, h2, h3, h4⟩ := hlive id e hs
      rw [h4]
      refine ObjOk.mv m (fun b hb => ?_) (s.ok id o (by rw [← h1]; exact ho))
      have hne := hblkne id e hs b hb
      have hin := s.ok id o (by rw [← h1]; exact ho)
      have hlt : b < w.heap.size := by
        cases o with
        | arr z rows =>
          simp only [ObjOk] at hin
          rcases hin.2 with ⟨h5, _⟩ | ⟨b', c, t, fr, h5, h6, _⟩
          · rw [h5] at hb; simp at hb
          · rw [h5] at hb; simp at hb; subst hb; exact (Array.getElem?_eq_some_iff.1 h6).1
        | map es =>
          simp only [ObjOk] at hin
          obtain ⟨b', fs, cl, h5, h6, _⟩ := hin
          rw [h5] at hb; simp at hb; subst hb; exact (Array.getElem?_eq_some_iff.1 h6).1
        | glb g lo hi =>
          simp only [ObjOk] at hin
          rw [hin.1] at hb; simp at hb
      exact hmem b hlt hne
  · by_cases ei : i = id0
    · by_cases ej : j = id0
      · rw [ei, ej]
      · subst ei
        have := (hlive j ej hj).2.2.2
        rw [this] at hbj
        exact absurd hbi (hblkne j ej hj b hbj)
    · have h4 := (hlive i ei hi).2.2.2
      rw [h4] at hbi
      by_cases ej : j = id0
      · subst ej
        exact absurd hbj (hblkne i ei hi b hbi)
      · have h5 := (hlive j ej hj).2.2.2
        rw [h5] at hbj
        exact s.inj i j (hlive i ei hi).2.1 (hlive j ej hj).2.1 b hbi hbj
  · rw [hX] at hb
    exact Nat.lt_of_lt_of_le (s.xs b hb) hsize
  · rw [hX]
    by_cases e : id = id0
    · subst e; exact hxb b hb
    · obtain ⟨_, h2, _, h4⟩ := hlive id e hs
      rw [h4] at hb
      exact s.nx id h2 b hb

/-- forgetting an object: its memory is never written again -/
theorem Sim.kill (s : Sim β h w) (id0 : Nat) : Sim β (h.kill id0) w ∧ Ext β h w β (h.kill id0) w := by
  have hl : ∀ id, ((h.kill id0).obj id).isSome = true → (h.obj id).isSome = true ∧ (h.kill id0).obj id = h.obj id := by
    intro id hs
    simp only [Heap.kill] at hs ⊢
    split at hs
    · simp at hs
    · rename_i hne; exact ⟨hs, by simp [hne]⟩
  have e : Ext β h w β (h.kill id0) w := ⟨rfl, rfl, rfl, Nat.le_refl _, Nat.le_refl _, fun _ _ => rfl, rfl, fun _ _ _ => rfl, fun b hb => ⟨⟨hb.1, fun id hs => hb.2.1 id (hl id hs).1, hb.2.2⟩, rfl⟩⟩
  refine ⟨⟨fun id hs => s.lt id (hl id hs).1, fun id o ho => ?_, fun i j hi hj => s.inj i j (hl i hi).1 (hl j hj).1, s.xs, fun id hs => s.nx id (hl id hs).1⟩, e⟩
  have := hl id (by rw [ho]; rfl)
  exact ObjOk.mv e.mv (fun _ _ => rfl) (s.ok id o (by rw [← this.2]; exact ho))
end
end Go.AM
