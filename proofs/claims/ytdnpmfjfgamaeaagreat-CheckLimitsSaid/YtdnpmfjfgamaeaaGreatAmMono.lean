/- The relation between abstract and real values is kept by every step. -/
import Derived.Test.YtdnpmfjfgamaeaaGreatAmSim
set_option linter.unusedVariables false
set_option linter.unusedSimpArgs false
set_option linter.unusedSectionVars false
namespace Go.AM
section
variable {β β' : Env} {n n' : Nat} {F F' : Nat → Prop} {w w' : World}

theorem cell?_of_heap {w w' : World} {b : Nat} (h : w'.heap[b]? = w.heap[b]?) (o : Nat) : w'.cell? ⟨b, o, none⟩ = w.cell? ⟨b, o, none⟩ := by
  simp only [World.cell?, h]

/-- what carries the relation over -/
structure Mv (β : Env) (n : Nat) (F : Nat → Prop) (w : World) (β' : Env) (n' : Nat) (F' : Nat → Prop) (w' : World) : Prop where
  le : n ≤ n'
  beta : ∀ id, id < n → (β id).b ≠ none → β' id = β id
  fz : ∀ b, F b → F' b ∧ w'.heap[b]? = w.heap[b]?

mutual
theorem Rep.mv (m : Mv β n F w β' n' F' w') : (p : PV) → (x : Value) → Rep β n F w p x → Rep β' n' F' w' p x
  | .sc v, x, h => by simpa only [Rep] using h
  | .ptr id i f, x, h => by
    simp only [Rep] at h ⊢
    obtain ⟨h1, b, h2, h3⟩ := h
    rw [m.beta id h1 (by rw [h2]; simp)]
    exact ⟨Nat.lt_of_lt_of_le h1 m.le, b, h2, h3⟩
  | .cptr cs, x, h => by
    simp only [Rep] at h ⊢
    obtain ⟨b, o, h1, h2, h3⟩ := h
    exact ⟨b, o, (m.fz b h1).1, h2, RepS.mv m cs b o h1 h3⟩
  | .own id off len, x, h => by
    simp only [Rep] at h ⊢
    obtain ⟨h1, a, cap, h2, h3, h3', h4⟩ := h
    refine ⟨Nat.lt_of_lt_of_le h1 m.le, a, cap, h2, h3, h3', h4.imp (fun x => x) ?_⟩
    rintro ⟨b, h5, h6⟩
    rw [m.beta id h1 (by rw [h5]; simp)]
    exact ⟨b, h5, h6⟩
  | .imm z rows, x, h => by
    simp only [Rep] at h ⊢
    obtain ⟨a, cap, h1, h2, h2', h3⟩ := h
    refine ⟨a, cap, h1, h2, h2', h3.imp id ?_⟩
    rintro ⟨b, o, h4, h5, h6⟩
    exact ⟨b, o, (m.fz b h4).1, h5, RepR.mv m z rows b o h4 h6⟩
  | .emp, x, h => by simpa only [Rep] using h
  | .mp id, x, h => by
    simp only [Rep] at h ⊢
    obtain ⟨h1, b, h2, h3⟩ := h
    rw [m.beta id h1 (by rw [h2]; simp)]
    exact ⟨Nat.lt_of_lt_of_le h1 m.le, b, h2, h3⟩
  | .agg cs, x, h => by
    simp only [Rep] at h ⊢
    obtain ⟨xs, h1, h1', h2⟩ := h
    exact ⟨xs, h1, h1', RepL.mv m cs xs h2⟩
  | .tup cs, x, h => by
    simp only [Rep] at h ⊢
    obtain ⟨xs, h1, h2⟩ := h
    exact ⟨xs, h1, RepL.mv m cs xs h2⟩
  | .fn f first caps, x, h => by
    simp only [Rep] at h ⊢
    obtain ⟨xs, ys, h1, h2, h3⟩ := h
    exact ⟨xs, ys, h1, RepL.mv m first xs h2, RepL.mv m caps ys h3⟩
  | .ab k lo hi mm r, x, h => by simpa only [Rep] using h
theorem RepS.mv (m : Mv β n F w β' n' F' w') : (l : List PV) → (b o : Nat) → F b → RepS β n F w l b o → RepS β' n' F' w' l b o
  | [], _, _, _, _ => by simp only [RepS]
  | p :: ps, b, o, hF, h => by
    simp only [RepS] at h ⊢
    obtain ⟨⟨v, h1, h1', h2⟩, h3⟩ := h
    refine ⟨⟨v, ?_, h1', Rep.mv m p v h2⟩, RepS.mv m ps b (o + 1) hF h3⟩
    rw [cell?_of_heap (m.fz b hF).2]; exact h1
theorem RepR.mv (m : Mv β n F w β' n' F' w') (z : Nat) : (l : List (List PV)) → (b o : Nat) → F b → RepR β n F w z l b o → RepR β' n' F' w' z l b o
  | [], _, _, _, _ => by simp only [RepR]
  | r :: rs, b, o, hF, h => by
    simp only [RepR] at h ⊢
    obtain ⟨⟨h1, h2⟩, h3⟩ := h
    exact ⟨⟨h1, RepS.mv m r b o hF h2⟩, RepR.mv m z rs b (o + z) hF h3⟩
theorem RepL.mv (m : Mv β n F w β' n' F' w') : (l : List PV) → (xs : List Value) → RepL β n F w l xs → RepL β' n' F' w' l xs
  | [], [], _ => by simp only [RepL]
  | [], _ :: _, h => by simp only [RepL] at h
  | _ :: _, [], h => by simp only [RepL] at h
  | p :: ps, v :: vs, h => by
    simp only [RepL] at h ⊢
    exact ⟨Rep.mv m p v h.1, RepL.mv m ps vs h.2⟩
end

/-- the cells of one block may be read from another memory in which that block is the same -/
theorem RepS.mvb {b : Nat} (m : Mv β n F w β' n' F' w') (hb : w'.heap[b]? = w.heap[b]?) : (l : List PV) → (o : Nat) → RepS β n F w l b o → RepS β' n' F' w' l b o
  | [], _, _ => by simp only [RepS]
  | p :: ps, o, h => by
    simp only [RepS] at h ⊢
    obtain ⟨⟨v, h1, h1', h2⟩, h3⟩ := h
    refine ⟨⟨v, ?_, h1', Rep.mv m p v h2⟩, RepS.mvb m hb ps (o + 1) h3⟩
    rw [cell?_of_heap hb]; exact h1
theorem RepR.mvb {b : Nat} (m : Mv β n F w β' n' F' w') (hb : w'.heap[b]? = w.heap[b]?) (z : Nat) : (l : List (List PV)) → (o : Nat) → RepR β n F w z l b o → RepR β' n' F' w' z l b o
  | [], _, _ => by simp only [RepR]
  | r :: rs, o, h => by
    simp only [RepR] at h ⊢
    obtain ⟨⟨h1, h2⟩, h3⟩ := h
    exact ⟨⟨h1, RepS.mvb m hb r o h2⟩, RepR.mvb m hb z rs (o + z) h3⟩
theorem RepM.mv (m : Mv β n F w β' n' F' w') : (l : List (Value × PV)) → (xs : List MapEntry) → RepM β n F w l xs → RepM β' n' F' w' l xs
  | [], [], _ => by simp only [RepM]
  | [], _ :: _, h => by simp only [RepM] at h
  | _ :: _, [], h => by simp only [RepM] at h
  | (k, p) :: ps, v :: vs, h => by
    simp only [RepM] at h ⊢
    exact ⟨⟨h.1.1, Rep.mv m p _ h.1.2⟩, RepM.mv m ps vs h.2⟩
end

section
variable {β β' β'' : Env} {h h' h'' : Heap} {w w' w'' : World}
theorem Ext.refl : Ext β h w β h w := ⟨rfl, rfl, rfl, Nat.le_refl _, Nat.le_refl _, fun _ _ => rfl, rfl, fun _ _ _ => rfl, fun _ hb => ⟨hb, rfl⟩⟩
theorem Ext.trans (e : Ext β h w β' h' w') (f : Ext β' h' w' β'' h'' w'') : Ext β h w β'' h'' w'' :=
  ⟨f.os.trans e.os, f.tape.trans e.tape, f.output.trans e.output, Nat.le_trans e.size f.size, Nat.le_trans e.next f.next,
    fun id hi => (f.beta id (Nat.lt_of_lt_of_le hi e.next)).trans (e.beta id hi), f.X.trans e.X, fun b hb hl => (f.xh b (by rw [e.X]; exact hb) (Nat.lt_of_lt_of_le hl e.size)).trans (e.xh b hb hl), fun b hb => ⟨(f.fz b (e.fz b hb).1).1, (f.fz b (e.fz b hb).1).2.trans (e.fz b hb).2⟩⟩
theorem Ext.mv (e : Ext β h w β' h' w') : Mv β h.next (Fz β h w) w β' h'.next (Fz β' h' w') w' := ⟨e.next, fun id hid _ => e.beta id hid, e.fz⟩
theorem Ext.rep (e : Ext β h w β' h' w') {p : PV} {x : Value} (r : RepH β h w p x) : RepH β' h' w' p x := Rep.mv e.mv p x r
theorem Ext.repL (e : Ext β h w β' h' w') {p : List PV} {x : List Value} (r : RepL β h.next (Fz β h w) w p x) : RepL β' h'.next (Fz β' h' w') w' p x := RepL.mv e.mv p x r
/-- a step into a memory that differs in the count of draws alone -/
theorem Sim.drew (s : Sim β h w) : Sim β h w.drew ∧ Ext β h w β h w.drew := by
  have e : Ext β h w β h w.drew := ⟨rfl, rfl, rfl, Nat.le_refl _, Nat.le_refl _, fun _ _ => rfl, rfl, fun _ _ _ => rfl, fun _ hb => ⟨hb, rfl⟩⟩
  refine ⟨⟨s.lt, fun id o ho => ?_, s.inj, s.xs, s.nx⟩, e⟩
  have hk := s.ok id o ho
  cases o with
  | arr z rows =>
    simp only [ObjOk] at hk ⊢
    refine ⟨hk.1, hk.2.imp (fun x => x) ?_⟩
    rintro ⟨b, c, t, fr, h1, h2, h3, h4, h5, h6⟩
    exact ⟨b, c, t, fr, h1, h2, h3, h4, h5, RepR.mvb e.mv rfl z rows _ h6⟩
  | map es =>
    simp only [ObjOk] at hk ⊢
    obtain ⟨b, fs, cl, h1, h2, h3⟩ := hk
    exact ⟨b, fs, cl, h1, h2, RepM.mv e.mv _ _ h3⟩
  | glb g lo hi => exact hk
/-- an object of the heap after a step that leaves its block as it was -/
theorem ObjOk.mv {n n' : Nat} {F F' : Nat → Prop} (m : Mv β n F w β' n' F' w') {k : Blk} {o : AObj} (hb : ∀ b, k.b = some b → w'.heap[b]? = w.heap[b]?) (hk : ObjOk β n F w k o) : ObjOk β' n' F' w' k o := by
  cases o with
  | arr z rows =>
    simp only [ObjOk] at hk ⊢
    refine ⟨hk.1, hk.2.imp (fun x => x) ?_⟩
    rintro ⟨b, c, t, fr, h1, h2, h3, h4, h5, h6⟩
    exact ⟨b, c, t, fr, h1, by rw [hb b h1]; exact h2, h3, h4, h5, RepR.mvb m (hb b h1) z rows _ h6⟩
  | map es =>
    simp only [ObjOk] at hk ⊢
    obtain ⟨b, fs, cl, h1, h2, h3⟩ := hk
    exact ⟨b, fs, cl, h1, by rw [hb b h1]; exact h2, RepM.mv m _ _ h3⟩
  | glb g lo hi =>
    simp only [ObjOk] at hk ⊢
    obtain ⟨h1, h2, h3⟩ := hk
    exact ⟨h1, (m.fz g h2).1, by rw [cell?_of_heap (m.fz g h2).2]; exact h3⟩
end
end Go.AM
