/- A call in a part of the heap: what it gives there it gives in the whole heap, too. -/
import Derived.Test.YtdnpmfjfgamaeaaGreatAmTac
set_option linter.unusedVariables false
set_option linter.unusedSimpArgs false
set_option linter.unusedSectionVars false
namespace Go.AM
section
variable {P : Program}
theorem ObjOk.blk_lt {β : Env} {n : Nat} {F : Nat → Prop} {w : World} {k : Blk} {o : AObj} (ho : ObjOk β n F w k o) {b : Nat} (hb : k.b = some b) : b < w.heap.size := by
  cases o with
  | arr z rows =>
    simp only [ObjOk] at ho
    rcases ho.2 with h1 | ⟨b', c, e, fr, h1, h2, _⟩
    · rw [h1.1] at hb; simp at hb
    · rw [h1] at hb; simp at hb; subst hb
      exact (Array.getElem?_eq_some_iff.1 h2).1
  | map es =>
    simp only [ObjOk] at ho
    obtain ⟨b', fs, clock, h1, h2, _⟩ := ho
    rw [h1] at hb; simp at hb; subst hb
    exact (Array.getElem?_eq_some_iff.1 h2).1
  | glb g lo hi =>
    simp only [ObjOk] at ho
    rw [ho.1] at hb; simp at hb
theorem ObjOk.blk_same {β β' : Env} {n n' : Nat} {F F' : Nat → Prop} {w w' : World} (m : Mv β n F w β' n' F' w') {k : Blk} {o : AObj} (hk : ObjOk β n F w k o) (hb : ∀ b, k.b = some b → w'.heap[b]? = w.heap[b]?) : ObjOk β' n' F' w' k o := ObjOk.mv m hb hk
theorem PCall.part {f : FuncId} {args : List PV} {hS h : Heap} {v : PV} (hc : PCall P f args hS fun r h' => r = v ∧ h' = hS) (hle : hS.next ≤ h.next) (hsub : ∀ id o, hS.obj id = some o → h.obj id = some o ∧ id < hS.next ∧ inNO hS.next o) (hargs : inNL hS.next args) :
    PCall P f args h fun r h' => r = v ∧ h' = h := by
  intro β w vals sm hr
  have live : ∀ id, (hS.obj id).isSome = true → (h.obj id).isSome = true ∧ id < hS.next := fun id hs => by
    obtain ⟨o, ho⟩ := Option.isSome_iff_exists.1 hs
    obtain ⟨g1, g2, _⟩ := hsub id o ho
    exact ⟨by rw [g1]; rfl, g2⟩
  let X' : Nat → Prop := fun b => β.X b ∨ ∃ id, (h.obj id).isSome = true ∧ hS.obj id = none ∧ (β id).b = some b
  have fzS : ∀ b, Fz β h w b → Fz ⟨β.bl, X'⟩ hS w b := fun b hb => ⟨hb.1, fun id hs => hb.2.1 id (live id hs).1, fun hx => by
    rcases hx with hx | ⟨id, h1, _, h3⟩
    · exact hb.2.2 hx
    · exact hb.2.1 id h1 h3⟩
  have mvS : Mv β h.next (Fz β h w) w ⟨β.bl, X'⟩ h.next (Fz ⟨β.bl, X'⟩ hS w) w := ⟨Nat.le_refl _, fun _ _ _ => rfl, fun b hb => ⟨fzS b hb, rfl⟩⟩
  have smS : Sim ⟨β.bl, X'⟩ hS w := by
    refine ⟨fun id hs => (live id hs).2, fun id o ho => ?_, fun i j h1 h2 b g1 g2 => sm.inj i j (live i h1).1 (live j h2).1 b g1 g2, fun b hx => ?_, fun id hs b hb hx => ?_⟩
    · obtain ⟨g1, g2, g3⟩ := hsub id o ho
      exact ObjOk.low (F := Fz ⟨β.bl, X'⟩ hS w) (fun b hb => hb) g3 (ObjOk.mv mvS (fun _ _ => rfl) (sm.ok id o g1))
    · rcases hx with hx | ⟨id, h1, _, h3⟩
      · exact sm.xs b hx
      · obtain ⟨o, ho⟩ := Option.isSome_iff_exists.1 h1
        exact (sm.ok id o ho).blk_lt h3
    · rcases hx with hx | ⟨id', h1, h2, h3⟩
      · exact sm.nx id (live id hs).1 b hb hx
      · have := sm.inj id id' (live id hs).1 h1 b hb h3
        subst this
        rw [h2] at hs; simp at hs
  have hrS : RepL ⟨β.bl, X'⟩ hS.next (Fz ⟨β.bl, X'⟩ hS w) w args vals := RepL.low (F := Fz ⟨β.bl, X'⟩ hS w) (fun b hb => hb) _ _ hargs (RepL.mv mvS _ _ hr)
  refine (hc ⟨β.bl, X'⟩ w vals smS hrS).mono ?_
  rintro e w' ⟨r, h', β', u, rfl, ⟨rfl, rfl⟩, sm', hrep, ex⟩
  have bE : ∀ id, id < h'.next → β' id = β id := fun id hid => ex.beta id hid
  -- what nobody writes again, of the whole heap
  have fzB : ∀ b, Fz β' h' w' b → Fz β h w' b := fun b hb => ⟨hb.1, fun id hs hbb => by
    cases ho : h'.obj id with
    | none =>
      refine hb.2.2 ?_
      rw [ex.X]
      exact .inr ⟨id, hs, ho, hbb⟩
    | some o =>
      have hid := (live id (by rw [ho]; rfl)).2
      exact hb.2.1 id (by rw [ho]; rfl) (by rw [bE id hid]; exact hbb), fun hx => hb.2.2 (by rw [ex.X]; exact .inl hx)⟩
  have mB : Mv β' h'.next (Fz β' h' w') w' β h.next (Fz β h w') w' := ⟨hle, fun id hid _ => (bE id hid).symm, fun b hb => ⟨fzB b hb, rfl⟩⟩
  have mF : Mv β h.next (Fz β h w) w β h.next (Fz β h w') w' := ⟨Nat.le_refl _, fun _ _ _ => rfl, fun b hb => by
    obtain ⟨g1, g2⟩ := ex.fz b (fzS b hb)
    exact ⟨fzB b g1, g2⟩⟩
  refine ⟨r, h, β, u, rfl, ⟨rfl, rfl⟩, ?_, Rep.mv mB _ _ hrep, ?_⟩
  · refine ⟨sm.lt, fun id o ho => ?_, sm.inj, fun b hx => Nat.lt_of_lt_of_le (sm.xs b hx) ex.size, sm.nx⟩
    cases hos : h'.obj id with
    | some o' =>
      obtain ⟨g1, g2, _⟩ := hsub id o' hos
      rw [ho] at g1
      simp at g1
      subst g1
      have := ObjOk.mv mB (fun _ _ => rfl) (sm'.ok id o hos)
      rw [bE id g2] at this
      exact this
    | none =>
      refine ObjOk.mv mF (fun b hb => ?_) (sm.ok id o ho)
      refine ex.xh b (.inr ⟨id, by rw [ho]; rfl, hos, hb⟩) ((sm.ok id o ho).blk_lt hb)
  · exact ⟨ex.os, ex.tape, ex.output, ex.size, Nat.le_refl _, fun _ _ => rfl, rfl, fun b hb hl => ex.xh b (.inl hb) hl, fun b hb => mF.fz b hb⟩
/-- the heap without its rows: for the time of a call nobody writes them -/
def arrless (h : Heap) : Heap := ⟨h.next, fun id => match h.obj id with
  | some (.glb g lo hi) => some (.glb g lo hi)
  | _ => none⟩
theorem arrless_some {h : Heap} {id : Nat} {o : AObj} (ho : (arrless h).obj id = some o) : h.obj id = some o := by
  simp only [arrless] at ho
  split at ho
  · rename_i hg; rw [hg]; exact ho
  · simp at ho
theorem arrless_blk {β : Env} {n : Nat} {F : Nat → Prop} {w : World} {h : Heap} {id : Nat} {o : AObj} {b : Nat} (ho : h.obj id = some o) (hk : ObjOk β n F w (β id) o) (hb : (β id).b = some b) : (arrless h).obj id = none := by
  simp only [arrless]
  split
  · rename_i g lo hi hg
    rw [ho] at hg; simp at hg; subst hg
    simp only [ObjOk] at hk
    rw [hk.1] at hb; simp at hb
  · rfl
/-- what a call gives for rows that nobody writes again it gives for rows of the heap, too -/
theorem PCall.lend {f : FuncId} {args args' : List PV} {h : Heap} {u : Value} (hc : PCall P f args' (arrless h) fun r h' => r = .sc u ∧ h' = arrless h)
    (hrep : ∀ (β : Env) (w : World) (vals : List Value), Sim β h w → RepL β h.next (Fz β h w) w args vals → RepL β h.next (Fz β (arrless h) w) w args' vals) :
    PCall P f args h fun r h' => r = .sc u ∧ h' = h := by
  intro β w vals sm hr
  have live : ∀ id, ((arrless h).obj id).isSome = true → (h.obj id).isSome = true := fun id hs => by
    obtain ⟨o, ho⟩ := Option.isSome_iff_exists.1 hs
    rw [arrless_some ho]; rfl
  have fzS : ∀ b, Fz β h w b → Fz β (arrless h) w b := fun b hb => ⟨hb.1, fun id hs => hb.2.1 id (live id hs), hb.2.2⟩
  have mvS : Mv β h.next (Fz β h w) w β h.next (Fz β (arrless h) w) w := ⟨Nat.le_refl _, fun _ _ _ => rfl, fun b hb => ⟨fzS b hb, rfl⟩⟩
  have smS : Sim β (arrless h) w :=
    ⟨fun id hs => sm.lt id (live id hs), fun id o ho => ObjOk.mv mvS (fun _ _ => rfl) (sm.ok id o (arrless_some ho)), fun i j h1 h2 b g1 g2 => sm.inj i j (live i h1) (live j h2) b g1 g2, sm.xs, fun id hs b hb => sm.nx id (live id hs) b hb⟩
  refine (hc β w vals smS (hrep β w vals sm hr)).mono ?_
  rintro e w' ⟨r, h', β', x, rfl, ⟨rfl, rfl⟩, sm', hx, ex⟩
  have same : ∀ b, Fz β (arrless h) w b → w'.heap[b]? = w.heap[b]? := fun b hb => (ex.fz b hb).2
  have fzK : ∀ b, Fz β h w b → Fz β h w' b := fun b hb => ⟨Nat.lt_of_lt_of_le hb.1 ex.size, hb.2.1, hb.2.2⟩
  have mF : Mv β h.next (Fz β h w) w β h.next (Fz β h w') w' := ⟨Nat.le_refl _, fun _ _ _ => rfl, fun b hb => ⟨fzK b hb, same b (fzS b hb)⟩⟩
  have bE : ∀ id, id < h.next → β' id = β id := fun id hid => ex.beta id hid
  have fzB : ∀ b, Fz β' (arrless h) w' b → b < w'.heap.size ∧ ¬ β.X b := fun b hb => ⟨hb.1, fun hx => hb.2.2 (by rw [ex.X]; exact hx)⟩
  -- the block of rows is written by nobody during the call
  have arrB : ∀ id o b, h.obj id = some o → (β id).b = some b → Fz β (arrless h) w b := by
    intro id o b ho hb
    have hs : (h.obj id).isSome = true := by rw [ho]; rfl
    refine ⟨(sm.ok id _ ho).blk_lt hb, fun j hj hbb => ?_, sm.nx id hs b hb⟩
    have := sm.inj id j hs (live j hj) b hb hbb
    subst this
    rw [arrless_blk ho (sm.ok id _ ho) hb] at hj; simp at hj
  refine ⟨.sc u, h, β, x, rfl, ⟨rfl, rfl⟩, ?_, ?_, ?_⟩
  · refine ⟨sm.lt, fun id o ho => ?_, sm.inj, fun b hb => Nat.lt_of_lt_of_le (sm.xs b hb) ex.size, sm.nx⟩
    exact ObjOk.mv mF (fun b hb => same b (arrB id o b ho hb)) (sm.ok id _ ho)
  · simp only [RepH, Rep] at hx ⊢; exact hx
  · exact ⟨ex.os, ex.tape, ex.output, ex.size, Nat.le_refl _, fun _ _ => rfl, rfl, fun b hb hl => ex.xh b hb hl, fun b hb => mF.fz b hb⟩
/-- other bounds of a package variable -/
theorem fz_set {β : Env} {h : Heap} {w : World} {id : Nat} {o : AObj} (hs : (h.obj id).isSome = true) {b : Nat} : Fz β h w b ↔ Fz β (h.set id o) w b := by
  have e : ∀ j, ((h.set id o).obj j).isSome = (h.obj j).isSome := fun j => by
    simp only [Heap.set]
    by_cases hj : j = id
    · subst hj; simp [hs]
    · simp [hj]
  unfold Fz
  simp only [e]
theorem mv_set {β : Env} {h : Heap} {w : World} {id : Nat} {o : AObj} (hs : (h.obj id).isSome = true) : Mv β h.next (Fz β h w) w β (h.set id o).next (Fz β (h.set id o) w) w := ⟨Nat.le_refl _, fun _ _ _ => rfl, fun b hb => ⟨(fz_set hs).1 hb, rfl⟩⟩
theorem mv_unset {β : Env} {h : Heap} {w : World} {id : Nat} {o : AObj} (hs : (h.obj id).isSome = true) : Mv β (h.set id o).next (Fz β (h.set id o) w) w β h.next (Fz β h w) w := ⟨Nat.le_refl _, fun _ _ _ => rfl, fun b hb => ⟨(fz_set hs).2 hb, rfl⟩⟩
theorem Sim.glb {β : Env} {h : Heap} {w : World} {id g : Nat} {lo hi lo' hi' i : Int} (sm : Sim β h w) (hob : h.obj id = some (.glb g lo hi)) (hc : w.cell? ⟨g, 0, none⟩ = some (.int .i64 i)) (h1 : lo' ≤ i) (h2 : i ≤ hi') : Sim β (h.set id (.glb g lo' hi')) w := by
  have hs : (h.obj id).isSome = true := by rw [hob]; rfl
  have live : ∀ j, ((h.set id (.glb g lo' hi')).obj j).isSome = true → (h.obj j).isSome = true := fun j hj => by
    simp only [Heap.set] at hj
    split at hj
    · rename_i he; rw [he]; exact hs
    · exact hj
  refine ⟨fun j hj => sm.lt j (live j hj), fun j o ho => ?_, fun j k hj hk b g1 g2 => sm.inj j k (live j hj) (live k hk) b g1 g2, sm.xs, fun j hj b hb => sm.nx j (live j hj) b hb⟩
  simp only [Heap.set] at ho
  split at ho
  · rename_i he
    subst he
    simp at ho; subst ho
    have := sm.ok j _ hob
    simp only [ObjOk] at this ⊢
    exact ⟨this.1, (fz_set hs).1 this.2.1, i, h1, h2, hc⟩
  · exact ObjOk.mv (mv_set hs) (fun _ _ => rfl) (sm.ok j o ho)
theorem PCall.narrow {f : FuncId} {args : List PV} {h : Heap} {u : Value} {id g : Nat} {lo hi lo' hi' : Int} (hob : h.obj id = some (.glb g lo hi)) (hl : lo ≤ lo') (hh : hi' ≤ hi) (hc : PCall P f args (h.set id (.glb g lo' hi')) fun r h' => r = .sc u ∧ h' = h.set id (.glb g lo' hi')) {β : Env} {w : World} {vals : List Value} (sm : Sim β h w) (hr : RepL β h.next (Fz β h w) w args vals) {i : Int} (hi0 : w.cell? ⟨g, 0, none⟩ = some (.int .i64 i)) (h1 : lo' ≤ i) (h2 : i ≤ hi') :
    Goes P f vals.toArray w fun e w' => ∃ r h' β' v, e = .returned v ∧ (r = .sc u ∧ h' = h) ∧ Sim β' h' w' ∧ RepH β' h' w' r v ∧ Ext β h w β' h' w' := by
  have hs : (h.obj id).isSome = true := by rw [hob]; rfl
  refine (hc β w vals (sm.glb hob hi0 h1 h2) (RepL.mv (mv_set hs) _ _ hr)).mono ?_
  rintro e w' ⟨r, h', β', x, rfl, ⟨rfl, rfl⟩, sm', hx, ex⟩
  have hob' : (h.set id (.glb g lo' hi')).obj id = some (.glb g lo' hi') := by simp [Heap.set]
  have back : (h.set id (.glb g lo' hi')).set id (.glb g lo hi) = h := heap_ext rfl fun j => by
    simp only [Heap.set]
    by_cases hj : j = id
    · simp [hj, hob]
    · simp [hj]
  have hk := sm'.ok id _ hob'
  simp only [ObjOk] at hk
  obtain ⟨_, _, i', k1, k2, k3⟩ := hk
  have sm2 := sm'.glb (lo' := lo) (hi' := hi) hob' k3 (by omega) (by omega)
  rw [back] at sm2
  refine ⟨.sc u, h, β', x, rfl, ⟨rfl, rfl⟩, sm2, by simp only [RepH, Rep] at hx ⊢; exact hx, ?_⟩
  exact ⟨ex.os, ex.tape, ex.output, ex.size, Nat.le_refl _, ex.beta, ex.X, ex.xh, fun b hb => ⟨(fz_set hs).2 (ex.fz b ((fz_set hs).1 hb)).1, (ex.fz b ((fz_set hs).1 hb)).2⟩⟩
theorem PCall.splitG {f : FuncId} {args : List PV} {h : Heap} {u : Value} {id g : Nat} {lo hi : Int} (a : Int) (hob : h.obj id = some (.glb g lo hi)) (hl : lo ≤ a + 1) (hh : a ≤ hi)
    (h1 : PCall P f args (h.set id (.glb g lo a)) fun r h' => r = .sc u ∧ h' = h.set id (.glb g lo a)) (h2 : PCall P f args (h.set id (.glb g (a + 1) hi)) fun r h' => r = .sc u ∧ h' = h.set id (.glb g (a + 1) hi)) :
    PCall P f args h fun r h' => r = .sc u ∧ h' = h := by
  intro β w vals sm hr
  have hk := sm.ok id _ hob
  simp only [ObjOk] at hk
  obtain ⟨_, _, i, k1, k2, k3⟩ := hk
  by_cases hia : i ≤ a
  · exact PCall.narrow hob (Int.le_refl _) hh h1 sm hr k3 k1 hia
  · exact PCall.narrow hob hl (Int.le_refl _) h2 sm hr k3 (by omega) k2
end
end Go.AM
