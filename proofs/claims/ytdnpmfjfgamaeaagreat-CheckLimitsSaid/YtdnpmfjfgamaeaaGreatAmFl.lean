/- Variables that are made in a region which draws its order: each has a number of its own, so that their order has no influence. Any order ends as the order of the text. -/
import Derived.Test.YtdnpmfjfgamaeaaGreatAmIn
set_option linter.unusedVariables false
set_option linter.unusedSimpArgs false
set_option linter.unusedSectionVars false
namespace Go.AM
section
variable {P : Program} {ow : Nat → Bool} {wf : FuncId → Bool} {n : Nat} {β : Env} {h : Heap} {w : World} {s : Slots} {a : Act}

def Heap.bump (h : Heap) (m : Nat) : Heap := ⟨h.next + m, h.obj⟩
theorem St.bump (st : St n β s h a w) (m : Nat) : ∃ β0, St n β0 s (h.bump m) a w ∧ Ext β h w β0 (h.bump m) w ∧ ∀ id, h.next ≤ id → (β0 id).b = none := by
  have hb : ∀ id, (h.obj id).isSome = true → id < h.next := st.sim.lt
  have e : Ext β h w ⟨fun id => if id < h.next then β id else ⟨none, 0, 0, 0⟩, β.X⟩ (h.bump m) w :=
    ⟨rfl, rfl, rfl, Nat.le_refl _, Nat.le_add_right _ _, fun id hid => by simp [hid], rfl, fun _ _ _ => rfl, fun b hbb => ⟨⟨hbb.1, fun id hs => by
      have := hb id hs
      simp only [this, if_true]
      exact hbb.2.1 id hs, hbb.2.2⟩, rfl⟩⟩
  refine ⟨⟨fun id => if id < h.next then β id else ⟨none, 0, 0, 0⟩, β.X⟩, ⟨⟨fun id hs => ?_, fun id o ho => ?_, fun i j hi hj b h1 h2 => ?_, st.sim.xs, fun id hs b h1 => ?_⟩, fun t => e.rep (st.rep t), st.size, st.defers⟩, e, fun id hid => ?_⟩
  · exact Nat.lt_of_lt_of_le (hb id hs) (Nat.le_add_right _ _)
  · have hid := hb id (by rw [show h.obj id = some o from ho]; rfl)
    have := ObjOk.mv e.mv (fun _ _ => rfl) (st.sim.ok id o ho)
    simp only [hid, if_true]
    exact this
  · simp only [hb i hi, hb j hj, if_true] at h1 h2
    exact st.sim.inj i j hi hj b h1 h2
  · simp only [hb id hs, if_true] at h1
    exact st.sim.nx id hs b h1
  · simp only [show ¬ id < h.next by omega, if_false]

/-- an object that a step does not look at may be hidden from it -/
theorem St.hide {i z : Nat} {rows : List (List PV)} (hr : rows ≠ []) (hi : i < h.next) (hn : h.obj i = none) (st : St n β s (h.set i (.arr z rows)) a w) :
    ∃ βX, St n βX s h a w ∧ ∀ (β' : Env) (s' : Slots) (h' : Heap) (a' : Act) (w' : World), St n β' s' h' a' w' → Ext βX h w β' h' w' → h'.obj i = none →
      ∃ β'', St n β'' s' (h'.set i (.arr z rows)) a' w' ∧ Ext β (h.set i (.arr z rows)) w β'' (h'.set i (.arr z rows)) w' := by
  have oi : (h.set i (.arr z rows)).obj i = some (.arr z rows) := by simp [Heap.set]
  have on : ∀ j, j ≠ i → (h.set i (.arr z rows)).obj j = h.obj j := fun j hj => by simp [Heap.set, hj]
  have live : ∀ j, (h.obj j).isSome = true → j ≠ i := fun j hj e => by rw [e, hn] at hj; simp at hj
  have hok := st.sim.ok i _ oi
  obtain ⟨b, hb⟩ : ∃ b, (β i).b = some b := by
    simp only [ObjOk] at hok
    rcases hok.2 with ⟨_, h2⟩ | ⟨b, c, e, fr, h2, _⟩
    · exact (hr h2).elim
    · exact ⟨b, h2⟩
  have hbl : b < w.heap.size := st.sim.blk_lt oi hb
  have fzd : ∀ c, Fz β (h.set i (.arr z rows)) w c → Fz ⟨β.bl, fun d => β.X d ∨ d = b⟩ h w c := fun c hc => ⟨hc.1, fun j hj => hc.2.1 j (by rw [on j (live j hj)]; exact hj), fun hx => hx.elim hc.2.2 (fun e => hc.2.1 i (by rw [oi]; rfl) (by rw [e]; exact hb))⟩
  have m1 : Mv β h.next (Fz β (h.set i (.arr z rows)) w) w ⟨β.bl, fun d => β.X d ∨ d = b⟩ h.next (Fz ⟨β.bl, fun d => β.X d ∨ d = b⟩ h w) w := ⟨Nat.le_refl _, fun _ _ _ => rfl, fun c hc => ⟨fzd c hc, rfl⟩⟩
  refine ⟨⟨β.bl, fun d => β.X d ∨ d = b⟩, ⟨⟨fun id hs => ?_, fun id o ho => ?_, fun j k hj hk c h1 h2 => ?_, fun c hc => ?_, fun id hs c h1 => ?_⟩, fun t => Rep.mv m1 _ _ (st.rep t), st.size, st.defers⟩, ?_⟩
  · exact st.sim.lt id (by rw [on id (live id hs)]; exact hs)
  · have := live id (by rw [ho]; rfl)
    exact ObjOk.mv m1 (fun _ _ => rfl) (st.sim.ok id o (by rw [on id this]; exact ho))
  · exact st.sim.inj j k (by rw [on j (live j hj)]; exact hj) (by rw [on k (live k hk)]; exact hk) c h1 h2
  · exact hc.elim (st.sim.xs c) (fun e => by rw [e]; exact hbl)
  · have hs' : ((h.set i (.arr z rows)).obj id).isSome = true := by rw [on id (live id hs)]; exact hs
    rintro (hx | hx)
    · exact st.sim.nx id hs' c h1 hx
    · subst hx
      exact live id hs (st.sim.inj id i hs' (by rw [oi]; rfl) _ h1 hb)
  · intro β' s' h' a' w' st' ex hn'
    have on' : ∀ j, j ≠ i → (h'.set i (.arr z rows)).obj j = h'.obj j := fun j hj => by simp [Heap.set, hj]
    have live' : ∀ j, (h'.obj j).isSome = true → j ≠ i := fun j hj e => by rw [e, hn'] at hj; simp at hj
    have hbi : (β' i) = β i := ex.beta i hi
    have hX : β'.X = fun d => β.X d ∨ d = b := ex.X
    have fzu : ∀ c, Fz β' h' w' c → Fz ⟨β'.bl, β.X⟩ (h'.set i (.arr z rows)) w' c := fun c hc => by
      have h3 := hc.2.2
      rw [hX] at h3
      refine ⟨hc.1, fun j hj hjc => ?_, fun hx => h3 (.inl hx)⟩
      by_cases hji : j = i
      · subst hji
        have h4 : (β' j).b = some c := hjc
        rw [hbi, hb] at h4
        simp at h4
        exact h3 (.inr h4.symm)
      · rw [on' j hji] at hj
        exact hc.2.1 j hj hjc
    have blkeq : w'.heap[b]? = w.heap[b]? := ex.xh b (.inr rfl) hbl
    have e2 : Ext β (h.set i (.arr z rows)) w ⟨β'.bl, β.X⟩ (h'.set i (.arr z rows)) w' :=
      ⟨ex.os, ex.tape, ex.output, ex.size, ex.next, ex.beta, rfl, fun c hc hl => ex.xh c (.inl hc) hl, fun c hc => ⟨fzu c (ex.fz c (fzd c hc)).1, (ex.fz c (fzd c hc)).2⟩⟩
    have m2 : Mv β' h'.next (Fz β' h' w') w' ⟨β'.bl, β.X⟩ h'.next (Fz ⟨β'.bl, β.X⟩ (h'.set i (.arr z rows)) w') w' := ⟨Nat.le_refl _, fun _ _ _ => rfl, fun c hc => ⟨fzu c hc, rfl⟩⟩
    refine ⟨⟨β'.bl, β.X⟩, ⟨⟨fun id hs => ?_, fun id o ho => ?_, fun j k hj hk c h1 h2 => ?_, fun c hc => ?_, fun id hs c h1 => ?_⟩, fun t => Rep.mv m2 _ _ (st'.rep t), st'.size, st'.defers⟩, e2⟩
    · by_cases hid : id = i
      · subst hid; exact Nat.lt_of_lt_of_le hi ex.next
      · rw [on' id hid] at hs; exact st'.sim.lt id hs
    · by_cases hid : id = i
      · subst hid
        have : o = .arr z rows := by simp [Heap.set] at ho; exact ho.symm
        subst this
        have h3 := ObjOk.mv (w' := w') (β' := ⟨β'.bl, β.X⟩) (n' := h'.next) (F' := Fz ⟨β'.bl, β.X⟩ (h'.set id (.arr z rows)) w') e2.mv (fun c hc => by rw [hb] at hc; simp at hc; subst hc; exact blkeq) hok
        show ObjOk _ _ _ _ (β' id) _
        rw [hbi]
        exact h3
      · rw [on' id hid] at ho
        exact ObjOk.mv m2 (fun _ _ => rfl) (st'.sim.ok id o ho)
    · have key : ∀ j, j ≠ i → ((h'.set i (.arr z rows)).obj j).isSome = true → (β' j).b ≠ some b := fun j hji hj e => by
        rw [on' j hji] at hj
        have := st'.sim.nx j hj b e
        rw [hX] at this
        exact this (.inr rfl)
      by_cases hji : j = i
      · by_cases hki : k = i
        · rw [hji, hki]
        · have h3 : (β' j).b = some c := h1
          rw [hji, hbi, hb] at h3
          simp at h3
          subst h3
          exact (key k hki hk h2).elim
      · by_cases hki : k = i
        · have h3 : (β' k).b = some c := h2
          rw [hki, hbi, hb] at h3
          simp at h3
          subst h3
          exact (key j hji hj h1).elim
        · rw [on' j hji] at hj; rw [on' k hki] at hk
          exact st'.sim.inj j k hj hk c h1 h2
    · exact st'.sim.xs c (by rw [hX]; exact .inl hc)
    · by_cases hid : id = i
      · have h3 : (β' id).b = some c := h1
        rw [hid, hbi] at h3
        exact st.sim.nx i (by rw [oi]; rfl) c h3
      · rw [on' id hid] at hs
        have := st'.sim.nx id hs c h1
        rw [hX] at this
        exact fun hx => this (.inl hx)

/-- objects laid over a heap: ob f at base + f where p f -/
def ovl (H : Heap) (base : Nat) (ob : Nat → AObj) (p : Nat → Bool) : Heap := ⟨H.next, fun id => if base ≤ id ∧ p (id - base) = true then some (ob (id - base)) else H.obj id⟩
theorem heap_ext {h h' : Heap} (h1 : h.next = h'.next) (h2 : ∀ id, h.obj id = h'.obj id) : h = h' := by
  cases h; cases h'
  simp only at h1 h2
  subst h1
  congr 1
  funext id; exact h2 id
theorem ovl_none {H : Heap} {base : Nat} {ob : Nat → AObj} {p : Nat → Bool} (hp : ∀ f, p f = false) : ovl H base ob p = H := heap_ext rfl fun id => by simp [ovl, hp]
theorem ovl_congr {H : Heap} {base : Nat} {ob : Nat → AObj} {p q : Nat → Bool} (hp : ∀ f, p f = q f) : ovl H base ob p = ovl H base ob q := by rw [show p = q from funext hp]
theorem ovl_set {H : Heap} {base m : Nat} {ob : Nat → AObj} {p q : Nat → Bool} (hm : q m = true) (hq : ∀ f, f ≠ m → q f = p f) : ovl H base ob q = (ovl H base ob p).set (base + m) (ob m) := heap_ext rfl fun id => by
  simp only [ovl, Heap.set]
  by_cases h1 : id = base + m
  · subst h1
    have : base + m - base = m := by omega
    simp [this, hm]
  · rw [if_neg h1]
    by_cases h2 : base ≤ id
    · rw [hq (id - base) (by omega)]
    · simp [h2]

theorem St.hides {H : Heap} {base : Nat} {ob : Nat → AObj} {p : Nat → Bool} (hp : ∀ f, p f = true → base + f < H.next ∧ H.obj (base + f) = none ∧ ∃ z rows, ob f = .arr z rows ∧ rows ≠ []) : ∀ (m : Nat) {β : Env}, St n β s (ovl H base ob fun f => decide (f < m) && p f) a w →
    ∃ βX, St n βX s H a w ∧ ∀ (β' : Env) (s' : Slots) (h' : Heap) (a' : Act) (w' : World), St n β' s' h' a' w' → Ext βX H w β' h' w' → (∀ f, p f = true → h'.obj (base + f) = none) →
      ∃ β'', St n β'' s' (ovl h' base ob fun f => decide (f < m) && p f) a' w' ∧ Ext β (ovl H base ob fun f => decide (f < m) && p f) w β'' (ovl h' base ob fun f => decide (f < m) && p f) w'
  | 0, β, st => by
    rw [ovl_none (by simp)] at st
    refine ⟨β, st, fun β' s' h' a' w' st' ex _ => ⟨β', ?_, ?_⟩⟩
    · rw [ovl_none (by simp)]; exact st'
    · rw [ovl_none (by simp), ovl_none (by simp)]; exact ex
  | m + 1, β, st => by
    cases hpm : p m with
    | false =>
      have hc : ∀ H : Heap, (ovl H base ob fun f => decide (f < m + 1) && p f) = ovl H base ob fun f => decide (f < m) && p f := fun H => ovl_congr fun f => by
        by_cases hf : f = m
        · subst hf; simp [hpm]
        · rw [show decide (f < m + 1) = decide (f < m) by simp; omega]
      simp only [hc] at st ⊢
      exact St.hides hp m st
    | true =>
      obtain ⟨g1, g2, z, rows, g3, g4⟩ := hp m hpm
      have hc : ∀ H : Heap, (ovl H base ob fun f => decide (f < m + 1) && p f) = (ovl H base ob fun f => decide (f < m) && p f).set (base + m) (.arr z rows) := fun H => by
        rw [← g3]
        exact ovl_set (by simp [hpm]) fun f hf => by rw [show decide (f < m + 1) = decide (f < m) by simp; omega]
      have hnn : ∀ H : Heap, H.obj (base + m) = none → (ovl H base ob fun f => decide (f < m) && p f).obj (base + m) = none := fun H hH => by
        simp only [ovl]
        rw [if_neg (by rw [show base + m - base = m by omega]; simp)]
        exact hH
      rw [hc] at st
      obtain ⟨β1, st1, back1⟩ := St.hide g4 (show base + m < (ovl H base ob _).next from g1) (hnn H g2) st
      obtain ⟨β2, st2, back2⟩ := St.hides hp m st1
      refine ⟨β2, st2, fun β' s' h' a' w' st' ex hno => ?_⟩
      obtain ⟨β3, st3, ex3⟩ := back2 β' s' h' a' w' st' ex hno
      obtain ⟨β4, st4, ex4⟩ := back1 β3 s' _ a' w' st3 ex3 (hnn h' (hno m hpm))
      refine ⟨β4, ?_, ?_⟩
      · rw [hc]; exact st4
      · rw [hc, hc]; exact ex4

/-- a new variable under a number that was kept for it -/
theorem St.float {t : TypeId} {zs : List Value} {id0 : Nat} (hz : zeroT P t = some zs) (hlt : id0 < h.next) (hn : h.obj id0 = none) (hb : (β id0).b = none) (st : St n β s h a w) {o : Oper} (ho : o.op = .alloc t) (hd : o.dst.all (fun d => decide (d < n)) = true) {K : Act → World → Prop} {Q : Exit → Act → World → Prop}
    (hk : ∀ (β' : Env) (a' : Act) (w' : World), St n β' (updO s o.dst (.ptr id0 0 0)) (h.set id0 (.arr zs.length [zs.map .sc])) a' w' → (∀ id, id ≠ id0 → β' id = β id) → w'.os = w.os → w'.tape = w.tape → w'.output = w.output → w.heap.size ≤ w'.heap.size → β'.X = β.X → (∀ b, b < w.heap.size → w'.heap[b]? = w.heap[b]?) → (∀ b, Fz β h w b → Fz β' (h.set id0 (.arr zs.length [zs.map .sc])) w' b) → K a' w') : o.wp P a w K Q := by
  obtain ⟨i, v, h1, h2, h3, h4⟩ := zeroT_info hz
  have hrun : (execOp a.eval o).run P w = .ok (.value (.pointer (some ⟨w.heap.size, 0, none⟩))) (w.alloc (.cells v.cells t)) := by
    obtain ⟨dst, op, ty, pos, af, gd⟩ := o
    simp only at ho
    subst ho
    simp [execOp, Instr.alloc, zeroValue, typeInfo, h1, h2, run_newVar]
  unfold Oper.wp
  rw [hrun]
  have on : ∀ j, j ≠ id0 → (h.set id0 (.arr zs.length [zs.map .sc])).obj j = h.obj j := fun j hj => by simp [Heap.set, hj]
  have fzu : ∀ b, Fz β h w b → Fz ⟨fun id => if id = id0 then ⟨some w.heap.size, 0, zs.length, v.cells.size⟩ else β id, β.X⟩ (h.set id0 (.arr zs.length [zs.map .sc])) (w.alloc (.cells v.cells t)) b := fun b hbb => by
    refine ⟨by have := hbb.1; simp; omega, fun j hj hjb => ?_, hbb.2.2⟩
    by_cases hji : j = id0
    · subst hji
      simp at hjb
      have := hbb.1; omega
    · rw [on j hji] at hj
      simp only [hji, if_false] at hjb
      exact hbb.2.1 j hj hjb
  have m : Mv β h.next (Fz β h w) w ⟨fun id => if id = id0 then ⟨some w.heap.size, 0, zs.length, v.cells.size⟩ else β id, β.X⟩ h.next (Fz ⟨fun id => if id = id0 then ⟨some w.heap.size, 0, zs.length, v.cells.size⟩ else β id, β.X⟩ (h.set id0 (.arr zs.length [zs.map .sc])) (w.alloc (.cells v.cells t))) (w.alloc (.cells v.cells t)) :=
    ⟨Nat.le_refl _, fun id hid hbn => by
      have : id ≠ id0 := fun e => hbn (by rw [e]; exact hb)
      simp [this], fun b hbb => ⟨fzu b hbb, heap_alloc_old w _ hbb.1⟩⟩
  have hcl : v.cells.size = zs.length := by rw [← h3]; simp
  have hrow : RowsAt β h.next (Fz β h w) w zs.length [zs.map .sc] v.cells :=
    RowsAt.of_flat (xs := zs) (by simp) (by simpa using RepL.sc zs) h4 (fun j u hu => by rw [← h3] at hu; simpa using hu)
  refine hk ⟨fun id => if id = id0 then ⟨some w.heap.size, 0, zs.length, v.cells.size⟩ else β id, β.X⟩ _ _ ⟨⟨fun id hs => ?_, fun id ob hob => ?_, fun j k hj hkk b g1 g2 => ?_, fun b hx => ?_, fun id hs b g1 => ?_⟩, fun u => ?_, ?_, ?_⟩ (fun id hne => by simp [hne]) rfl rfl rfl (by simp) rfl (fun b hbl => heap_alloc_old w _ hbl) fzu
  · by_cases hid : id = id0
    · subst hid; exact hlt
    · rw [on id hid] at hs; exact st.sim.lt id hs
  · by_cases hid : id = id0
    · subst hid
      have : ob = .arr zs.length [zs.map .sc] := by simp [Heap.set] at hob; exact hob.symm
      subst this
      simp only [ObjOk, if_true]
      exact ⟨trivial, .inr ⟨w.heap.size, v.cells, t, (0, 0), rfl, heap_alloc_new w _, rfl, by simp [hcl], fun i _ => by simp, hrow.rep m (heap_alloc_new w _)⟩⟩
    · rw [on id hid] at hob
      have g := ObjOk.mv m (fun b hbb => heap_alloc_old w _ (st.sim.blk_lt hob hbb)) (st.sim.ok id ob hob)
      simp only [hid, if_false]
      exact g
  · have key : ∀ j, j ≠ id0 → ((h.set id0 (.arr zs.length [zs.map .sc])).obj j).isSome = true → (β j).b ≠ some w.heap.size := fun j hji hj e => by
      rw [on j hji] at hj
      have := st.sim.blk_lt (Option.eq_some_of_isSome hj) e
      omega
    by_cases hji : j = id0
    · by_cases hki : k = id0
      · rw [hji, hki]
      · subst hji
        simp at g1
        simp only [hki, if_false] at g2
        rw [← g1] at g2
        exact (key k hki hkk g2).elim
    · by_cases hki : k = id0
      · subst hki
        simp at g2
        simp only [hji, if_false] at g1
        rw [← g2] at g1
        exact (key j hji hj g1).elim
      · simp only [hji, hki, if_false] at g1 g2
        rw [on j hji] at hj; rw [on k hki] at hkk
        exact st.sim.inj j k hj hkk b g1 g2
  · have := st.sim.xs b hx; simp; omega
  · by_cases hid : id = id0
    · subst hid
      simp at g1
      exact fun hx => by have := st.sim.xs b hx; omega
    · simp only [hid, if_false] at g1
      rw [on id hid] at hs
      exact st.sim.nx id hs b g1
  · have old : ∀ u, RepH ⟨fun id => if id = id0 then ⟨some w.heap.size, 0, zs.length, v.cells.size⟩ else β id, β.X⟩ (h.set id0 (.arr zs.length [zs.map .sc])) (w.alloc (.cells v.cells t)) (s u) (a.tmps.getD u Go.undef) := fun u => Rep.mv m _ _ (st.rep u)
    cases hdd : o.dst with
    | none => simp only [updO, Act.put]; exact old u
    | some d =>
      rw [hdd] at hd
      simp at hd
      simp only [updO, upd, Act.put]
      by_cases hu : u = d
      · subst hu
        rw [if_pos rfl]
        have hus : u < a.tmps.size := by rw [st.size]; exact hd
        have : RepH ⟨fun id => if id = id0 then ⟨some w.heap.size, 0, zs.length, v.cells.size⟩ else β id, β.X⟩ (h.set id0 (.arr zs.length [zs.map .sc])) (w.alloc (.cells v.cells t)) (.ptr id0 0 0) (.pointer (some ⟨w.heap.size, 0, none⟩)) := by
          simp only [RepH, Rep]
          exact ⟨hlt, w.heap.size, by simp, by simp⟩
        simpa [Array.getD_eq_getD_getElem?, hus] using this
      · rw [if_neg hu]
        simpa [Array.getD_eq_getD_getElem?, Array.getElem?_setIfInBounds_ne (Ne.symm hu)] using old u
  · cases hdd : o.dst with
    | none => exact st.size
    | some d => simp [Act.put, st.size]
  · cases hdd : o.dst with
    | none => exact st.defers
    | some d => simp [Act.put, st.defers]
end
end Go.AM
