/- Changes of a single object in a region that draws its order: what a step does not look at may be hidden from it. -/
import Derived.Test.YtdnpmfjfgamaeaaGreatAmFl4
set_option linter.unusedVariables false
set_option linter.unusedSimpArgs false
set_option linter.unusedSectionVars false
namespace Go.AM
section
variable {P : Program} {ow : Nat → Bool} {n : Nat} {β : Env} {h : Heap} {w : World} {s : Slots} {a : Act}

theorem St.hideG {i : Nat} {o : AObj} (hi : i < h.next) (hn : h.obj i = none) (st : St n β s (h.set i o) a w) :
    ∃ βX, St n βX s h a w ∧ ∀ (β' : Env) (s' : Slots) (h' : Heap) (a' : Act) (w' : World), St n β' s' h' a' w' → Ext βX h w β' h' w' → h'.obj i = none →
      ∃ β'', St n β'' s' (h'.set i o) a' w' ∧ Ext β (h.set i o) w β'' (h'.set i o) w' := by
  have oi : (h.set i o).obj i = some o := by simp [Heap.set]
  have on : ∀ j, j ≠ i → (h.set i o).obj j = h.obj j := fun j hj => by simp [Heap.set, hj]
  have live : ∀ j, (h.obj j).isSome = true → j ≠ i := fun j hj e => by rw [e, hn] at hj; simp at hj
  have hok := st.sim.ok i _ oi
  have fzd : ∀ c, Fz β (h.set i o) w c → Fz ⟨β.bl, fun d => β.X d ∨ (β i).b = some d⟩ h w c := fun c hc => ⟨hc.1, fun j hj => hc.2.1 j (by rw [on j (live j hj)]; exact hj), fun hx => hx.elim hc.2.2 (fun e => hc.2.1 i (by rw [oi]; rfl) e)⟩
  have m1 : Mv β h.next (Fz β (h.set i o) w) w ⟨β.bl, fun d => β.X d ∨ (β i).b = some d⟩ h.next (Fz ⟨β.bl, fun d => β.X d ∨ (β i).b = some d⟩ h w) w := ⟨Nat.le_refl _, fun _ _ _ => rfl, fun c hc => ⟨fzd c hc, rfl⟩⟩
  refine ⟨⟨β.bl, fun d => β.X d ∨ (β i).b = some d⟩, ⟨⟨fun id hs => ?_, fun id o ho => ?_, fun j k hj hk c h1 h2 => ?_, fun c hc => ?_, fun id hs c h1 => ?_⟩, fun t => Rep.mv m1 _ _ (st.rep t), st.size, st.defers⟩, ?_⟩
  · exact st.sim.lt id (by rw [on id (live id hs)]; exact hs)
  · have := live id (by rw [ho]; rfl)
    exact ObjOk.mv m1 (fun _ _ => rfl) (st.sim.ok id o (by rw [on id this]; exact ho))
  · exact st.sim.inj j k (by rw [on j (live j hj)]; exact hj) (by rw [on k (live k hk)]; exact hk) c h1 h2
  · exact hc.elim (st.sim.xs c) (fun e => st.sim.blk_lt oi e)
  · have hs' : ((h.set i o).obj id).isSome = true := by rw [on id (live id hs)]; exact hs
    rintro (hx | hx)
    · exact st.sim.nx id hs' c h1 hx
    · exact live id hs (st.sim.inj id i hs' (by rw [oi]; rfl) _ h1 hx)
  · intro β' s' h' a' w' st' ex hn'
    have on' : ∀ j, j ≠ i → (h'.set i o).obj j = h'.obj j := fun j hj => by simp [Heap.set, hj]
    have hbi : (β' i) = β i := ex.beta i hi
    have hX : β'.X = fun d => β.X d ∨ (β i).b = some d := ex.X
    have fzu : ∀ c, Fz β' h' w' c → Fz ⟨β'.bl, β.X⟩ (h'.set i o) w' c := fun c hc => by
      have h3 := hc.2.2
      rw [hX] at h3
      refine ⟨hc.1, fun j hj hjc => ?_, fun hx => h3 (.inl hx)⟩
      by_cases hji : j = i
      · subst hji
        have h4 : (β' j).b = some c := hjc
        rw [hbi] at h4
        exact h3 (.inr h4)
      · rw [on' j hji] at hj
        exact hc.2.1 j hj hjc
    have e2 : Ext β (h.set i o) w ⟨β'.bl, β.X⟩ (h'.set i o) w' :=
      ⟨ex.os, ex.tape, ex.output, ex.size, ex.next, ex.beta, rfl, fun c hc hl => ex.xh c (.inl hc) hl, fun c hc => ⟨fzu c (ex.fz c (fzd c hc)).1, (ex.fz c (fzd c hc)).2⟩⟩
    have m2 : Mv β' h'.next (Fz β' h' w') w' ⟨β'.bl, β.X⟩ h'.next (Fz ⟨β'.bl, β.X⟩ (h'.set i o) w') w' := ⟨Nat.le_refl _, fun _ _ _ => rfl, fun c hc => ⟨fzu c hc, rfl⟩⟩
    refine ⟨⟨β'.bl, β.X⟩, ⟨⟨fun id hs => ?_, fun id o2 ho => ?_, fun j k hj hk c h1 h2 => ?_, fun c hc => ?_, fun id hs c h1 => ?_⟩, fun t => Rep.mv m2 _ _ (st'.rep t), st'.size, st'.defers⟩, e2⟩
    · by_cases hid : id = i
      · subst hid; exact Nat.lt_of_lt_of_le hi ex.next
      · rw [on' id hid] at hs; exact st'.sim.lt id hs
    · by_cases hid : id = i
      · subst hid
        have : o2 = o := by simp [Heap.set] at ho; exact ho.symm
        subst this
        have h3 := ObjOk.mv (w' := w') (β' := ⟨β'.bl, β.X⟩) (n' := h'.next) (F' := Fz ⟨β'.bl, β.X⟩ (h'.set id o2) w') e2.mv (fun c hc => ex.xh c (.inr hc) (st.sim.blk_lt oi hc)) hok
        show ObjOk _ _ _ _ (β' id) _
        rw [hbi]
        exact h3
      · rw [on' id hid] at ho
        exact ObjOk.mv m2 (fun _ _ => rfl) (st'.sim.ok id o2 ho)
    · have key : ∀ j, j ≠ i → ((h'.set i o).obj j).isSome = true → ∀ b, (β i).b = some b → (β' j).b ≠ some b := fun j hji hj b hb e => by
        rw [on' j hji] at hj
        have := st'.sim.nx j hj b e
        rw [hX] at this
        exact this (.inr hb)
      by_cases hji : j = i
      · by_cases hki : k = i
        · rw [hji, hki]
        · have h3 : (β' j).b = some c := h1
          rw [hji, hbi] at h3
          exact (key k hki hk c h3 h2).elim
      · by_cases hki : k = i
        · have h3 : (β' k).b = some c := h2
          rw [hki, hbi] at h3
          exact (key j hji hj c h3 h1).elim
        · rw [on' j hji] at hj; rw [on' k hki] at hk
          exact st'.sim.inj j k hj hk c h1 h2
    · exact st'.sim.xs c (by rw [hX]; exact .inl hc)
    · by_cases hid : id = i
      · have h3 : (β' id).b = some c := h1
        rw [hid, hbi] at h3
        exact st.sim.nx i (by rw [oi]; rfl) c h3
      · rw [on' id hid] at hs
        have := st'.sim.nx id hs c h1
        rw [hX] at this
        exact fun hx => this (.inl hx)

theorem putL_killL {H : Heap} {l : List Nat} : putL (killL H l) H l = H := heap_ext rfl fun j => by
  simp only [putL, killL]
  by_cases h1 : j ∈ l
  · cases h2 : H.obj j <;> simp [h1, h2]
  · simp [h1]
theorem St.hidesK {H : Heap} (hlt : ∀ id, (H.obj id).isSome = true → id < H.next) : ∀ (l : List Nat) {β : Env}, St n β s H a w →
    ∃ βX, St n βX s (killL H l) a w ∧ ∀ (β' : Env) (s' : Slots) (h' : Heap) (a' : Act) (w' : World), St n β' s' h' a' w' → Ext βX (killL H l) w β' h' w' → (∀ j ∈ l, (H.obj j).isSome = true → h'.obj j = none) →
      ∃ β'', St n β'' s' (putL h' H l) a' w' ∧ Ext β H w β'' (putL h' H l) w'
  | [], β, st => by
    have e : killL H [] = H := heap_ext rfl fun j => by simp [killL]
    have e' : ∀ h', putL h' H [] = h' := fun h' => heap_ext rfl fun j => by simp [putL]
    rw [e]
    exact ⟨β, st, fun β' s' h' a' w' st' ex _ => ⟨β', by rw [e']; exact st', by rw [e']; exact ex⟩⟩
  | i :: l, β, st => by
    obtain ⟨β1, st1, back1⟩ := St.hidesK hlt l st
    by_cases hc : l.contains i = true ∨ H.obj i = none
    · have e : killL H (i :: l) = killL H l := heap_ext rfl fun j => by
        simp only [killL, List.contains_cons]
        by_cases hj : j = i
        · subst hj
          rcases hc with hc | hc
          · have hm : j ∈ l := by simpa using hc
            simp [hm]
          · simp [hc]
        · simp [hj]
      have e' : ∀ h', putL h' H (i :: l) = putL h' H l := fun h' => heap_ext rfl fun j => by
        simp only [putL, List.contains_cons]
        by_cases hj : j = i
        · subst hj
          rcases hc with hc | hc
          · have hm : j ∈ l := by simpa using hc
            simp [hm]
          · simp [hc]
        · simp [hj]
      rw [e]
      refine ⟨β1, st1, fun β' s' h' a' w' st' ex hno => ?_⟩
      rw [e']
      exact back1 β' s' h' a' w' st' ex fun j hj => hno j (by simp [hj])
    · simp only [not_or] at hc
      obtain ⟨hc1, hc2⟩ := hc
      obtain ⟨o, ho⟩ := Option.ne_none_iff_exists'.1 hc2
      have e : killL H l = (killL H (i :: l)).set i o := heap_ext rfl fun j => by
        simp only [killL, Heap.set, List.contains_cons]
        by_cases hj : j = i
        · subst hj; simp only [hc1, if_false, if_true]; simpa using ho
        · simp [hj]
      have hlt' : i < (killL H (i :: l)).next := hlt i (by rw [ho]; rfl)
      rw [e] at st1 back1
      obtain ⟨β2, st2, back2⟩ := St.hideG hlt' (by simp [killL]) st1
      refine ⟨β2, st2, fun β' s' h' a' w' st' ex hno => ?_⟩
      obtain ⟨β3, st3, ex3⟩ := back2 β' s' h' a' w' st' ex (hno i (by simp) (by rw [ho]; rfl))
      obtain ⟨β4, st4, ex4⟩ := back1 β3 s' _ a' w' st3 ex3 (fun j hj hs => by
        have : j ≠ i := fun e => hc1 (by rw [← e]; simpa using hj)
        simp only [Heap.set, this, if_false]
        exact hno j (by simp [hj]) hs)
      have e' : putL h' H (i :: l) = putL (h'.set i o) H l := heap_ext rfl fun j => by
        simp only [putL, Heap.set, List.contains_cons]
        by_cases hj : j = i
        · subst hj; simp [hc1, ho]
        · simp [hj]
      exact ⟨β4, by rw [e']; exact st4, by rw [e']; exact ex4⟩

theorem rowsOf_in {m z : Nat} {ρ : Operand → PV} : ∀ (parts : List (Nat × Operand)) {rows out : List (List PV)}, inNR m rows → (∀ x, inN m (ρ x)) → rowsOf z rows (parts.map fun p => (p.1, ρ p.2)) = some out → inNR m out
  | [], rows, out, hr, _, h => by simp [rowsOf] at h; subst h; exact hr
  | (i, x) :: ps, rows, out, hr, hx, h => by
    simp only [List.map_cons, rowsOf] at h
    split at h
    · refine rowsOf_in ps ?_ hx h
      have hc : inNL m (ρ x).cells := by
        have := hx x
        cases hp : ρ x <;> rw [hp] at this <;> simp only [PV.cells, inNL, and_true] <;> (try exact this)
      rename_i hcnd
      clear h hcnd
      induction rows generalizing i with
      | nil => simpa using hr
      | cons r rs ih =>
        simp only [inNR] at hr
        cases i with
        | zero => simp only [List.set_cons_zero, inNR]; exact ⟨hc, hr.2⟩
        | succ i => simp only [List.set_cons_succ, inNR]; exact ⟨hr.1, ih i hr.2⟩
    · simp at h
theorem inNL_scs {m : Nat} : ∀ l : List Value, inNL m (l.map PV.sc)
  | [] => by simp only [List.map_nil, inNL]
  | v :: l => by simp only [List.map_cons, inNL, inN, true_and]; exact inNL_scs l
theorem inNR_rep {m k : Nat} {r : List PV} (h : inNL m r) : inNR m (List.replicate k r) := by
  induction k with
  | zero => simp only [List.replicate_zero, inNR]
  | succ k ih => simp only [List.replicate_succ, inNR]; exact ⟨h, ih⟩
theorem aop_eff {id : Nat} {o : Oper} {ρ : Operand → PV} {v : PV} {ob : AObj} (ha : isA ow o = true) (h1 : aop P ow id o ρ = some (v, ob)) (H : Heap) (hin : ∀ x, inN H.next (ρ x)) :
    ∃ z rows v1, ob = .arr z rows ∧ rows ≠ [] ∧ inNR H.next rows ∧ eff P (o.dst.any ow) o.op ρ H = some (v1, H.new ob) ∧ ((v1 = .ptr H.next 0 0 ∧ v = .ptr id 0 0) ∨ ∃ len, v1 = .own H.next 0 len ∧ v = .own id 0 len) := by
  obtain ⟨dst, op, ty, pos, af, gd⟩ := o
  unfold aop at h1
  simp only at h1
  unfold isA at ha
  simp only at ha
  split at ha
  · rename_i t
    simp only [eff] at h1 ⊢
    cases hz : zeroT P t with
    | none => simp [hz] at h1
    | some zs =>
      simp only [hz, Option.bind_some] at h1 ⊢
      by_cases hp : 0 < zs.length
      · simp only [hp, if_true] at h1 ⊢
        simp [Heap.new] at h1
        obtain ⟨rfl, rfl⟩ := h1
        exact ⟨_, _, _, rfl, by simp, by simp only [inNR, and_true]; exact inNL_scs zs, rfl, .inl ⟨rfl, rfl⟩⟩
      · simp [hp] at h1
  · rename_i t x
    simp only [eff, ha, if_true] at h1 ⊢
    by_cases hc : (ρ x).cells.all oneC = false
    · simp [hc] at h1
    · simp only [hc, if_false] at h1 ⊢
      by_cases hp : 0 < (ρ x).cells.length
      · simp only [hp, if_true] at h1 ⊢
        simp [Heap.new] at h1
        obtain ⟨rfl, rfl⟩ := h1
        have hcc : inNL H.next (ρ x).cells := by
          have := hin x
          cases hpx : ρ x <;> rw [hpx] at this <;> simp only [PV.cells, inNL, and_true] <;> (try exact this)
        exact ⟨_, _, _, rfl, by simp, by simp only [inNR, and_true]; exact hcc, rfl, .inl ⟨rfl, rfl⟩⟩
      · simp [hp] at h1
  · rename_i t len parts
    simp only [eff, ha, if_true] at h1 ⊢
    cases hz : elT P t with
    | none => simp [hz] at h1
    | some zb =>
      cases hz2 : elZ P t with
      | none => simp [hz, hz2] at h1
      | some z =>
        simp only [hz, hz2, Option.bind_some] at h1 ⊢
        by_cases hcd : z.length = zb.1 ∧ 0 < zb.1 ∧ len * zb.1 ≤ 16777216
        · simp only [if_pos hcd] at h1 ⊢
          cases hr : rowsOf zb.1 (List.replicate len (z.map .sc)) (parts.toList.map fun p => (p.1, ρ p.2)) with
          | none => simp [hr] at h1
          | some rows =>
            simp only [hr, Option.bind_some] at h1 ⊢
            by_cases hl : len = 0
            · simp [hl] at h1
            · simp only [hl, if_false] at h1 ⊢
              simp only [Heap.new, if_true] at h1
              by_cases he : rows.isEmpty = true
              · simp [he] at h1
              · simp [he] at h1
                obtain ⟨rfl, rfl⟩ := h1
                refine ⟨_, _, _, rfl, by simpa using he, rowsOf_in _ (inNR_rep (inNL_scs z)) hin hr, rfl, .inr ⟨len, rfl, rfl⟩⟩
        · simp [hcd] at h1
  · simp at ha

/-- a new object under a number that was kept for it -/
theorem St.floatA {id0 : Nat} {o : Oper} {v : PV} {ob : AObj} (ha : isA ow o = true) (h1 : aop P ow id0 o (pev s) = some (v, ob)) (hlt : id0 < h.next) (hn : h.obj id0 = none) (hb : (β id0).b = none) (st : St n β s h a w) (hd : o.dst.all (fun d => decide (d < n)) = true) {K : Act → World → Prop} {Q : Exit → Act → World → Prop}
    (hk : ∀ (β' : Env) (a' : Act) (w' : World), St n β' (updO s o.dst v) (h.set id0 ob) a' w' → (∀ id, id < h.next → id ≠ id0 → β' id = β id) → w'.os = w.os → w'.tape = w.tape → w'.output = w.output → w.heap.size ≤ w'.heap.size → β'.X = β.X → (∀ b, β.X b → b < w.heap.size → w'.heap[b]? = w.heap[b]?) → (∀ b, Fz β h w b → Fz β' (h.set id0 ob) w' b ∧ w'.heap[b]? = w.heap[b]?) → K a' w') : o.wp P a w K Q := by
  have hin : ∀ x, inN h.next (pev s x) := fun x => Rep.inN _ _ (pev_rep st.rep x)
  obtain ⟨z, rows, v1, rfl, hrows, hrin, heff, hv⟩ := aop_eff ha h1 h hin
  obtain ⟨nx, v', w', β1, hrun, hnx, sm1, ex, hrep⟩ := eff_sound st.sim st.rep o heff
  unfold Oper.wp
  rw [hrun]
  have new0 : (h.new (.arr z rows)).obj h.next = some (.arr z rows) := by simp [Heap.new]
  have newO : ∀ j, j < h.next → (h.new (.arr z rows)).obj j = h.obj j := fun j hj => by simp only [Heap.new]; rw [if_neg (by omega)]
  have on : ∀ j, j ≠ id0 → (h.set id0 (.arr z rows)).obj j = h.obj j := fun j hj => by simp [Heap.set, hj]
  have live : ∀ j, (h.obj j).isSome = true → j < h.next ∧ j ≠ id0 := fun j hj => ⟨st.sim.lt j hj, fun e => by rw [e, hn] at hj; simp at hj⟩
  have fz2 : ∀ c, Fz β1 (h.new (.arr z rows)) w' c → Fz ⟨fun id => if id = id0 then β1 h.next else β id, β.X⟩ (h.set id0 (.arr z rows)) w' c := fun c hc => by
    refine ⟨hc.1, fun j hj hjc => ?_, by have := hc.2.2; rw [ex.X] at this; exact this⟩
    by_cases hj0 : j = id0
    · subst hj0
      simp only [if_true] at hjc
      exact hc.2.1 h.next (by rw [new0]; rfl) hjc
    · rw [on j hj0] at hj
      simp only [hj0, if_false] at hjc
      have hl := (live j hj).1
      exact hc.2.1 j (by rw [newO j hl]; exact hj) (by rw [ex.beta j hl]; exact hjc)
  have m2 : Mv β1 h.next (Fz β1 (h.new (.arr z rows)) w') w' ⟨fun id => if id = id0 then β1 h.next else β id, β.X⟩ h.next (Fz ⟨fun id => if id = id0 then β1 h.next else β id, β.X⟩ (h.set id0 (.arr z rows)) w') w' :=
    ⟨Nat.le_refl _, fun id hid hbn => by
      have : id ≠ id0 := fun e => hbn (by rw [ex.beta id hid, e]; exact hb)
      simp only [this, if_false]
      exact (ex.beta id hid).symm, fun c hc => ⟨fz2 c hc, rfl⟩⟩
  have m3 : Mv β h.next (Fz β h w) w ⟨fun id => if id = id0 then β1 h.next else β id, β.X⟩ h.next (Fz ⟨fun id => if id = id0 then β1 h.next else β id, β.X⟩ (h.set id0 (.arr z rows)) w') w' :=
    ⟨Nat.le_refl _, fun id hid hbn => by
      have : id ≠ id0 := fun e => hbn (by rw [e]; exact hb)
      simp only [this, if_false], fun c hc => ⟨fz2 c (ex.fz c hc).1, (ex.fz c hc).2⟩⟩
  have hv2 : RepH ⟨fun id => if id = id0 then β1 h.next else β id, β.X⟩ (h.set id0 (.arr z rows)) w' v v' := by
    rcases hv with ⟨rfl, rfl⟩ | ⟨len, rfl, rfl⟩
    · simp only [RepH, Rep] at hrep ⊢
      obtain ⟨_, b, g1, g2⟩ := hrep
      exact ⟨hlt, b, by simp only [if_true]; exact g1, by simp only [if_true]; exact g2⟩
    · simp only [RepH, Rep] at hrep ⊢
      obtain ⟨_, aa, cap, g1, g2, g3, g4⟩ := hrep
      exact ⟨hlt, aa, cap, g1, g2, g3, by simp only [if_true]; exact g4⟩
  have fin : St n ⟨fun id => if id = id0 then β1 h.next else β id, β.X⟩ (updO s o.dst v) (h.set id0 (.arr z rows)) (a.put o.dst v') w' := by
    refine ⟨⟨fun id hs => ?_, fun id o2 ho => ?_, fun j k hj hkk c g1 g2 => ?_, fun c hc => ?_, fun id hs c g1 => ?_⟩, fun u => ?_, ?_, ?_⟩
    · by_cases hid : id = id0
      · subst hid; exact hlt
      · rw [on id hid] at hs; exact st.sim.lt id hs
    · by_cases hid : id = id0
      · subst hid
        have : o2 = .arr z rows := by simp [Heap.set] at ho; exact ho.symm
        subst this
        have g := ObjOk.mv m2 (fun _ _ => rfl) (ObjOk.low (n := h.next) (F' := Fz β1 (h.new (.arr z rows)) w') (fun b hb => hb) (show inNO h.next (.arr z rows) by simpa only [inNO] using hrin) (sm1.ok h.next _ new0))
        simp only [if_true]
        exact g
      · rw [on id hid] at ho
        have hl := live id (by rw [ho]; rfl)
        have g := ObjOk.mv m2 (fun _ _ => rfl) (ObjOk.low (n := h.next) (F' := Fz β1 (h.new (.arr z rows)) w') (fun b hb => hb) (st.sim.ok id o2 ho).inN (sm1.ok id o2 (by rw [newO id hl.1]; exact ho)))
        simp only [hid, if_false]
        rw [ex.beta id hl.1] at g
        exact g
    · have key : ∀ j, j ≠ id0 → ((h.set id0 (.arr z rows)).obj j).isSome = true → ∀ c, (β j).b = some c → (β1 h.next).b ≠ some c := fun j hji hj c e e2 => by
        rw [on j hji] at hj
        have hl := (live j hj).1
        have := sm1.inj j h.next (by rw [newO j hl]; exact hj) (by rw [new0]; rfl) c (by rw [ex.beta j hl]; exact e) e2
        omega
      by_cases hji : j = id0
      · by_cases hki : k = id0
        · rw [hji, hki]
        · simp only [hji, if_true] at g1
          simp only [hki, if_false] at g2
          exact (key k hki hkk c g2 g1).elim
      · by_cases hki : k = id0
        · simp only [hki, if_true] at g2
          simp only [hji, if_false] at g1
          exact (key j hji hj c g1 g2).elim
        · simp only [hji, hki, if_false] at g1 g2
          rw [on j hji] at hj; rw [on k hki] at hkk
          exact st.sim.inj j k hj hkk c g1 g2
    · exact Nat.lt_of_lt_of_le (st.sim.xs c hc) ex.size
    · by_cases hid : id = id0
      · simp only [hid, if_true] at g1
        have := sm1.nx h.next (by rw [new0]; rfl) c g1
        rw [ex.X] at this
        exact this
      · simp only [hid, if_false] at g1
        rw [on id hid] at hs
        exact st.sim.nx id hs c g1
    · cases hdd : o.dst with
      | none => simp only [updO, Act.put]; exact Rep.mv m3 _ _ (st.rep u)
      | some d =>
        rw [hdd] at hd
        simp at hd
        simp only [updO, upd, Act.put]
        by_cases hu : u = d
        · subst hu
          rw [if_pos rfl]
          have hus : u < a.tmps.size := by rw [st.size]; exact hd
          simpa [Array.getD_eq_getD_getElem?, hus] using hv2
        · rw [if_neg hu]
          have : RepH ⟨fun id => if id = id0 then β1 h.next else β id, β.X⟩ (h.set id0 (.arr z rows)) w' (s u) (a.tmps.getD u Go.undef) := Rep.mv m3 _ _ (st.rep u)
          simpa [Array.getD_eq_getD_getElem?, Array.getElem?_setIfInBounds_ne (Ne.symm hu)] using this
    · cases hdd : o.dst with
      | none => exact st.size
      | some d => simp [Act.put, st.size]
    · cases hdd : o.dst with
      | none => exact st.defers
      | some d => simp [Act.put, st.defers]
  have done := hk _ _ _ fin (fun id _ hne => by simp only [hne, if_false]) ex.os ex.tape ex.output ex.size rfl (fun b hb' hl => ex.xh b hb' hl) (fun b hbb => ⟨fz2 b (ex.fz b hbb).1, (ex.fz b hbb).2⟩)
  rcases hnx with rfl | ⟨rfl, rfl⟩ <;> exact done
/-- a store looks at one object alone -/
theorem store_local {t : TypeId} {x y : Operand} {b : Bool} {ρ : Operand → PV} {H H' : Heap} {id r f : Nat} {ob : AObj} {v : PV} (hx : ρ x = .ptr id r f) (he : eff P b (.store t x y) ρ H = some (v, H.set id ob)) (ho : H'.obj id = H.obj id) : eff P b (.store t x y) ρ H' = some (v, H'.set id ob) := by
  simp only [eff] at he ⊢
  cases hz : szT P t with
  | none => simp [hz] at he
  | some m =>
    simp only [hz, Option.bind_some] at he ⊢
    split at he
    · rename_i hc
      rw [if_pos hc]
      rw [hx] at he ⊢
      simp only [wr] at he ⊢
      rw [ho]
      cases hob : H.obj id with
      | none => simp [hob] at he
      | some o1 =>
        simp only [hob] at he ⊢
        cases o1 with
        | arr z rows =>
          simp only at he ⊢
          cases hr : rows[r]? with
          | none => simp [hr] at he
          | some q =>
            simp only [hr] at he ⊢
            split at he
            · rename_i hl
              simp only [hl, if_true, Option.map_some, Option.some.injEq, Prod.mk.injEq] at he ⊢
              refine ⟨he.1, ?_⟩
              have := congrArg (fun h : Heap => h.obj id) he.2
              simp [Heap.set] at this
              rw [this]
            · simp at he
        | map es => simp at he
        | glb g lo hi => simp at he
    · simp at he
end
end Go.AM
