/- Stores, slices and append: the abstract machine's are the model's. -/
import Derived.Test.YtdnpmfjfgamaeaaGreatAmEff
set_option linter.unusedVariables false
set_option linter.unusedSimpArgs false
set_option linter.unusedSectionVars false
namespace Go.AM
section
variable {P : Program} {β β' : Env} {h h' : Heap} {w w' : World} {s : Slots} {a : Act}

theorem setCell_setRow (w : World) (g o : Nat) (cur : Array Value) (t : TypeId) (fr : Nat × Nat) (v : Value) (hg : w.heap[g]? = some (.cells cur t fr)) :
    w.setCell ⟨g, o, none⟩ v = w.setRow g (cur.setIfInBounds o v) := by
  have hlt : g < w.heap.size := (Array.getElem?_eq_some_iff.1 hg).1
  have hv : w.heap[g] = .cells cur t fr := (Array.getElem?_eq_some_iff.1 hg).2
  unfold World.setCell World.setRow
  congr 1
  apply Array.ext
  · simp
  · intro i h1 h2
    simp only [Array.getElem_modify]
    split
    · rename_i hgi; subst hgi; simp [hv]
    · rfl

/-- storing cells into a block that no string shares there -/
theorem run_store_row (g o : Nat) (t : TypeId) (fr : Nat × Nat) : ∀ (vs : List Value) (i : Nat) (cur : Array Value) (w : World), w.heap[g]? = some (.cells cur t fr) → o + i + vs.length ≤ cur.size →
    (∀ j, j < cur.size → ¬ (fr.1 ≤ j ∧ j < fr.2)) → (∀ v ∈ vs, v.oneCell' = true) →
    (storeCells ⟨g, o, none⟩ vs i).run P w = .ok () (w.setRow g (cur.toList.take (o + i) ++ vs ++ cur.toList.drop (o + i + vs.length)).toArray)
  | [], i, cur, w, hg, _, _, _ => by
    simp only [storeCells, List.append_nil, List.length_nil, Nat.add_zero, List.take_append_drop, Array.toArray_toList]
    rw [setRow_self w g cur t fr hg]
    rfl
  | v :: rest, i, cur, w, hg, hl, hf, h1 => by
    have hi : o + i < cur.size := by simp at hl; omega
    have hcell : w.cell? ⟨g, o + i, none⟩ = some cur[o + i] := by simp [World.cell?, hg, hi]
    have hfro : w.frozen? ⟨g, o + i, none⟩ = false := by
      have := hf (o + i) hi
      cases hd : w.frozen? ⟨g, o + i, none⟩ with
      | false => rfl
      | true => simp [World.frozen?, hg] at hd; exact absurd hd this
    have hst : (store ((⟨g, o, none⟩ : Addr).add i) v).run P w = .ok () (w.setRow g (cur.setIfInBounds (o + i) v)) := by
      rw [Addr.add_lit, run_store P w _ v _ (h1 v (by simp)), hcell]
      simp [hfro, setCell_setRow w g (o + i) cur t fr v hg]
    have ih := run_store_row g o t fr rest (i + 1) (cur.setIfInBounds (o + i) v) (w.setRow g (cur.setIfInBounds (o + i) v)) (setRow_heap w g cur _ t _ hg) (by simp at hl ⊢; omega) (by simpa using hf) (fun x hx => h1 x (by simp [hx]))
    simp only [storeCells, Sem.run_bind, hst, Result.andThen_ok, ih, setRow_setRow]
    congr 3
    have e := list_seg_step cur.toList (o + i) v rest (by simp at hl ⊢; omega)
    simpa [Array.toList_setIfInBounds, Nat.add_assoc] using e

/-- a list with a piece in its middle laid anew -/
theorem seg_get {α : Type} (l m : List α) (o j : Nat) (ho : o + m.length ≤ l.length) : (l.take o ++ m ++ l.drop (o + m.length))[j]? = if o ≤ j ∧ j < o + m.length then m[j - o]? else l[j]? := by
  rw [List.append_assoc, List.getElem?_append, List.length_take, Nat.min_eq_left (by omega)]
  by_cases h1 : j < o
  · rw [if_pos h1, if_neg (by omega), List.getElem?_take, if_pos h1]
  · rw [if_neg h1, List.getElem?_append]
    by_cases h2 : j < o + m.length
    · rw [if_pos (by omega), if_pos (by omega)]
    · rw [if_neg (by omega), if_neg (by omega), List.getElem?_drop]
      congr 1; omega
theorem seg_len {α : Type} (l m : List α) (o : Nat) (ho : o + m.length ≤ l.length) : (l.take o ++ m ++ l.drop (o + m.length)).length = l.length := by
  simp only [List.length_append, List.length_take, List.length_drop]; omega

theorem putC_get (r vc : List PV) (f j : Nat) (hf : f + vc.length ≤ r.length) : (putC r f vc)[j]? = if f ≤ j ∧ j < f + vc.length then vc[j - f]? else r[j]? := seg_get r vc f j hf
theorem putC_len (r vc : List PV) (f : Nat) (hf : f + vc.length ≤ r.length) : (putC r f vc).length = r.length := seg_len r vc f hf

theorem two_rows {z i i' f j n : Nat} (hne : i ≠ i') (hf : f + n ≤ z) (hj : j < z) : ¬ (i * z + f ≤ i' * z + j ∧ i' * z + j < i * z + f + n) := by
  intro ⟨h1, h2⟩
  rcases Nat.lt_or_gt_of_ne hne with h3 | h3
  · have : (i + 1) * z ≤ i' * z := Nat.mul_le_mul_right _ h3
    rw [Nat.succ_mul] at this; omega
  · have : (i' + 1) * z ≤ i * z := Nat.mul_le_mul_right _ h3
    rw [Nat.succ_mul] at this; omega

/-- a store through an address -/
theorem store_sound (sm : Sim β h w) {t n : Nat} {p q : PV} {x y : Value} (hz : szT P t = some n) (hn : q.cells.length = n) (hone : q.cells.all oneC = true)
    (hw : wr h q.cells p = some h') (hx : RepH β h w p x) (hy : RepH β h w q y) :
    ∃ w', (Instr.storeAt t x y).run P w = .ok () w' ∧ Sim β h' w' ∧ Ext β h w β h' w' := by
  cases p with
  | ptr id i f =>
    simp only [wr] at hw
    split at hw
    · rename_i z rows hob
      split at hw
      · rename_i r hri
        split at hw
        · rename_i hfit
          simp only [Option.some.injEq] at hw
          subst hw
          obtain ⟨hyl, hy1⟩ := Rep.cells hone hy
          have hok := sm.ok id _ hob
          simp only [ObjOk] at hok
          simp only [RepH, Rep] at hx
          obtain ⟨hid, b, hb, rfl⟩ := hx
          rcases hok.2 with ⟨_, h2⟩ | ⟨b', c, e, fr, h5, h6, h7, h8, h9, h10⟩
          · subst h2; simp at hri
          · rw [hb] at h5; simp at h5; subst h5
            rw [hok.1]
            have hri' := (RepR_iff.1 h10) i r hri
            have hilt : i < rows.length := (List.getElem?_eq_some_iff.1 hri).1
            have hle : (i + 1) * z ≤ rows.length * z := Nat.mul_le_mul_right _ hilt
            rw [Nat.succ_mul] at hle
            have hvl := hyl.len
            have hst := run_store_row (P := P) b ((β id).o + i * z + f) e fr y.cells.toList 0 c w h6 (by rw [h7, ← hvl]; omega) h9 hy1
            simp only [Nat.add_zero] at hst
            refine ⟨w.setRow b (c.toList.take ((β id).o + i * z + f) ++ y.cells.toList ++ c.toList.drop ((β id).o + i * z + f + y.cells.toList.length)).toArray, ?_, ?_⟩
            · have hsz : y.cells.size = n := by rw [← hn, hvl, Array.length_toList]
              simp only [Instr.storeAt, Instr.sureAddr, Sem.run_bind, Sem.run_pure, Result.andThen_ok, storeVar, run_sizeOf hz, hsz, ne_eq, not_true_eq_false, if_false]
              exact hst
            · have hfit2 : (β id).o + i * z + f + y.cells.toList.length ≤ c.toList.length := by have e1 : c.toList.length = c.size := Array.length_toList; omega
              refine Sim.step sm id (.arr z (rows.set i (putC r f q.cells))) rfl rfl rfl (by simp) (by simp [Heap.set]) (fun _ _ => rfl) (by simp [Heap.set]) (sm.lt id (by rw [hob]; rfl)) (fun id' hne => .inr (by simp [Heap.set, hne])) (fun b' hb' => .inr ⟨id, by rw [hob]; rfl, hb', .inl rfl⟩) (fun b' _ hb' => setRow_other _ _ _ _ (fun hbe => hb' (by rw [hbe]; exact hb))) (fun m => ?_)
              simp only [ObjOk]
              refine ⟨hok.1, .inr ⟨b, _, e, fr, hb, setRow_heap w b c _ e fr h6, ?_, by simpa using h8, ?_, ?_⟩⟩
              · rw [← h7]; simp only [List.size_toArray]; rw [seg_len _ _ _ hfit2, Array.length_toList]
              · intro j hj; apply h9; simp only [List.size_toArray] at hj; rw [seg_len _ _ _ hfit2, Array.length_toList] at hj; exact hj
              · rw [RepR_iff]
                intro i' r' hr'
                rw [List.getElem?_set] at hr'
                have hcell : ∀ j, ((w.setRow b (c.toList.take ((β id).o + i * z + f) ++ y.cells.toList ++ c.toList.drop ((β id).o + i * z + f + y.cells.toList.length)).toArray).cell? ⟨b, j, none⟩) = if (β id).o + i * z + f ≤ j ∧ j < (β id).o + i * z + f + y.cells.toList.length then y.cells.toList[j - ((β id).o + i * z + f)]? else w.cell? ⟨b, j, none⟩ := by
                  intro j
                  rw [cell_setRow_same w b j c _ e fr h6, cell_of_row w b j c e fr h6]
                  rw [List.getElem?_toArray, seg_get _ _ _ _ hfit2]
                  simp
                split at hr'
                · rename_i hie
                  subst hie
                  simp at hr'
                  subst hr'
                  refine ⟨by rw [putC_len _ _ _ hfit]; exact hri'.1, ?_⟩
                  rw [RepS_iff]
                  intro j p' hp'
                  rw [putC_get _ _ _ _ hfit] at hp'
                  rw [hcell]
                  split at hp'
                  · rename_i hj
                    rw [if_pos (by rw [← hvl]; omega)]
                    obtain ⟨v, hv, hr⟩ := hyl.get hp'
                    refine ⟨v, ?_, hy1 v (List.mem_of_getElem? hv), Rep.mv m p' v hr⟩
                    rw [show (β id).o + i * z + j - ((β id).o + i * z + f) = j - f by omega]; exact hv
                  · rename_i hj
                    rw [if_neg (by rw [← hvl]; omega)]
                    obtain ⟨v, hv, hv1, hr⟩ := (RepS_iff.1 hri'.2) j p' hp'
                    exact ⟨v, hv, hv1, Rep.mv m p' v hr⟩
                · rename_i hie
                  have hri2 := (RepR_iff.1 h10) i' r' hr'
                  refine ⟨hri2.1, ?_⟩
                  rw [RepS_iff]
                  intro j p' hp'
                  have hjz : j < z := by rw [← hri2.1]; exact (List.getElem?_eq_some_iff.1 hp').1
                  have htr := two_rows (z := z) (f := f) (j := j) (n := q.cells.length) hie (by rw [← hri'.1]; exact hfit) hjz
                  rw [hcell, if_neg (by rw [← hvl]; omega)]
                  obtain ⟨v, hv, hv1, hr⟩ := (RepS_iff.1 hri2.2) j p' hp'
                  exact ⟨v, hv, hv1, Rep.mv m p' v hr⟩
        · simp at hw
      · simp at hw
    · simp at hw
  | _ => simp [wr] at hw

/-- what a slice shows, as the memory has it -/
theorem view_sound (sm : Sim β h w) {z : Nat} {p : PV} {x : Value} {rows : List (List PV)} (hv : view h p = some rows) (hzk : zOk h z p = true) (hx : RepH β h w p x) :
    ∃ aa cap, x = .slice aa rows.length cap ∧ rows.length ≤ cap ∧ (rows = [] ∨ ∃ b o, aa = some ⟨b, o, none⟩ ∧ RepR β h.next (Fz β h w) w z rows b o) := by
  unfold view at hv
  split at hv
  · rename_i z' rows'
    simp at hv; subst hv
    simp [zOk] at hzk; subst hzk
    simp only [RepH, Rep] at hx
    obtain ⟨aa, cap, rfl, h2, _, h3⟩ := hx
    exact ⟨aa, cap, rfl, h2, h3.imp id (fun ⟨b, o, _, h5, h6⟩ => ⟨b, o, h5, h6⟩)⟩
  · simp at hv; subst hv
    simp only [RepH, Rep] at hx
    obtain ⟨aa, rfl⟩ := hx
    exact ⟨aa, 0, rfl, Nat.le_refl _, .inl rfl⟩
  · simp at hv; subst hv
    simp only [RepH, Rep] at hx
    exact ⟨none, 0, hx, Nat.le_refl _, .inl rfl⟩
  · rename_i id off len
    split at hv
    · rename_i z' rows' hob
      split at hv
      · rename_i hle
        simp at hv; subst hv
        simp [zOk, hob] at hzk; subst hzk
        have hl : ((rows'.drop off).take len).length = len := by simp; omega
        simp only [RepH, Rep] at hx
        obtain ⟨hid, aa, cap, rfl, h2, h2', h3⟩ := hx
        refine ⟨aa, cap, by rw [hl], by rw [hl]; exact h2, ?_⟩
        rcases h3 with h3 | ⟨b, h4, h5, h6⟩
        · left; apply List.eq_nil_of_length_eq_zero; rw [hl]; omega
        · have hok := sm.ok id _ hob
          simp only [ObjOk] at hok
          rcases hok.2 with ⟨h7, h8⟩ | ⟨b', c, e, fr, g5, g6, g7, g8, g9, g10⟩
          · rw [h7] at h4; simp at h4
          · rw [h4] at g5; simp at g5; subst g5
            right
            refine ⟨b, _, h5, ?_⟩
            rw [hok.1]
            exact (g10.drop off).take len
      · simp at hv
    · simp at hv
  · simp at hv

theorem firstCells_sound {z : Nat} {rows : List (List PV)} {aa : Option Addr} {cap n : Nat} {F : Nat → Prop} (hz : ∀ r ∈ rows, r.length = z)
    (hx : rows = [] ∨ ∃ b o, aa = some ⟨b, o, none⟩ ∧ RepR β n F w z rows b o) :
    ∃ xs : List Value, (Builtin.firstCells z rows.length (.slice aa rows.length cap)).run P w = .ok xs.toArray w ∧ RepL β n F w rows.flatten xs ∧ (∀ v ∈ xs, v.oneCell' = true) ∧ xs.length = rows.length * z := by
  rcases hx with rfl | ⟨b, o, rfl, h2⟩
  · refine ⟨[], ?_, by simp [RepL], by simp, by simp⟩
    cases aa with
    | none => simp [Builtin.firstCells]
    | some aa => simp [Builtin.firstCells, loadCells, loadCellsFrom]
  · obtain ⟨xs, h3, h4, h5, h6⟩ := h2.vals
    refine ⟨xs, ?_, h4, h5, h3⟩
    exact run_firstCells_some w z rows.length ⟨b, o, none⟩ rows.length cap xs h3 (fun j v hv => by rw [Addr.add_lit]; exact h6 j v hv)

theorem RepR.lens {z b o n : Nat} {F : Nat → Prop} {rows : List (List PV)} (h : RepR β n F w z rows b o) : ∀ r ∈ rows, r.length = z := by
  intro r hr
  obtain ⟨i, hi⟩ := List.getElem?_of_mem hr
  exact ((RepR_iff.1 h) i r hi).1

/-- where an append finds room: the store into the same block -/
theorem append_room (sm : Sim β h w) {z id off len : Nat} {rows new : List (List PV)} {c : Array Value} {e : TypeId} {fr : Nat × Nat} {b cap : Nat} {ys : List Value} 
    (hob : h.obj id = some (.arr z rows)) (hle : off + len ≤ rows.length) (hb : (β id).b = some b) (h6 : w.heap[b]? = some (.cells c e fr)) (h7 : c.size = (β id).sz)
    (h9 : ∀ i, i < c.size → ¬ (fr.1 ≤ i ∧ i < fr.2)) (h10 : RepR β h.next (Fz β h w) w z rows b (β id).o) (hcap : (β id).o + (off + cap) * z ≤ (β id).sz) (hroom : len + new.length ≤ cap) (hcm : cap ≤ maxLen)
    (hnz : ∀ r ∈ new, r.length = z) (hyl : RepL β h.next (Fz β h w) w new.flatten ys) (hy1 : ∀ v ∈ ys, v.oneCell' = true) (hyn : ys.length = new.length * z) :
    ∃ w' β', (storeCells ⟨b, (β id).o + off * z + len * z, none⟩ ys).run P w = .ok () w' ∧ Sim β' ((h.kill id).new (.arr z ((rows.drop off).take len ++ new))) w' ∧
      Ext β h w β' ((h.kill id).new (.arr z ((rows.drop off).take len ++ new))) w' ∧
      RepH β' ((h.kill id).new (.arr z ((rows.drop off).take len ++ new))) w' (.own h.next 0 (len + new.length)) (.slice (some ⟨b, (β id).o + off * z, none⟩) (len + new.length) cap) := by
  have hlen : ((rows.drop off).take len).length = len := by simp; omega
  have hm1 : (off + cap) * z = off * z + cap * z := Nat.add_mul _ _ _
  have hm2 : (len + new.length) * z ≤ cap * z := Nat.mul_le_mul_right _ hroom
  rw [Nat.add_mul] at hm2
  have hfit : (β id).o + off * z + len * z + ys.length ≤ c.toList.length := by have e1 : c.toList.length = c.size := Array.length_toList; omega
  have hst := run_store_row (P := P) b ((β id).o + off * z + len * z) e fr ys 0 c w h6 (by simpa using hfit) h9 hy1
  simp only [Nat.add_zero] at hst
  have hid : id < h.next := sm.lt id (by rw [hob]; rfl)
  refine ⟨_, ⟨fun i => if i = h.next then ⟨some b, (β id).o + off * z, z, (β id).sz⟩ else β i, β.X⟩, hst, ?_⟩
  rw [← and_assoc]
  refine ⟨?_, ?_⟩
  · refine Sim.step sm h.next (.arr z ((rows.drop off).take len ++ new)) rfl rfl rfl (by simp) (by simp [Heap.new, Heap.kill]) (fun i hi => by simp; intro e; omega) (by simp [Heap.new, Heap.kill]) (by simp [Heap.new, Heap.kill]) (fun i hne => ?_) (fun b' hb' => .inr ⟨id, by rw [hob]; rfl, ?_, .inr ?_⟩) (fun b' _ hb' => setRow_other _ _ _ _ (fun hbe => hb' (by simp [hbe]))) (fun m => ?_)
    · simp only [Heap.new, Heap.kill, hne, if_false]
      by_cases hi : i = id
      · simp [hi]
      · simp [hi]
    · simp at hb'; subst hb'; exact hb
    · simp only [Heap.new, Heap.kill]; rw [if_neg (by omega)]; simp
    · simp only [ObjOk, if_true]
      refine ⟨trivial, .inr ⟨b, _, e, fr, rfl, setRow_heap w b c _ e fr h6, ?_, ?_, ?_, ?_⟩⟩
      · simp only [List.size_toArray]; rw [seg_len _ _ _ hfit, Array.length_toList, h7]
      · simp only [List.length_append, hlen]; rw [Nat.add_mul]; omega
      · intro j hj; apply h9; simp only [List.size_toArray] at hj; rw [seg_len _ _ _ hfit, Array.length_toList] at hj; exact hj
      · have hcell : ∀ j, ((w.setRow b (c.toList.take ((β id).o + off * z + len * z) ++ ys ++ c.toList.drop ((β id).o + off * z + len * z + ys.length)).toArray).cell? ⟨b, j, none⟩) = if (β id).o + off * z + len * z ≤ j ∧ j < (β id).o + off * z + len * z + ys.length then ys[j - ((β id).o + off * z + len * z)]? else w.cell? ⟨b, j, none⟩ := by
          intro j
          rw [cell_setRow_same w b j c _ e fr h6, cell_of_row w b j c e fr h6]
          rw [List.getElem?_toArray, seg_get _ _ _ _ hfit]
          simp
        have hold := (h10.drop off).take len
        have hnew : RepR ⟨fun i => if i = h.next then ⟨some b, (β id).o + off * z, z, (β id).sz⟩ else β i, β.X⟩ ((h.kill id).new (.arr z ((rows.drop off).take len ++ new))).next
            (Fz ⟨fun i => if i = h.next then ⟨some b, (β id).o + off * z, z, (β id).sz⟩ else β i, β.X⟩ ((h.kill id).new (.arr z ((rows.drop off).take len ++ new))) (w.setRow b (c.toList.take ((β id).o + off * z + len * z) ++ ys ++ c.toList.drop ((β id).o + off * z + len * z + ys.length)).toArray))
            (w.setRow b (c.toList.take ((β id).o + off * z + len * z) ++ ys ++ c.toList.drop ((β id).o + off * z + len * z + ys.length)).toArray) z new b ((β id).o + off * z + len * z) := by
          refine RepR.of_vals hnz (RepL.mv m _ _ hyl) hy1 (fun j v hv => ?_)
          have hj : j < ys.length := (List.getElem?_eq_some_iff.1 hv).1
          rw [hcell, if_pos (by omega)]
          rw [show (β id).o + off * z + len * z + j - ((β id).o + off * z + len * z) = j by omega]; exact hv
        rw [RepR_iff] at hold hnew ⊢
        intro i r hr
        rw [List.getElem?_append, hlen] at hr
        split at hr
        · rename_i hi
          have h1 := hold i r hr
          refine ⟨h1.1, ?_⟩
          rw [RepS_iff]
          intro j p hp
          have hjz : j < z := by rw [← h1.1]; exact (List.getElem?_eq_some_iff.1 hp).1
          have hi2 : (i + 1) * z ≤ len * z := Nat.mul_le_mul_right _ hi
          rw [Nat.succ_mul] at hi2
          rw [hcell, if_neg (by omega)]
          obtain ⟨v, hv, hv1, hr'⟩ := (RepS_iff.1 h1.2) j p hp
          exact ⟨v, hv, hv1, Rep.mv m p v hr'⟩
        · rename_i hi
          have h1 := hnew (i - len) r hr
          have he : (β id).o + off * z + len * z + (i - len) * z = (β id).o + off * z + i * z := by
            have : len * z + (i - len) * z = i * z := by rw [← Nat.add_mul]; congr 1; omega
            omega
          rw [he] at h1
          exact h1
  · simp only [RepH, Rep]
    refine ⟨by simp [Heap.new, Heap.kill], _, cap, rfl, hroom, hcm, .inr ⟨b, by simp, by simp, ?_⟩⟩
    simp only [if_true, Nat.zero_add]
    omega

theorem run_append_grows (w : World) (t ty e : TypeId) (i : TypeInfo) (z : Value) (ht : P.underlying t = some (.slice e)) (hi : P.info? e = some i) (hz : i.zero = some z)
    (ax ay : Option Addr) (sLen sCap n c : Nat) (olds news : List Value)
    (ho : (Builtin.firstCells i.size sLen (.slice ax sLen sCap)).run P w.drew = .ok olds.toArray w.drew)
    (hn : (Builtin.firstCells i.size n (.slice ay n c)).run P w.drew = .ok news.toArray w.drew)
    (hg : sCap < sLen + n) (h63 : ((sLen + n : Nat) : Int) ≤ 9223372036854775807) (hfit : Builtin.nextslicecap (sLen + n) sCap * i.bytes ≤ 281474976710656) :
    (Builtin.append_ #[t, t] ty #[.slice ax sLen sCap, .slice ay n c]).run P w =
      .ok (.slice (some ⟨w.heap.size, 0, none⟩) (sLen + n) (grownCap w (sLen + n) sCap e))
        (w.drew.alloc (.cells (olds ++ news ++ (Builtin.zeroCells z.cells (grownCap w (sLen + n) sCap e - (sLen + n))).toList).toArray e)) := by
  have hn' : ¬ (sLen + n ≤ sCap) := by omega
  have h63' : ¬ (9223372036854775807 < ((sLen : Int) + (n : Int))) := by omega
  have h48' : ¬ (281474976710656 < Builtin.nextslicecap (sLen + n) sCap * i.bytes) := by omega
  simp [Builtin.append_, run_underlying ht, sizeOf, typeInfo, zeroValue, hi, hz, Builtin.lenOf, hn', h63', h48', Question.forced, hn, ho, newRow, grownCap]
  congr 2
  apply Array.ext'
  simp

/-- append -/
theorem append_sound (sm : Sim β h w) {t : Nat} {zb : Nat × Nat} {p q r : PV} {x y : Value} (ty : TypeId) (hz : elT P t = some zb)
    (ha : app zb.1 zb.2 h p q = some (r, h')) (hx : RepH β h w p x) (hy : RepH β h w q y) :
    ∃ v w' β', (Builtin.append_ #[t, t] ty #[x, y]).run P w = .ok v w' ∧ Sim β' h' w' ∧ Ext β h w β' h' w' ∧ RepH β' h' w' r v := by
  obtain ⟨z, bytes⟩ := zb
  obtain ⟨e, i, zv, hu, hi, hsz, hby, hiz, hzl⟩ := elT_info hz
  simp only at hsz hby hzl
  unfold app at ha
  simp only at ha
  split at ha
  case isFalse => simp at ha
  rename_i hcond
  simp only [Bool.and_eq_true, decide_eq_true_eq] at hcond
  obtain ⟨⟨⟨hzp, hzq⟩, hzpos⟩, hbpos⟩ := hcond
  split at ha
  case h_2 => simp at ha
  rename_i new h1 old hvq hit
  split at ha
  case isFalse => simp at ha
  rename_i hbytes
  simp only [Option.some.injEq, Prod.mk.injEq] at ha
  obtain ⟨rfl, rfl⟩ := ha
  obtain ⟨aq, capq, rfl, hcapq, hq⟩ := view_sound sm hvq hzq hy
  have hvp : view h p = some old ∧ (h1 = h ∨ ∃ id, h1 = h.kill id) := by
    unfold isTail at hit
    split at hit
    · simp at hit; obtain ⟨rfl, rfl⟩ := hit; exact ⟨rfl, .inl rfl⟩
    · simp at hit; obtain ⟨rfl, rfl⟩ := hit; exact ⟨rfl, .inl rfl⟩
    · rename_i id off len
      split at hit
      · rename_i z' rows hob
        simp at hit
        obtain ⟨hle, rfl, rfl⟩ := hit
        exact ⟨by simp [view, hob, hle], .inr ⟨id, rfl⟩⟩
      · simp at hit
    · simp at hit
  obtain ⟨ap, capp, hxe, hcapp, hp⟩ := view_sound sm hvp.1 hzp hx
  have hnext : h1.next = h.next := by rcases hvp.2 with rfl | ⟨id, rfl⟩ <;> rfl
  have hmax : old.length + new.length ≤ 140737488355328 := Nat.le_trans (Nat.le_mul_of_pos_right _ hbpos) hbytes
  have hnz : ∀ r ∈ new, r.length = z := by
    rcases hq with rfl | ⟨b, o, _, h3⟩
    · simp
    · exact h3.lens
  have hoz : ∀ r ∈ old, r.length = z := by
    rcases hp with rfl | ⟨b, o, _, h3⟩
    · simp
    · exact h3.lens
  have hkill : Sim β h1 w ∧ Ext β h w β h1 w := by
    rcases hvp.2 with rfl | ⟨id, rfl⟩
    · exact ⟨sm, Ext.refl⟩
    · exact sm.kill id
  obtain ⟨ys, hyr, hyl, hy1, hyn⟩ := firstCells_sound (P := P) (w := w) (cap := capq) hnz hq
  by_cases hg : old.length + new.length ≤ capp
  · by_cases hc0 : capp = 0
    · -- nothing is there and nothing comes
      have ho : old = [] := List.eq_nil_of_length_eq_zero (by omega)
      have hn : new = [] := List.eq_nil_of_length_eq_zero (by omega)
      subst ho; subst hn; subst hc0
      obtain ⟨a1, a2⟩ := Sim.newNone hkill.1 z
      have hys : ys = [] := List.eq_nil_of_length_eq_zero (by simpa using hyn)
      subst hys
      refine ⟨.slice ap 0 0, w, _, ?_, by simpa using a1, by simpa using hkill.2.trans a2, ?_⟩
      · subst hxe
        simp only [List.length_nil] at hyr
        have hyr' : (Builtin.firstCells i.size 0 (.slice aq 0 capq)).run P w = .ok #[] w := by rw [hsz]; exact hyr
        cases ap <;> simp [Builtin.append_, run_underlying hu, sizeOf, typeInfo, hi, Builtin.lenOf, hyr', storeCells]
      · simp only [RepH, Rep, List.length_nil, Nat.add_zero, List.append_nil]
        refine ⟨by simp [Heap.new, hnext], ap, 0, rfl, Nat.le_refl _, Nat.zero_le _, .inl rfl⟩
    · -- there is room
      unfold isTail at hit
      split at hit
      · simp only [RepH, Rep] at hx
        obtain ⟨a0, rfl⟩ := hx
        simp at hxe; omega
      · simp only [RepH, Rep] at hx
        rw [hx] at hxe
        simp at hxe; omega
      · rename_i id off len
        split at hit
        · rename_i z' rows hob
          split at hit
          · rename_i hle
            simp at hit
            obtain ⟨rfl, rfl⟩ := hit
            have hz' : z' = z := by simpa [zOk, hob] using hzp
            subst hz'
            have hlen : ((rows.drop off).take len).length = len := by simp; omega
            simp only [RepH, Rep] at hx
            obtain ⟨hid, a1, cap1, rfl, h2, h2', h3⟩ := hx
            simp only [Value.slice.injEq] at hxe
            obtain ⟨rfl, _, rfl⟩ := hxe
            rcases h3 with h3 | ⟨b, h4, h5, h6⟩
            · exact absurd h3 hc0
            · subst h5
              have hok := sm.ok id _ hob
              simp only [ObjOk] at hok
              rcases hok.2 with ⟨h7, h8⟩ | ⟨b', c, e', fr, g5, g6, g7, g8, g9, g10⟩
              · rw [h7] at h4; simp at h4
              · rw [h4] at g5; simp at g5; subst g5
                rw [hok.1] at h6 ⊢
                rw [hlen] at hg hmax ⊢
                obtain ⟨w', β', q1, q2, q3, q4⟩ := append_room (P := P) sm hob hle h4 g6 g7 g9 g10 h6 hg h2' hnz hyl hy1 hyn
                refine ⟨_, w', β', ?_, q2, q3, q4⟩
                have hyr' : (Builtin.firstCells i.size new.length (.slice aq new.length capq)).run P w = .ok ys.toArray w := by rw [hsz]; exact hyr
                simp [Builtin.append_, run_underlying hu, sizeOf, typeInfo, hi, Builtin.lenOf, hyr', hg, Addr.add_lit]
                rw [hsz, q1]
                rfl
          · simp at hit
        · simp at hit
      · simp at hit
  · -- it grows
    obtain ⟨d1, d2⟩ := hkill.1.drew
    have hq' : new = [] ∨ ∃ b o, aq = some ⟨b, o, none⟩ ∧ RepR β h.next (Fz β h w) w.drew z new b o := by
      refine hq.imp id (fun ⟨b, o, q1, q2⟩ => ⟨b, o, q1, ?_⟩)
      exact RepR.mvb (sm.drew.2.mv) rfl z new o q2
    have hp' : old = [] ∨ ∃ b o, ap = some ⟨b, o, none⟩ ∧ RepR β h.next (Fz β h w) w.drew z old b o := by
      refine hp.imp id (fun ⟨b, o, q1, q2⟩ => ⟨b, o, q1, ?_⟩)
      exact RepR.mvb (sm.drew.2.mv) rfl z old o q2
    obtain ⟨ys', hyr', hyl', hy1', hyn'⟩ := firstCells_sound (P := P) (w := w.drew) (cap := capq) hnz hq'
    obtain ⟨os, hor, hol, ho1, hon⟩ := firstCells_sound (P := P) (w := w.drew) (cap := capp) hoz hp'
    have hrun := run_append_grows (P := P) w t ty e i zv hu hi hiz ap aq old.length capp new.length capq os ys' (by rw [hsz]; exact hor) (by rw [hsz]; exact hyr') (by omega) (by omega) (growslice_fits (by omega) (by rw [hby]; exact hbytes))
    have hge := grownCap_ge w (old.length + new.length) capp e
    have hgm : grownCap w (old.length + new.length) capp e ≤ maxLen := grownCap_le_maxLen w _ _ e (by simp only [maxLen]; omega)
    have hcs : (os ++ ys' ++ (Builtin.zeroCells zv.cells (grownCap w (old.length + new.length) capp e - (old.length + new.length))).toList).toArray.size = grownCap w (old.length + new.length) capp e * z := by
      simp only [List.size_toArray, List.length_append, hon, hyn', Array.length_toList, size_zeroCells, hzl, ← Nat.add_mul]
      congr 1; omega
    have hflat : RepL β h1.next (Fz β h1 w.drew) w.drew (old ++ new).flatten (os ++ ys') := by
      rw [List.flatten_append]
      exact RepL.mv ⟨by omega, fun _ _ _ => rfl, fun b hb => ⟨(hkill.2.fz b hb).1, rfl⟩⟩ _ _ (RepL.append hol hyl')
    have hmm := Nat.mul_le_mul_right z hge
    obtain ⟨a1, a2⟩ := Sim.newArr d1 z (old ++ new) (os ++ ys' ++ (Builtin.zeroCells zv.cells (grownCap w (old.length + new.length) capp e - (old.length + new.length))).toList).toArray e (os ++ ys')
      (fun r hr => (List.mem_append.1 hr).elim (hoz r) (hnz r)) hflat (fun v hv => (List.mem_append.1 hv).elim (ho1 v) (hy1' v))
      (fun j v hv => by
        rw [List.getElem?_toArray, List.getElem?_append_left (List.getElem?_eq_some_iff.1 hv).1]; exact hv)
      (by rw [hcs, List.length_append]; exact hmm)
    subst hxe
    refine ⟨_, _, _, hrun, a1, (hkill.2.trans d2).trans a2, ?_⟩
    simp only [RepH, Rep]
    refine ⟨by simp [Heap.new, hnext], _, _, rfl, hge, hgm, .inr ⟨w.heap.size, by simp [hnext], by simp [hnext], ?_⟩⟩
    simp only [hnext, if_true, Nat.zero_add]
    rw [hcs]
    exact Nat.le_refl _
end
end Go.AM
