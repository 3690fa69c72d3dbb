/- Literals, made slices, maps and plain operators. -/
import Derived.Test.YtdnpmfjfgamaeaaGreatAmEff3
set_option linter.unusedVariables false
set_option linter.unusedSimpArgs false
set_option linter.unusedSectionVars false
namespace Go.AM
section
variable {P : Program} {β β' : Env} {h h' : Heap} {w w' : World} {s : Slots} {a : Act}

theorem foldl_seg (off : Nat) : ∀ (l : List Value) (k : Nat) (cells : Array Value), off + k + l.length ≤ cells.size → ∀ j,
    ((l.zipIdx k).foldl (fun cs x => cs.setIfInBounds (off + x.2) x.1) cells)[j]? = if off + k ≤ j ∧ j < off + k + l.length then l[j - (off + k)]? else cells[j]?
  | [], k, cells, _, j => by simp; intro h1 h2; omega
  | v :: vs, k, cells, hl, j => by
    simp only [List.length_cons] at hl
    rw [List.zipIdx_cons, List.foldl_cons, foldl_seg off vs (k + 1) _ (by simp; omega)]
    by_cases h1 : off + (k + 1) ≤ j ∧ j < off + (k + 1) + vs.length
    · rw [if_pos h1, if_pos (by simp only [List.length_cons]; omega)]
      rw [show j - (off + k) = (j - (off + (k + 1))) + 1 by omega, List.getElem?_cons_succ]
    · rw [if_neg h1]
      by_cases h2 : j = off + k
      · subst h2
        rw [if_pos (by simp only [List.length_cons]; omega)]
        have : off + k < cells.size := by omega
        simp [this]
      · rw [if_neg (by simp only [List.length_cons]; omega)]
        simp [Array.getElem?_setIfInBounds_ne (Ne.symm h2)]
theorem foldl_seg_size (off : Nat) : ∀ (l : List Value) (k : Nat) (cells : Array Value), ((l.zipIdx k).foldl (fun cs x => cs.setIfInBounds (off + x.2) x.1) cells).size = cells.size
  | [], _, _ => rfl
  | v :: vs, k, cells => by rw [List.zipIdx_cons, List.foldl_cons, foldl_seg_size off vs]; simp
theorem fill_cell (off : Nat) (v : Value) (cells : Array Value) (hl : off + v.cells.size ≤ cells.size) (j : Nat) :
    (v.cells.zipIdx.foldl (fun cs x => cs.setIfInBounds (off + x.2) x.1) cells)[j]? = if off ≤ j ∧ j < off + v.cells.size then v.cells[j - off]? else cells[j]? := by
  have h1 := foldl_seg off v.cells.toList 0 cells (by simpa using hl) j
  rw [← Array.foldl_toList, Array.toList_zipIdx]
  simpa using h1
theorem fill_size (off : Nat) (v : Value) (cells : Array Value) : (v.cells.zipIdx.foldl (fun cs x => cs.setIfInBounds (off + x.2) x.1) cells).size = cells.size := by
  have h1 := foldl_seg_size off v.cells.toList 0 cells
  rw [← Array.foldl_toList, Array.toList_zipIdx]
  exact h1

/-- cells as they lie in an array -/
def CellsAt (β : Env) (n : Nat) (F : Nat → Prop) (w : World) (l : List PV) (c : Array Value) : Prop :=
  l.length = c.size ∧ ∀ (j : Nat) (p : PV), l[j]? = some p → ∃ v, c[j]? = some v ∧ v.oneCell' = true ∧ Rep β n F w p v
theorem CellsAt.of {n : Nat} {F : Nat → Prop} {l : List PV} {xs : List Value} (hr : RepL β n F w l xs) (h1 : ∀ v ∈ xs, v.oneCell' = true) : CellsAt β n F w l xs.toArray := by
  refine ⟨by simp [hr.len], fun j p hp => ?_⟩
  obtain ⟨v, hv, hvr⟩ := hr.get hp
  exact ⟨v, by simpa using hv, h1 v (List.mem_of_getElem? hv), hvr⟩
theorem CellsAt.agg {n : Nat} {F : Nat → Prop} {l : List PV} {c : Array Value} (hc : CellsAt β n F w l c) : Rep β n F w (.agg l) (.agg c) := by
  simp only [Rep]
  refine ⟨c.toList, by simp, ?_, ?_⟩
  · intro v hv
    obtain ⟨j, hj⟩ := List.getElem?_of_mem hv
    have hjl : j < l.length := by rw [hc.1]; simpa using (List.getElem?_eq_some_iff.1 hj).1
    obtain ⟨u, hu, h1, _⟩ := hc.2 j _ (List.getElem?_eq_getElem hjl)
    rw [Array.getElem?_toList] at hj
    rw [hj] at hu; simp at hu; subst hu; exact h1
  · rw [RepL_iff]
    refine ⟨by simp [hc.1], fun j p v hp hv => ?_⟩
    obtain ⟨u, hu, _, hr⟩ := hc.2 j p hp
    rw [Array.getElem?_toList] at hv
    rw [hv] at hu; simp at hu; subst hu; exact hr

theorem lay_sound (hs : ∀ t, RepH β h w (s t) (a.tmps.getD t undef)) (place place' : Nat → Option (Nat × Nat)) (hpl : ∀ i x, place i = some x → place' i = some x) :
    ∀ (parts : List (Nat × Operand)) (cells out : List PV) (c : Array Value), CellsAt β h.next (Fz β h w) w cells c → lay place cells (parts.map fun p => (p.1, pev s p.2)) = some out →
    ∃ c', Instr.fill place' c (parts.map fun p => (p.1, a.eval p.2)) = some c' ∧ CellsAt β h.next (Fz β h w) w out c'
  | [], cells, out, c, hc, hl => by simp [lay] at hl; subst hl; exact ⟨c, by simp [Instr.fill], hc⟩
  | (i, x) :: rest, cells, out, c, hc, hl => by
    simp only [List.map_cons, lay] at hl
    split at hl
    case h_1 => simp at hl
    rename_i off n hp
    split at hl
    case isFalse => simp at hl
    rename_i hcond
    obtain ⟨c1, c2, c3⟩ := hcond
    obtain ⟨hr, h1⟩ := Rep.cells c3 (pev_rep hs x)
    have hlen := hr.len
    have hlen2 : (a.eval x).cells.toList.length = (a.eval x).cells.size := Array.length_toList
    have hcsz := hc.1
    have hnew : CellsAt β h.next (Fz β h w) w (putC cells off (pev s x).cells) ((a.eval x).cells.zipIdx.foldl (fun cs y => cs.setIfInBounds (off + y.2) y.1) c) := by
      refine ⟨by rw [putC_len _ _ _ (by omega), fill_size]; exact hcsz, fun j p hp => ?_⟩
      rw [putC_get _ _ _ _ (by omega)] at hp
      rw [fill_cell off _ c (by omega)]
      split at hp
      · rename_i hj
        rw [if_pos (by omega)]
        obtain ⟨v, hv, hvr⟩ := hr.get hp
        rw [Array.getElem?_toList] at hv
        exact ⟨v, hv, h1 v (by rw [Array.mem_toList_iff]; exact Array.mem_of_getElem? hv), hvr⟩
      · rename_i hj
        rw [if_neg (by omega)]
        exact hc.2 j p hp
    obtain ⟨c', e1, e2⟩ := lay_sound hs place place' hpl rest _ out _ hnew hl
    refine ⟨c', ?_, e2⟩
    simp only [List.map_cons, Instr.fill, hpl i _ hp]
    rw [if_neg (by simp; omega)]
    exact e1

theorem zeroT_cells {n : Nat} {F : Nat → Prop} {t : Nat} {z : List Value} (hz : zeroT P t = some z) : ∃ i v, P.info? t = some i ∧ i.zero = some v ∧ v.cells.toList = z ∧ (∀ x ∈ z, x.oneCell' = true) ∧ CellsAt β n F w (z.map .sc) v.cells := by
  obtain ⟨i, v, h1, h2, h3, h4⟩ := zeroT_info hz
  refine ⟨i, v, h1, h2, h3, h4, ?_⟩
  have := CellsAt.of (β := β) (n := n) (F := F) (w := w) (RepL.sc z) h4
  rw [← h3] at this ⊢
  simpa using this

theorem build_struct_sound (hs : ∀ t, RepH β h w (s t) (a.tmps.getD t undef)) {t : Nat} {z : List Value} {places : List (Nat × Nat)} {parts : Array (Nat × Operand)} {cs : List PV} (hz : zeroT P t = some z) (hf : fieldsT P t = some places)
    (hl : lay (fun i => places[i]?) (z.map .sc) (parts.toList.map fun p => (p.1, pev s p.2)) = some cs) :
    ∃ v, (Instr.build t (parts.map fun p => (p.1, a.eval p.2))).run P w = .ok v w ∧ RepH β h w (.agg cs) v := by
  obtain ⟨i, v, h1, h2, h3, h4, h5⟩ := zeroT_cells (β := β) (n := h.next) (F := Fz β h w) (w := w) hz
  unfold fieldsT at hf
  split at hf
  case h_2 => simp at hf
  rename_i fs hu
  obtain ⟨c', e1, e2⟩ := lay_sound hs (fun i => places[i]?) (fun i => places.toArray[i]?) (fun i x hx => by simpa using hx) parts.toList _ cs v.cells h5 hl
  refine ⟨_, run_build w t _ c' ?_, e2.agg⟩
  simp only [Program.built, h1, hu, h2, hf]
  simpa using e1
theorem build_array_sound (hs : ∀ t, RepH β h w (s t) (a.tmps.getD t undef)) {t : Nat} {z : List Value} {na : Nat × Nat} {parts : Array (Nat × Operand)} {cs : List PV} (hz : zeroT P t = some z) (hf : arT P t = some na)
    (hl : lay (fun i => some (i * na.2, na.2)) (z.map .sc) (parts.toList.map fun p => (p.1, pev s p.2)) = some cs) :
    ∃ v, (Instr.build t (parts.map fun p => (p.1, a.eval p.2))).run P w = .ok v w ∧ RepH β h w (.agg cs) v := by
  obtain ⟨i, v, h1, h2, h3, h4, h5⟩ := zeroT_cells (β := β) (n := h.next) (F := Fz β h w) (w := w) hz
  obtain ⟨e, ie, hu, hie, hsz⟩ := arT_info hf
  obtain ⟨c', e1, e2⟩ := lay_sound hs (fun i => some (i * na.2, na.2)) (fun i => some (i * ie.size, ie.size)) (fun i x hx => by rw [hsz]; exact hx) parts.toList _ cs v.cells h5 hl
  refine ⟨_, run_build w t _ c' ?_, e2.agg⟩
  simp only [Program.built, h1, hu, h2, hie]
  simpa using e1

/-- zero rows -/
theorem zero_rows {n m z : Nat} {F : Nat → Prop} {zs : Array Value} (hz : zs.size = z) (h1 : ∀ x ∈ zs.toList, x.oneCell' = true) :
    RowsAt β m F w z (List.replicate n (zs.toList.map .sc)) ((Array.range (n * z)).map fun k => zs[k % zs.size]!) := by
  intro i r hr
  rw [List.getElem?_replicate] at hr
  split at hr
  case isFalse => simp at hr
  rename_i hi
  simp at hr
  subst hr
  refine ⟨by simp [hz], fun j p hp => ?_⟩
  rw [List.getElem?_map] at hp
  cases hj : zs.toList[j]? with
  | none => simp [hj] at hp
  | some v =>
    simp [hj] at hp
    subst hp
    have hjl : j < z := by rw [← hz]; simpa using (List.getElem?_eq_some_iff.1 hj).1
    have hlt : i * z + j < n * z := by
      have : (i + 1) * z ≤ n * z := Nat.mul_le_mul_right _ hi
      rw [Nat.succ_mul] at this; omega
    refine ⟨v, ?_, h1 v (List.mem_of_getElem? hj), by simp only [Rep]⟩
    have hmod : (i * z + j) % zs.size = j := by
      rw [hz, Nat.mul_comm, Nat.mul_add_mod, Nat.mod_eq_of_lt hjl]
    rw [Array.getElem?_toList] at hj
    simp [hlt, hmod, getElem!_def, hj]

/-- the rows of a literal -/
theorem rowsOf_sound (hs : ∀ t, RepH β h w (s t) (a.tmps.getD t undef)) (z : Nat) : ∀ (parts : List (Nat × Operand)) (rows out : List (List PV)) (c : Array Value),
    c.size = rows.length * z → RowsAt β h.next (Fz β h w) w z rows c →
    rowsOf z rows (parts.map fun p => (p.1, pev s p.2)) = some out →
    ∃ c', Instr.fill (fun i => some (i * z, z)) c (parts.map fun p => (p.1, a.eval p.2)) = some c' ∧ c'.size = out.length * z ∧ RowsAt β h.next (Fz β h w) w z out c' ∧ out.length = rows.length
  | [], rows, out, c, hsz, hc, hl => by simp [rowsOf] at hl; subst hl; exact ⟨c, by simp [Instr.fill], hsz, hc, rfl⟩
  | (i, x) :: rest, rows, out, c, hsz, hc, hl => by
    simp only [List.map_cons, rowsOf] at hl
    split at hl
    case isFalse => simp at hl
    rename_i hcond
    obtain ⟨c1, c2, c3⟩ := hcond
    obtain ⟨hr, h1⟩ := Rep.cells c3 (pev_rep hs x)
    have hlen := hr.len
    have hlen2 : (a.eval x).cells.toList.length = (a.eval x).cells.size := Array.length_toList
    have hle : (i + 1) * z ≤ rows.length * z := Nat.mul_le_mul_right _ c2
    rw [Nat.succ_mul] at hle
    have hnew : RowsAt β h.next (Fz β h w) w z (rows.set i (pev s x).cells) ((a.eval x).cells.zipIdx.foldl (fun cs y => cs.setIfInBounds (i * z + y.2) y.1) c) := by
      intro i' r' hr'
      rw [List.getElem?_set] at hr'
      split at hr'
      · rename_i hie
        subst hie
        simp at hr'
        obtain ⟨_, rfl⟩ := hr'
        refine ⟨c1, fun j p hp => ?_⟩
        have hj : j < (pev s x).cells.length := (List.getElem?_eq_some_iff.1 hp).1
        rw [fill_cell _ _ c (by omega), if_pos (by omega)]
        obtain ⟨v, hv, hvr⟩ := hr.get hp
        rw [Array.getElem?_toList] at hv
        refine ⟨v, by rw [show i * z + j - i * z = j by omega]; exact hv, h1 v (by rw [Array.mem_toList_iff]; exact Array.mem_of_getElem? hv), hvr⟩
      · rename_i hie
        obtain ⟨h2, h3⟩ := hc i' r' hr'
        refine ⟨h2, fun j p hp => ?_⟩
        have hj : j < z := by rw [← h2]; exact (List.getElem?_eq_some_iff.1 hp).1
        have htr := two_rows (z := z) (f := 0) (j := j) (n := z) hie (by omega) hj
        rw [fill_cell _ _ c (by omega), if_neg (by omega)]
        exact h3 j p hp
    obtain ⟨c', e1, e2, e3, e4⟩ := rowsOf_sound hs z rest _ out _ (by rw [fill_size, List.length_set]; exact hsz) hnew hl
    refine ⟨c', ?_, e2, e3, by rw [e4, List.length_set]⟩
    simp only [List.map_cons, Instr.fill]
    rw [if_neg (by simp; omega)]
    exact e1

theorem map_range_zero (f : Nat → Value) : (Array.range 0).map f = #[] := Array.eq_empty_of_size_eq_zero (by simp)
theorem buildSlice_sound (sm : Sim β h w) (hs : ∀ t, RepH β h w (s t) (a.tmps.getD t undef)) {t len : Nat} {zb : Nat × Nat} {z : List Value} {parts : Array (Nat × Operand)} {rows : List (List PV)} {ow : Bool} {r : PV}
    (hz : elT P t = some zb) (hzz : elZ P t = some z) (hc : z.length = zb.1 ∧ 0 < zb.1 ∧ len * zb.1 ≤ 16777216)
    (hl : rowsOf zb.1 (List.replicate len (z.map .sc)) (parts.toList.map fun p => (p.1, pev s p.2)) = some rows)
    (hr : (if len = 0 then some (PV.emp, h) else if ow then some (.own h.next 0 len, h.new (.arr zb.1 rows)) else some (.imm zb.1 rows, h)) = some (r, h')) :
    ∃ v w' β', (Instr.buildSlice t len (parts.map fun p => (p.1, a.eval p.2))).run P w = .ok v w' ∧ Sim β' h' w' ∧ Ext β h w β' h' w' ∧ RepH β' h' w' r v := by
  obtain ⟨e, i, zv, hu, hin, hsz, hby, hiz, hzl⟩ := elT_info hz
  obtain ⟨e', i', zv', hu', hin', hiz', hzl', hz1⟩ := elZ_info hzz
  rw [hu] at hu'; simp at hu'; subst hu'
  rw [hin] at hin'; simp at hin'; subst hin'
  rw [hiz] at hiz'; simp at hiz'; subst hiz'
  obtain ⟨c1, c2, c3⟩ := hc
  have hzz2 : zv.cells.size ≠ 0 := by omega
  have hzero := zero_rows (β := β) (m := h.next) (w := w) (n := len) (F := Fz β h w) (zs := zv.cells) hzl (by rw [hzl']; exact hz1)
  rw [hzl'] at hzero
  obtain ⟨c', e1, e2, e3, e4⟩ := rowsOf_sound hs zb.1 parts.toList (List.replicate len (z.map .sc)) rows _ (by simp) hzero hl
  rw [List.length_replicate] at e4
  have hrun : (Instr.buildSlice t len (parts.map fun p => (p.1, a.eval p.2))).run P w = .ok (.slice (some ⟨w.heap.size, 0, none⟩) len len) (w.alloc (.cells c' e)) := by
    have h24 : ¬ (16777216 < len * zb.1) := by omega
    by_cases h0 : len * zb.1 = 0
    · rw [h0, map_range_zero] at e1
      simp [Instr.buildSlice, run_underlying hu, sizeOf, typeInfo, hin, hsz, h0, map_range_zero, e1, newRow]
    · simp [Instr.buildSlice, run_underlying hu, sizeOf, typeInfo, hin, hsz, h24, h0, zeroValue, hiz, e1, newRow]
  refine ⟨.slice (some ⟨w.heap.size, 0, none⟩) len len, w.alloc (.cells c' e), ?_⟩
  by_cases hlen : len = 0
  · rw [if_pos hlen] at hr
    simp at hr
    obtain ⟨rfl, rfl⟩ := hr
    subst hlen
    obtain ⟨a1, a2, _⟩ := sm.junk (.cells c' e)
    exact ⟨β, hrun, a1, a2, by simp only [RepH, Rep]; exact ⟨_, rfl⟩⟩
  · rw [if_neg hlen] at hr
    cases ow with
    | true =>
      simp at hr
      obtain ⟨rfl, rfl⟩ := hr
      obtain ⟨a1, a2⟩ := Sim.newRows sm zb.1 rows c' e e3 (by omega)
      refine ⟨_, hrun, a1, a2, ?_⟩
      simp only [RepH, Rep]
      have hpos : 0 < zb.1 := c2
      have hm : len ≤ maxLen := by
        have : len * 1 ≤ len * zb.1 := Nat.mul_le_mul_left _ hpos
        simp only [maxLen]; omega
      refine ⟨by simp [Heap.new], _, len, rfl, Nat.le_refl _, hm, .inr ⟨w.heap.size, by simp, by simp, ?_⟩⟩
      simp only [if_true, Nat.zero_add]
      rw [e2, e4]; exact Nat.le_refl _
    | false =>
      simp at hr
      obtain ⟨rfl, rfl⟩ := hr
      obtain ⟨a1, a2, a3⟩ := sm.junk (.cells c' e)
      refine ⟨β, hrun, a1, a2, ?_⟩
      simp only [RepH, Rep]
      have hm : len ≤ maxLen := by
        have : len * 1 ≤ len * zb.1 := Nat.mul_le_mul_left _ c2
        simp only [maxLen]; omega
      refine ⟨_, len, by rw [e4], by omega, hm, .inr ⟨w.heap.size, 0, a3, rfl, ?_⟩⟩
      exact e3.rep a2.mv (heap_alloc_new w _)

theorem makeSlice_sound (sm : Sim β h w) {t : Nat} {zb : Nat × Nat} {z : List Value} {n m : Int} {k1 k2 : IntKind} (hz : elT P t = some zb) (hzz : elZ P t = some z)
    (hc : z.length = zb.1 ∧ 0 < zb.1 ∧ 0 ≤ n ∧ n ≤ m ∧ m ≤ 281474976710656 ∧ zb.2 * m ≤ 281474976710656) :
    ∃ v w' β', (Instr.makeSlice t (.int k1 n) (.int k2 m)).run P w = .ok v w' ∧ Sim β' (h.new (.arr zb.1 (List.replicate n.toNat (z.map .sc)))) w' ∧ Ext β h w β' (h.new (.arr zb.1 (List.replicate n.toNat (z.map .sc)))) w' ∧
      RepH β' (h.new (.arr zb.1 (List.replicate n.toNat (z.map .sc)))) w' (.own h.next 0 n.toNat) v := by
  obtain ⟨e, i, zv, hu, hin, hsz, hby, hiz, hzl⟩ := elT_info hz
  obtain ⟨e', i', zv', hu', hin', hiz', hzl', hz1⟩ := elZ_info hzz
  rw [hu] at hu'; simp at hu'; subst hu'
  rw [hin] at hin'; simp at hin'; subst hin'
  rw [hiz] at hiz'; simp at hiz'; subst hiz'
  obtain ⟨c1, c2, c3, c4, c5, c6⟩ := hc
  have hzz2 : zv.cells.size ≠ 0 := by omega
  have w1 : IntKind.i64.wrap n = n := IntWalk.i64_in _ (by omega)
  have w2 : IntKind.i64.wrap m = m := IntWalk.i64_in _ (by omega)
  have hrun : (Instr.makeSlice t (.int k1 n) (.int k2 m)).run P w = .ok (.slice (some ⟨w.heap.size, 0, none⟩) n.toNat m.toNat) (w.alloc (.cells ((Array.range (m.toNat * zb.1)).map fun k => zv.cells[k % zv.cells.size]!) e)) := by
    have e1 : ¬ (m < 0) := by omega
    have e2 : ¬ (281474976710656 < (i.bytes : Int) * m) := by rw [hby]; omega
    have e3 : ¬ (n < 0) := by omega
    have e4 : ¬ (m < n) := by omega
    by_cases h0 : m.toNat * zb.1 = 0
    · simp [Instr.makeSlice, run_underlying hu, asInt, asIntOf, typeInfo, hin, w1, w2, e1, e2, e3, e4, sizeOf, hsz, h0, newRow, map_range_zero]
    · simp [Instr.makeSlice, run_underlying hu, asInt, asIntOf, typeInfo, hin, w1, w2, e1, e2, e3, e4, sizeOf, hsz, h0, newRow, zeroValue, hiz]
  have hzero := zero_rows (β := β) (m := h.next) (w := w) (n := m.toNat) (F := Fz β h w) (zs := zv.cells) hzl (by rw [hzl']; exact hz1)
  rw [hzl'] at hzero
  have hmul : n.toNat * zb.1 ≤ m.toNat * zb.1 := Nat.mul_le_mul_right _ (by omega)
  obtain ⟨a1, a2⟩ := Sim.newRows sm zb.1 (List.replicate n.toNat (z.map .sc)) ((Array.range (m.toNat * zb.1)).map fun k => zv.cells[k % zv.cells.size]!) e (fun i r hr => by
    rw [List.getElem?_replicate] at hr
    split at hr
    case isFalse => simp at hr
    rename_i hi
    exact hzero i r (by rw [List.getElem?_replicate, if_pos (by omega)]; exact hr)) (by simpa using hmul)
  refine ⟨_, _, _, hrun, a1, a2, ?_⟩
  simp only [RepH, Rep]
  refine ⟨by simp [Heap.new], _, m.toNat, rfl, by omega, by simp only [maxLen]; omega, .inr ⟨w.heap.size, by simp, by simp, ?_⟩⟩
  simp

/-! Maps. -/
theorem key_same {kd : TypeDesc} {k k' : Value} {b : Bool} {kt : Nat} (hk : keyKind kt k = true) (hd : (match kd with | .bool => 1 | .int _ => 2 | .string => 3 | _ => 0) = kt) (he : keyEq k k' = some b) : Instr.sameNow kd k k' = some b := by
  cases k <;> cases k' <;> simp [keyEq] at he <;> simp [keyKind] at hk <;> subst hk <;> cases kd <;> simp at hd <;> simp [Instr.sameNow, he]
end
end Go.AM
