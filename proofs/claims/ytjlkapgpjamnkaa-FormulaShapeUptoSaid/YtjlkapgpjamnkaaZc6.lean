/- What the claim rests on, part 6: the abstract machine, contracts of the functions, plain data. -/
import Derived.Test.YtjlkapgpjamnkaaRows
import Derived.Lib.SlicesCompact
import Derived.Shelf.Slices.In.CompactS
import Derived.Shelf.Slices.In.SortAlone
import Derived.Shelf.Slices.In.SortNone
import Derived.Sort.EveryDepth
import Derived.Test.YtjlkapgpjamnkaaZc5
set_option linter.unusedVariables false
set_option linter.unusedSimpArgs false
set_option linter.unusedSectionVars false
namespace Go.AM
open Go.ChangeShapes Go.WideShapes
open Go.Proofs.Ytjlkapgpjamnkaa
mutual
def PV.bulk : PV → Nat
  | .sc (.string s) => s.size + 1
  | .imm _ rows => PV.bulkR rows + 1
  | _ => 1
def PV.bulkL : List PV → Nat
  | [] => 0
  | p :: ps => p.bulk + PV.bulkL ps
def PV.bulkR : List (List PV) → Nat
  | [] => 0
  | r :: rs => PV.bulkL r + PV.bulkR rs
end
theorem PV.bulkL_append : ∀ l m : List PV, PV.bulkL (l ++ m) = PV.bulkL l + PV.bulkL m
  | [], m => by simp [PV.bulkL]
  | p :: l, m => by simp only [List.cons_append, PV.bulkL, PV.bulkL_append l m]; omega
theorem List.getElem?_range_some {k i j : Nat} (h : (List.range k)[i]? = some j) : i < k ∧ i = j := by
  have h1 := (List.getElem?_eq_some_iff.1 h).1
  simp at h1
  rw [List.getElem?_range h1] at h
  simp at h
  exact ⟨h1, h⟩
section
variable {H : Type} {enc : TypeId × Value → H} {P : Program} {w : World} {sp : Nat → Bool} {held : Bool}
theorem bulkR_le : ∀ (rows : List (List PV)) (ds : List (DataW H)), rows.length = ds.length → (∀ (i : Nat) (r : List PV), rows[i]? = some r → ∃ d, ds[i]? = some d ∧ PV.bulkL r ≤ Rows.uptoBulk d) → PV.bulkR rows ≤ Rows.uptoBulkAll ds
  | [], _, _, _ => by simp [PV.bulkR]
  | r :: rows, [], h, _ => by simp at h
  | r :: rows, d :: ds, h, hb => by
    have h1 := bulkR_le rows ds (by simpa using h) fun i q hq => by simpa using hb (i + 1) q (by simpa using hq)
    obtain ⟨d', h2, h3⟩ := hb 0 r rfl
    simp at h2; subst h2
    simp only [PV.bulkR, Rows.uptoBulkAll]; omega
theorem parts_rep5 {c : Nat} {cs : List Value} : (l : List (Nat × TypeId)) → (ds : List (DataW H)) → (o : Nat) → inRow P cs.length o l = true →
    (∀ (i : Nat) (p : Nat × TypeId), l[i]? = some p → ∃ d, ds[i]? = some d ∧ ∃ ps, Arg P c p.2 ps ∧ RA w ps ((cs.drop p.1).take (P.cellsOf p.2)) ∧ PV.bulkL ps ≤ Rows.uptoBulk d) →
    ∃ ps, RA w ps (cs.drop o) ∧ (∀ p ∈ l, Arg P c p.2 ((ps.drop (p.1 - o)).take (P.cellsOf p.2))) ∧ PV.bulkL ps ≤ Rows.uptoBulkAll ds
  | [], ds, o, h, _ => by
    simp [inRow] at h
    refine ⟨[], ⟨?_, fun β n => ?_⟩, by simp, by simp [PV.bulkL]⟩
    · rw [List.drop_of_length_le (by omega)]; simp
    · rw [List.drop_of_length_le (by omega)]; simp [RepL]
  | p :: l, [], o, h, hp => by
    obtain ⟨d, hd, _⟩ := hp 0 p rfl
    simp at hd
  | p :: l, d :: ds, o, h, hp => by
    have hle := (inRow_le (p :: l) o h).2 p (by simp)
    simp only [inRow, Bool.and_eq_true, beq_iff_eq] at h
    obtain ⟨ps, h1, h2, h20⟩ := parts_rep5 l ds _ h.2 (fun i q hq => by simpa using hp (i + 1) q (by simpa using hq))
    obtain ⟨d', hd, ps0, h3, h4, h40⟩ := hp 0 p rfl
    simp at hd; subst hd
    have hl2 := (inRow_le l _ h.2).2
    have e0 : p.1 = o := h.1
    have l0 : ps0.length = P.cellsOf p.2 := by rw [h4.len, List.length_take, List.length_drop]; omega
    refine ⟨ps0 ++ ps, ?_, fun q hq => ?_, by rw [PV.bulkL_append]; simp only [Rows.uptoBulkAll]; omega⟩
    · have : cs.drop o = (cs.drop p.1).take (P.cellsOf p.2) ++ cs.drop (o + P.cellsOf p.2) := by
        rw [e0, ← List.drop_drop, List.take_append_drop]
      rw [this]
      exact h4.append h1
    · rcases List.mem_cons.1 hq with rfl | hq
      · rw [e0, Nat.sub_self, List.drop_zero, List.take_append_of_le_length (by omega), List.take_of_length_le (by omega)]
        exact h3
      · have h5 := hl2 q hq
        have : q.1 - o = ps0.length + (q.1 - (o + P.cellsOf p.2)) := by omega
        rw [this, ← List.drop_drop, List.drop_left]
        exact h2 q hq
theorem arg_rec5 {Ts : List TypeId} (hT : covC P Ts = true) : ∀ (fuel : Nat) (t : TypeId), Ts.contains t = true → ∀ (cs : List Value) (x : DataW H × List MemPlace), DataW.trod enc P w 0 sp held fuel t cs = some x → (∀ n ∈ x.1.weights P t, n ≤ reachBytes) →
    ∃ ps, Arg P fuel t ps ∧ RA w ps cs ∧ PV.bulkL ps ≤ Rows.uptoBulk x.1
  | 0, _, _, _, _, hx, _ => by simp [DataW.trod] at hx
  | c + 1, t, ht, cs, x, hx, hw => by
    have h := List.all_eq_true.1 hT t (by simpa using ht)
    split at h
    · rename_i hu
      obtain ⟨b, rfl, rfl⟩ := DataW.trod_bool hu hx
      refine ⟨[.sc (.bool b)], ?_, sc_RA rfl, by simp [PV.bulkL, PV.bulk, Rows.uptoBulk]⟩
      unfold Arg; rw [hu]; exact ⟨b, rfl⟩
    · rename_i k hu
      obtain ⟨n, rfl, rfl, hwf⟩ := DataW.trod_int hu hx
      refine ⟨[.sc (.int k n)], ?_, sc_RA rfl, by simp [PV.bulkL, PV.bulk, Rows.uptoBulk]⟩
      unfold Arg; rw [hu]; exact ⟨n, hwf, rfl⟩
    · rename_i hu
      obtain ⟨s, rfl, rfl, hs⟩ := DataW.trod_string hu hx
      refine ⟨[.sc (.string s)], ?_, sc_RA rfl, by have e : s.data.toList.length = s.size := by { rw [Array.length_toList]; try rfl }; simp only [PV.bulkL, PV.bulk, Rows.uptoBulk]; omega⟩
      unfold Arg; rw [hu]
      refine ⟨s, ?_, rfl⟩
      have := hw s.data.toList.length (by simp [DataW.weights])
      simpa using this
    · rename_i e hu
      simp only [Bool.and_eq_true, decide_eq_true_eq] at h
      obtain ⟨hpos, hcov⟩ := h
      rcases DataW.trod_slice hu hx with ⟨rfl, rfl⟩ | ⟨a, len, cap, elems, rest, n, hfu, rfl, rfl, hb, hl, hm, hlen, hel, hsp, hns⟩
      · refine ⟨[.imm (P.cellsOf e) []], ?_, ⟨fun v hv => ?_, fun β n => ?_⟩, by simp [PV.bulkL, PV.bulk, PV.bulkR, Rows.uptoBulk]⟩
        · unfold Arg; rw [hu]; exact ⟨[], rfl, by simp, by simp, by simp⟩
        · simp at hv; subst hv; rfl
        · simp only [RepL, Rep]
          exact ⟨⟨none, 0, rfl, Nat.le_refl _, Nat.zero_le _, .inl (by trivial)⟩, trivial⟩
      · obtain rfl : c = n := by omega
        have each : ∀ i, i < len → ∃ r : List PV, (r.length = P.cellsOf e ∧ Arg P c e r ∧ ∃ d, (elems.map (·.1))[i]? = some d ∧ PV.bulkL r ≤ Rows.uptoBulk d) ∧ ∃ ci, RA w r ci ∧ ci.length = P.cellsOf e ∧ ∀ j, j < P.cellsOf e → w.cell? ((a.add (i * P.cellsOf e)).add j) = ci[j]? := by
          intro i hi
          have h1 := hel i hi
          have h2 : elems[i]? = some (elems[i]'(by omega)) := List.getElem?_eq_getElem _
          rw [h2, Option.bind_eq_some_iff] at h1
          obtain ⟨ci, h3, h4⟩ := h1
          obtain ⟨_, h5, h6⟩ := World.cells?_some h3
          obtain ⟨r, h7, h8, h80⟩ := arg_rec5 hT c e hcov ci _ h4 (fun m hm => hw m (by
            simp only [DataW.weights, hu, List.mem_cons, List.mem_append]
            exact .inr (.inl (weightsAll_mem (i := i) (by rw [List.getElem?_map, h2]; try rfl) hm))))
          exact ⟨r, ⟨by rw [h8.len, h5], h7, _, by rw [List.getElem?_map, h2]; try rfl, h80⟩, ci, h8, h5, h6⟩
        obtain ⟨rows, hrl, hrows⟩ := exists_list len each
        refine ⟨[.imm (P.cellsOf e) rows], ?_, ⟨fun v hv => ?_, fun β m => ?_⟩, ?_⟩
        · unfold Arg; rw [hu]
          refine ⟨rows, rfl, ?_, by omega, fun r hr => ?_⟩
          · have := hw ((elems.map (·.1)).length * P.bytesOf e + (rest.map (·.1)).length * P.bytesOf e) (by
              simp only [DataW.weights, hu, List.mem_cons, Nat.add_mul, true_or])
            have h9 : rows.length = (elems.map (·.1)).length := by simp [hrl, hlen]
            rw [h9]
            exact Nat.le_trans (Nat.le_add_right _ _) this
          · obtain ⟨i, hi⟩ := List.getElem?_of_mem hr
            exact ⟨(hrows i r hi).1.1, (hrows i r hi).1.2.1⟩
        · simp at hv; subst hv; rfl
        · simp only [RepL, Rep]
          refine ⟨⟨some a, cap, by rw [hrl], by omega, hm, ?_⟩, trivial⟩
          by_cases h0 : len = 0
          · left; exact List.length_eq_zero_iff.1 (by omega)
          · right
            obtain ⟨_, _, c0, _, hc0, hcell0⟩ := each 0 (by omega)
            have h10 := hcell0 0 hpos
            rw [List.getElem?_eq_getElem (by omega)] at h10
            simp only [Nat.zero_mul, Addr.add, if_true] at h10
            have hs : a.spot = none := by
              unfold World.cell? at h10
              split at h10
              · split at h10
                · simp at h10
                · rename_i hsp; simpa using hsp
              · simp at h10
            have hblk : a.block < w.heap.size := by
              unfold World.cell? at h10
              split at h10
              · rename_i hh; exact (Array.getElem?_eq_some_iff.1 hh).1
              · simp at h10
            refine ⟨a.block, a.off, hblk, by cases a; simp only at hs; subst hs; rfl, ?_⟩
            rw [RepR_iff]
            intro i r hr
            obtain ⟨⟨g1, _⟩, ci, g2, g3, g4⟩ := hrows i r hr
            refine ⟨g1, ?_⟩
            rw [RepS_iff]
            intro j p hp
            obtain ⟨v, hv, hrep⟩ := (g2.2 β m).get hp
            have hj : j < P.cellsOf e := by rw [← g3]; exact (List.getElem?_eq_some_iff.1 hv).1
            refine ⟨v, ?_, g2.1 v (List.mem_of_getElem? hv), hrep⟩
            rw [← hv, ← g4 j hj]
            congr 1
            cases a
            simp only at hs; subst hs
            simp only [Addr.add]
            split <;> split <;> simp_all <;> omega
        · have hb5 := bulkR_le rows (elems.map (·.1)) (by simp [hrl, hlen]) fun i r hr => (hrows i r hr).1.2.2
          simp only [PV.bulkL, PV.bulk, Rows.uptoBulk]
          omega
    · rename_i fs hu
      simp only [Bool.and_eq_true, List.all_eq_true] at h
      obtain ⟨xs, n, hfu, rfl, hcl, hxl, hp⟩ := DataW.trod_struct hu hx
      obtain rfl : c = n := by omega
      have hpt : partsT P t = fs.toList.map fun f => (f.offset, f.type) := by unfold partsT; rw [hu]
      obtain ⟨ps, h1, h2, h30⟩ := parts_rep5 (w := w) (c := c) (cs := cs) (partsT P t) (xs.map (·.1)) 0 (by rw [hcl]; exact h.1) (fun i p hi => by
        have hcv := h.2 p (List.mem_of_getElem? hi)
        rw [hpt] at hi
        rw [List.getElem?_map, Option.map_eq_some_iff] at hi
        obtain ⟨f, hf, rfl⟩ := hi
        have hf' : fs[i]? = some f := by simpa using hf
        have hi' : i < xs.length := by
          rw [hxl]
          exact (Array.getElem?_eq_some_iff.1 hf').1
        have h3 := hp i f hf'
        rw [List.getElem?_eq_getElem hi'] at h3
        exact ⟨xs[i].1, by rw [List.getElem?_map, List.getElem?_eq_getElem hi']; try rfl, arg_rec5 hT c f.type hcv _ _ h3 (fun m hm => hw m (by
          simp only [DataW.weights, hu]
          exact DataW.weights_mem_each (j := i) (t := f.type) (d := xs[i].1) (by rw [List.getElem?_map, hf]; try rfl) (by rw [List.getElem?_map, List.getElem?_eq_getElem hi']; try rfl) m hm))⟩)
      refine ⟨ps, ?_, by simpa using h1, by simp only [Rows.uptoBulk]; omega⟩
      unfold Arg; rw [hu]
      exact ⟨by rw [h1.len, List.drop_zero, hcl], fun p hpm => by simpa using h2 p hpm⟩
    · rename_i k e hu
      simp only [Bool.and_eq_true, List.all_eq_true] at h
      obtain ⟨xs, n, hfu, rfl, hcl, hxl, hp⟩ := DataW.trod_array hu hx
      obtain rfl : c = n := by omega
      have hpt : partsT P t = (List.range k).map fun i => (i * P.cellsOf e, e) := by unfold partsT; rw [hu]
      obtain ⟨ps, h1, h2, h30⟩ := parts_rep5 (w := w) (c := c) (cs := cs) (partsT P t) (xs.map (·.1)) 0 (by rw [hcl]; exact h.1) (fun i p hi => by
        have hcv := h.2 p (List.mem_of_getElem? hi)
        rw [hpt, List.getElem?_map, Option.map_eq_some_iff] at hi
        obtain ⟨j, hj, rfl⟩ := hi
        obtain ⟨hjk, rfl⟩ := List.getElem?_range_some hj
        have hi' : i < xs.length := by rw [hxl]; exact hjk
        have h3 := hp i hjk
        rw [List.getElem?_eq_getElem hi'] at h3
        exact ⟨xs[i].1, by rw [List.getElem?_map, List.getElem?_eq_getElem hi']; try rfl, arg_rec5 hT c e hcv _ _ h3 (fun m hm => hw m (by
          simp only [DataW.weights, hu]
          exact weightsAll_mem (i := i) (d := xs[i].1) (by rw [List.getElem?_map, List.getElem?_eq_getElem hi']; try rfl) hm))⟩)
      refine ⟨ps, ?_, by simpa using h1, by simp only [Rows.uptoBulk]; omega⟩
      unfold Arg; rw [hu]
      exact ⟨by rw [h1.len, List.drop_zero, hcl], fun p hpm => by simpa using h2 p hpm⟩
    · simp at h
theorem arg_value5 {Ts : List TypeId} (hT : covC P Ts = true) {t : TypeId} (ht : Ts.contains t = true) {fs : Array Field} (hu : P.underlying t = some (.struct fs)) {v : Value} {d : DataW H} {pl : List MemPlace}
    (h : DataW.Trod enc P w 0 sp held t v d pl) (hv : ∃ base, Value.okWide P w .any base t v) (hw : ∀ n ∈ d.weights P t, n ≤ reachBytes) :
    ∃ c ps, Arg P c t ps ∧ (∀ β n, Rep β n (fun b => b < w.heap.size) w (.agg ps) v) ∧ PV.bulkL ps ≤ Rows.uptoBulk d := by
  obtain ⟨fuel, hf⟩ := h
  obtain ⟨ps, h1, h2, h3⟩ := arg_rec5 hT fuel t ht _ _ hf hw
  obtain ⟨base, hv⟩ := hv
  unfold Value.okWide at hv
  simp only [hu] at hv
  obtain ⟨cs, rfl, _⟩ := hv
  refine ⟨fuel, ps, h1, fun β n => ?_, h3⟩
  simp only [Rep]
  exact ⟨cs.toList, by simp, h2.1, h2.2 β n⟩
end
end Go.AM
namespace Go.AM
theorem bulkR_strs : ∀ l : List ByteArray, l.length ≤ PV.bulkR (strRows l)
 | [] => by simp
 | s :: l => by
  have := bulkR_strs l
  simp only [strRows, List.map_cons, PV.bulkR, PV.bulkL, PV.bulk, List.length_cons] at this ⊢
  omega
mutual
theorem Ex.small_bulk : ∀ (e : Ex), PV.bulkL e.cells ≤ 1048576 → e.small
 | .mk op name n args kids, h => by
  simp only [Ex.cells, PV.bulkL, PV.bulk] at h
  simp only [Ex.small]
  have := bulkR_strs args
  exact ⟨by omega, Ex.smalls_bulk kids (by omega)⟩
theorem Ex.smalls_bulk : ∀ (l : List Ex), PV.bulkR (Ex.rows l) ≤ 1048576 → Ex.smalls l
 | [], _ => by simp [Ex.smalls]
 | k :: ks, h => by
  simp only [Ex.rows, PV.bulkR] at h
  simp only [Ex.smalls]
  exact ⟨Ex.small_bulk k (by omega), Ex.smalls_bulk ks (by omega)⟩
end
end Go.AM
namespace Go.Proofs.Ytjlkapgpjamnkaa
open Go.AM
end Go.Proofs.Ytjlkapgpjamnkaa
namespace Go.AM
theorem bulkR_pms : ∀ l : List Pm, 2 * l.length ≤ PV.bulkR (pmRows l)
 | [] => by simp
 | s :: l => by
  have := bulkR_pms l
  simp only [pmRows, pmRow, List.map_cons, PV.bulkR, PV.bulkL, PV.bulk, List.length_cons] at this ⊢
  omega
theorem bulkR_fms : ∀ l : List Fm, l.length ≤ PV.bulkR (Fm.rows l)
 | [] => by simp
 | s :: l => by
  have := bulkR_fms l
  cases s
  simp only [Fm.rows, Fm.cells, PV.bulkR, PV.bulkL, PV.bulk, List.length_cons] at this ⊢
  omega
mutual
theorem Fm.small_bulk : ∀ (f : Fm), PV.bulkL f.cells ≤ 1048576 → f.small
 | .mk op name args params exprs kids, h => by
  simp only [Fm.cells, PV.bulkL, PV.bulk] at h
  simp only [Fm.small]
  have := bulkR_strs args
  have := bulkR_pms params
  have := bulkR_fms kids
  exact ⟨by omega, by omega, Ex.smalls_bulk exprs (by omega), by omega, Fm.smalls_bulk kids (by omega)⟩
theorem Fm.smalls_bulk : ∀ (l : List Fm), PV.bulkR (Fm.rows l) ≤ 1048576 → Fm.smalls l
 | [], _ => by simp [Fm.smalls]
 | k :: ks, h => by
  simp only [Fm.rows, PV.bulkR] at h
  simp only [Fm.smalls]
  exact ⟨Fm.small_bulk k (by omega), Fm.smalls_bulk ks (by omega)⟩
end
end Go.AM
namespace Go.Proofs.Ytjlkapgpjamnkaa
open Go.AM
end Go.Proofs.Ytjlkapgpjamnkaa
namespace Go.Proofs.Ytjlkapgpjamnkaa
open Go.AM
theorem shapedF_kid {op name : ByteArray} {args : List ByteArray} {params : List Pm} {exprs : List Ex} {kids : List Fm} (h : shapedF (.mk op name args params exprs kids) = true) : (∀ e ∈ exprs, shapedE e = true) ∧ ∀ k ∈ kids, shapedF k = true := by
 simp only [shapedF, Bool.and_eq_true] at h
 exact ⟨List.all_eq_true.1 h.1.2, shapedFs_iff.1 h.2⟩
end Go.Proofs.Ytjlkapgpjamnkaa
namespace Go.Proofs.Ytjlkapgpjamnkaa
open Go.AM
set_option maxHeartbeats 4000000
set_option maxRecDepth 20000
theorem bulk_memF : ∀ {l : List Fm} {k : Fm}, k ∈ l → PV.bulkL k.cells ≤ PV.bulkR (Fm.rows l)
 | [], _, h => by simp at h
 | x :: l, k, h => by
  simp only [Fm.rows, PV.bulkR]
  rcases List.mem_cons.1 h with rfl | h
  ·omega
  ·have := bulk_memF h; omega
theorem bulkR_exs : ∀ l : List Ex, l.length ≤ PV.bulkR (Ex.rows l)
 | [] => by simp
 | s :: l => by
  have := bulkR_exs l
  cases s
  simp only [Ex.rows, Ex.cells, PV.bulkR, PV.bulkL, PV.bulk, List.length_cons] at this ⊢
  omega
theorem fmRows_set (l : List Fm) (k : Nat) (e : Fm) : (Fm.rows l).set k e.cells = Fm.rows (l.set k e) := by simp [Fm.rows_map, List.map_set]
theorem bindF_c : ∀ f : Fm, f.small → shapedF f = true → ∀ {bound : List ByteArray} {T : PV} {to : ByteArray → Option ByteArray}, bound.length + PV.bulkL f.cells ≤ 1099511627776 → ∀ {h : Heap}, MapAt h T to →
  PCall Try.prog 82 [.agg f.cells, T, .imm 1 (strRows bound)] h fun r h' => r = .agg (bindFm to f bound).cells ∧ h' = h := by
 refine Fm.ind ?_
 intro op name args params exprs kids ih hsm hsh bound T to hb h hT
 simp only [Fm.small] at hsm
 obtain ⟨hal, hpl, hes, hkl, hks⟩ := hsm
 rw [Ex.smalls_iff] at hes
 rw [Fm.smalls_iff] at hks
 have hbk := hb
 simp only [Fm.cells, PV.bulkL, PV.bulk] at hbk
 obtain ⟨hse, hsk⟩ := shapedF_kid hsh
 have hkb : ∀ k ∈ kids, PV.bulkL k.cells ≤ PV.bulkR (Fm.rows kids) := fun k hk => bulk_memF hk
 have hel : exprs.length ≤ 1099511627776 := Nat.le_trans (bulkR_exs exprs) (by omega)
 have hpb := bulkR_pms params
 have hlE := Ex.rows_len exprs
 have hlP := pmRows_len params
 have hlK := Fm.rows_len kids
 have hbb : bound.length ≤ bigN := by unfold bigN; omega
 have hb2 : ∀ k ∈ kids, (bound ++ params.map Pm.name).length + PV.bulkL k.cells ≤ 1099511627776 := fun k hk => by
  have := hkb k hk
  simp only [List.length_append, List.length_map]; omega
 refine PCall.frz Ty.hb_82 ?_
 have hrp := fun {H : Heap} (hg : Grow h H) => replaced_c (l := args) (bound := bound) hal hbb (hT.grow hg)
 have hB : bindFm to (.mk op name args params exprs kids) bound = .mk op name (args.map (replS to bound)) params (exprs.map (bindEx to bound)) (kids.map (bindFm to · (bound ++ params.map Pm.name))) := by simp only [bindFm, bindExs_map, bindFms_map]
 rw [hB]
 clear hB
 generalize args.map (replS to bound) = args2 at hrp
 simp only [Fm.cells]
 refine pcall_body (ow := fun t => t == 3) (wf := fun f => f == 127 || f == 128) Ty.mixed Try.func82 rfl Ty.hb_82 (by rw [Try.ntmps82]; simp) ?_
 rw [Try.ntmps82, Try.results82]
 repeat' (first | refine a_seq fun K hK => ?_ | (refine a_regionS ?_; simp (maxSteps := 2000000) only [Ty.w, simprocAttr, nsucc]) | (refine hK _ _ ?_; clear hK; try simp only [pst0, simprocAttr]))
 refine owp_useQ (hrp (((Grow.refl h).new _).new _)) (by (try simp only [Ty.w, simprocAttr, nsucc]); try rfl) ?_; simp (maxSteps := 2000000) only [Ty.w, simprocAttr, nsucc]
 repeat' (first | (with_reducible refine a_hold 2 ?_) | refine a_seq fun K hK => ?_ | (refine hK _ _ ?_; clear hK; try simp only [pst0, simprocAttr]))
 refine a_gen (fun S H => S 1 = T ∧ S 2 = .imm 1 (strRows bound) ∧ S 3 = .ptr h.next 0 0 ∧ S 6 = .ptr (h.next + 1) 0 0 ∧ Grow h H ∧ h.next + 2 ≤ H.next ∧
  H.obj h.next = some (.arr 6 [[sPV op, sPV name, .imm 1 (strRows args2), .imm 2 (pmRows params), .imm 5 (Ex.rows exprs), .imm 6 (Fm.rows kids)]]) ∧
  H.obj (h.next + 1) = some (.arr 6 [[.sc (.string ⟨#[]⟩), .sc (.string ⟨#[]⟩), .sc (.slice none 0 0), .sc (.slice none 0 0), .sc (.slice none 0 0), .sc (.slice none 0 0)]])) ?_ ?_
 ·simp only [Ty.w, simprocAttr]
  refine ⟨(((Grow.refl h).new _).new _).set (Nat.le_refl _) _, ?_⟩
  simp [Heap.new, Heap.set]
 rintro S H ⟨g1, g2, g3, g6, gH, nH, k0, k1⟩
 obtain ⟨vE, HE, cE, gE, -, tE⟩ := cloneE_d hel H
 obtain ⟨vF, HF, cF, gF, -, tF⟩ := cloneF_d (l := kids) (by omega) HE
 have k0E : HE.obj h.next = some (.arr 6 [[sPV op, sPV name, .imm 1 (strRows args2), .imm 2 (pmRows params), .imm 5 (Ex.rows exprs), .imm 6 (Fm.rows kids)]]) := by rw [gE.old _ (by omega)]; exact k0
 have k0F : HF.obj h.next = some (.arr 6 [[sPV op, sPV name, .imm 1 (strRows args2), .imm 2 (pmRows params), .imm 5 (Ex.rows exprs), .imm 6 (Fm.rows kids)]]) := by rw [gF.old _ (by have := gE.le; omega)]; exact k0E
 have k1F : HF.obj (h.next + 1) = some (.arr 6 [[.sc (.string ⟨#[]⟩), .sc (.string ⟨#[]⟩), .sc (.slice none 0 0), .sc (.slice none 0 0), .sc (.slice none 0 0), .sc (.slice none 0 0)]]) := by rw [gF.old _ (by have := gE.le; omega), gE.old _ (by omega)]; exact k1
 have cP := fun H => cloneP_q (l := params) (by omega) H
 obtain ⟨pE1, pE2⟩ := tE.pc
 obtain ⟨pF1, pF2⟩ := tF.pc
 refine a_cutK (fun S h2 => S 1 = T ∧ S 2 = .imm 1 (strRows bound) ∧ S 3 = .ptr h.next 0 0 ∧ S 6 = .ptr (h.next + 1) 0 0 ∧ h2 = HF.set h.next (.arr 6 [[sPV op, sPV name, .imm 1 (strRows args2), .imm 2 (pmRows params), vE, vF]])) ?_ ?_
 ·repeat' (refine a_drawS (by decide +kernel) ?_; simp (maxSteps := 2000000) only [Ty.w, simprocAttr, g1, g2, g3, g6, k0])
  have W := And.intro g1 (And.intro g2 (And.intro g3 (And.intro g6 (And.intro k0 (And.intro k0E k0F)))))
  (first | refine a_dcall0 (cP _) (by (try simp only [Ty.w, simprocAttr, W]); try rfl) ?_ | refine a_dcallA (cP _) (by (try simp only [Ty.w, simprocAttr, W]); try rfl) (by simp only [Ty.w, simprocAttr, W]; try trivial) ?_); simp (maxSteps := 2000000) only [Ty.w, simprocAttr, W, Option.getD_some]
  refine a_dcallW (cE) (by (try simp only [Ty.w, simprocAttr, W]); try rfl) (by simp only [Ty.w, simprocAttr, pastC, List.map_cons, List.map_nil, List.forall_mem_cons]; (repeat' apply And.intro) <;> first | trivial | exact .inl (by decide +kernel) | skip) ?_; simp (maxSteps := 2000000) only [Ty.w, simprocAttr, W, Option.getD_some]
  refine ⟨fun x hx => .inr (by rw [List.mem_singleton.1 hx]; simp (maxSteps := 2000000) only [Ty.w, simprocAttr, W, Ty.all]), ?_⟩
  refine a_dcallW (cF) (by (try simp only [Ty.w, simprocAttr, W]); try rfl) (by simp only [Ty.w, simprocAttr, pastC, List.map_cons, List.map_nil, List.forall_mem_cons]; (repeat' apply And.intro) <;> first | trivial | exact .inl (by decide +kernel) | skip) ?_; simp (maxSteps := 2000000) only [Ty.w, simprocAttr, W, Option.getD_some]
  repeat' (with_reducible refine a_past2 (by simp only [List.forall_mem_cons, Ty.w, simprocAttr, g1, g2, g3, g6, k0, k0E, k0F, pE1, pE2, pF1, pF2, putC]; (repeat' apply And.intro) <;> first | trivial | exact .inl (by decide +kernel)) ?_; try simp (maxSteps := 2000000) only [Ty.w, simprocAttr, W, pE1, pE2, pF1, pF2, putC])
  simp only [set_set]
 ·rintro S' h2 ⟨g1, g2, g3, g6, rfl⟩
  have gX : Grow h (HF.set h.next (.arr 6 [[sPV op, sPV name, .imm 1 (strRows args2), .imm 2 (pmRows params), vE, vF]])) := ((gH.trans gE).trans gF).set (Nat.le_refl _) _
  have nX : HE.next ≤ (HF.set h.next (.arr 6 [[sPV op, sPV name, .imm 1 (strRows args2), .imm 2 (pmRows params), vE, vF]])).next := gF.le
  have o1 : (HF.set h.next (.arr 6 [[sPV op, sPV name, .imm 1 (strRows args2), .imm 2 (pmRows params), vE, vF]])).obj h.next = some (.arr 6 [[sPV op, sPV name, .imm 1 (strRows args2), .imm 2 (pmRows params), vE, vF]]) := by simp [Heap.set]
  have o2 : (HF.set h.next (.arr 6 [[sPV op, sPV name, .imm 1 (strRows args2), .imm 2 (pmRows params), vE, vF]])).obj (h.next + 1) = some (.arr 6 [[.sc (.string ⟨#[]⟩), .sc (.string ⟨#[]⟩), .sc (.slice none 0 0), .sc (.slice none 0 0), .sc (.slice none 0 0), .sc (.slice none 0 0)]]) := by
   simp only [Heap.set]; rw [if_neg (by omega)]; exact k1F
  have bE : ∀ id off len, vE = .own id off len → id < HE.next := by
   rintro id off len rfl
   rcases tE with ⟨_, q⟩ | ⟨_, _, q2, q3, _⟩
   ·simp at q
   ·simp only [PV.own.injEq] at q3; rw [q3.1]; exact q2
  have nE : h.next + 2 ≤ HE.next := by have := gE.le; omega
  have tE2 : Cl (HF.set h.next (.arr 6 [[sPV op, sPV name, .imm 1 (strRows args2), .imm 2 (pmRows params), vE, vF]])) (h.next + 2) 5 vE (Ex.rows exprs) := Cl.up (tE.low nH) gF.le fun j hj hj2 => by
   simp only [Heap.set]; rw [if_neg (by omega)]; exact gF.old _ hj2
  have tF2 : Cl (HF.set h.next (.arr 6 [[sPV op, sPV name, .imm 1 (strRows args2), .imm 2 (pmRows params), vE, vF]])) HE.next 6 vF (Fm.rows kids) := Cl.up tF (Nat.le_refl _) fun j hj hj2 => by
   simp only [Heap.set]; rw [if_neg (by omega)]
  generalize HF.set h.next (.arr 6 [[sPV op, sPV name, .imm 1 (strRows args2), .imm 2 (pmRows params), vE, vF]]) = h2 at gX nX o1 o2 tE2 tF2 ⊢
  generalize HE.next = M at nX bE nE tF2
  clear tE tF k0 k1 k0E k0F k1F cE cF gE gF gH nH cP hrp
  clear HE HF H
  have hslE := tE2.sl
  have hloE : ∀ H, lenP H vE = some exprs.length := fun H => by rw [lenP_sl hslE H, hlE]
  have hlkE := hslE.lk
  have hslF := tF2.sl
  have hloF : ∀ H, lenP H vF = some kids.length := fun H => by rw [lenP_sl hslF H, hlK]
  have hlkF := hslF.lk
  repeat' (first | refine a_seq fun K hK => ?_ | (refine a_block ?_) | (refine a_regionS ?_; simp (maxSteps := 2000000) only [Ty.w, simprocAttr, g1, g2, g3, g6, o1, pE1, pE2, pF1, pF2, hloE, hlkE]) | (refine hK _ _ ?_; clear hK; try simp only [pst0, simprocAttr]))
  refine a_loop (fun m S h' => S 1 = T ∧ S 2 = .imm 1 (strRows bound) ∧ S 3 = .ptr h.next 0 0 ∧ S 6 = .ptr (h.next + 1) 0 0 ∧ S 30 = vE ∧ S 31 = .sc (.int .i64 exprs.length) ∧ ∃ k : Nat, S 32 = .sc (.int .i64 k) ∧ k ≤ exprs.length ∧ m = exprs.length - k ∧ Grow h h' ∧ M ≤ h'.next ∧
   h'.obj h.next = some (.arr 6 [[sPV op, sPV name, .imm 1 (strRows args2), .imm 2 (pmRows params), vE, vF]]) ∧ h'.obj (h.next + 1) = some (.arr 6 [[.sc (.string ⟨#[]⟩), .sc (.string ⟨#[]⟩), .sc (.slice none 0 0), .sc (.slice none 0 0), .sc (.slice none 0 0), .sc (.slice none 0 0)]]) ∧
   Cl h' (h.next + 2) 5 vE (Ex.rows ((exprs.take k).map (bindEx to bound) ++ exprs.drop k)) ∧ Cl h' M 6 vF (Fm.rows kids)) exprs.length ?_ ?_
  ·simp only [Ty.w, simprocAttr]
   exact ⟨g1, g2, g3, g6, 0, rfl, by omega, rfl, gX, nX, o1, o2, by simpa using tE2, tF2⟩
  ·clear gX nX o1 o2 tE2 tF2 hslE hloE hlkE
   rintro m S h' ⟨g1, g2, g3, g6, g30, g31, k, g32, hk, rfl, hg, hn, o1, o2, tE, tF⟩
   by_cases hlt : k < exprs.length
   ·have hd : decide ((k : Int) < (exprs.length : Int)) = true := by simp; omega
    have w7 : IntKind.i64.wrap ((k : Int) + 1) = k + 1 := by rw [wrap64 (by omega) (by omega)]
    obtain ⟨x, hx⟩ : ∃ x, exprs[k]? = some x := ⟨_, List.getElem?_eq_getElem hlt⟩
    have hmem := List.mem_of_getElem? hx
    have hc := fun {H : Heap} (hgH : Grow h H) => bindE_c x (hes x hmem) (hse x hmem) hbb (hT.grow hgH)
    obtain ⟨m1, m2⟩ := mixG_get (g := bindEx to bound) hx
    have hlen : ((exprs.take k).map (bindEx to bound) ++ exprs.drop k).length = exprs.length := by simp; omega
    have hlen2 : ((exprs.take (k + 1)).map (bindEx to bound) ++ exprs.drop (k + 1)).length = exprs.length := by simp; omega
    have hr := Ex.rows_get m1
    obtain ⟨id, i1, i2, rfl, i4⟩ : ∃ id, h.next + 2 ≤ id ∧ id < h'.next ∧ vE = .own id 0 exprs.length ∧ h'.obj id = some (.arr 5 (Ex.rows ((exprs.take k).map (bindEx to bound) ++ exprs.drop k))) := by
     rcases tE with ⟨hn0, _⟩ | ⟨id, i1, i2, i3, i4⟩
     ·have := congrArg List.length hn0
      rw [Ex.rows_len, hlen] at this
      simp only [List.length_nil] at this; omega
     ·rw [Ex.rows_len, hlen] at i3; exact ⟨id, i1, i2, i3, i4⟩
    have i3 := bE id 0 exprs.length rfl
    clear tE
    have hset : (Ex.rows ((exprs.take k).map (bindEx to bound) ++ exprs.drop k)).set k (bindEx to bound x).cells = Ex.rows ((exprs.take (k + 1)).map (bindEx to bound) ++ exprs.drop (k + 1)) := by rw [exRows_set, m2]
    have hrl : (Ex.rows ((exprs.take (k + 1)).map (bindEx to bound) ++ exprs.drop (k + 1))).length = exprs.length := by rw [Ex.rows_len, hlen2]
    generalize Ex.rows ((exprs.take k).map (bindEx to bound) ++ exprs.drop k) = R at i4 hr hset
    generalize bindEx to bound x = y at hc hset
    obtain ⟨xo, xn, xv, xa, xk⟩ := x
    obtain ⟨yo, yn, yv, ya, yk⟩ := y
    simp only [Ex.cells] at hr hc hset
    have e1 : (h.next = h'.next) = False := by simp; omega
    have e2 : (id = h'.next) = False := by simp; omega
    have hgX : ∀ o o2, Grow h ((h'.new o).set h'.next o2) := fun o o2 => (hg.new _).set hg.le _
    have W := And.intro g1 (And.intro g2 (And.intro g3 (And.intro g6 (And.intro g30 (And.intro g31 (And.intro g32 (And.intro i4 (And.intro hr (And.intro hlt (And.intro o1 (And.intro e1 e2)))))))))))
    repeat' (first | refine a_seq fun K hK => ?_ | ((first | refine a_regionS ?_ | refine a_draw (by decide +kernel) (fun K hK => ?_)); simp (maxSteps := 2000000) only [Ty.w, simprocAttr, W, hd]) | (refine a_skip ?_; try simp only [pst0, simprocAttr]) | (refine a_cond _ (by (try simp (maxSteps := 2000000) only [Ty.w, simprocAttr, W, hd]); rfl) (fun hb => ?_) (fun hb => ?_) <;> (try simp only [hb0, decide_eq_true_eq, decide_eq_false_iff_not, simprocAttr] at hb) <;> (try (exfalso; omega))) | (refine hK _ _ ?_; clear hK; try simp only [pst0, simprocAttr]))
    (first | refine a_dcall0 (hc (hgX _ _)) (by (try simp only [Ty.w, simprocAttr, W]); try rfl) ?_ | refine a_dcallA (hc (hgX _ _)) (by (try simp only [Ty.w, simprocAttr, W]); try rfl) (by simp only [Ty.w, simprocAttr, W]; try trivial) ?_); simp (maxSteps := 2000000) only [Ty.w, simprocAttr, W, Option.getD_some]
    repeat' (first | (refine a_regionS ?_; simp (maxSteps := 2000000) only [Ty.w, simprocAttr, W, w7, putC, hset]) | (refine hK _ _ ?_; clear hK; try simp only [pst0, simprocAttr]) | (with_reducible refine a_past2 (by simp only [List.forall_mem_cons, Ty.w, simprocAttr, g1, g2, g3, g6, g30, g31, g32, i4, hr, hlt, o1, e1, e2, w7, putC, hset]; (repeat' apply And.intro) <;> first | trivial | exact .inl (by decide +kernel)) ?_; try simp (maxSteps := 2000000) only [Ty.w, simprocAttr, W, w7, putC, hset]))
    refine ⟨exprs.length - (k + 1), by omega, k + 1, by simp, by omega, rfl, (hgX _ _).set (by omega) _, by first | omega | (simp [Heap.new, Heap.set]; omega), ?_, ?_, ?_, ?_⟩
    ·rw [if_neg (by omega)]
    ·rw [if_neg (by omega), if_neg (by omega), if_neg (by omega)]; exact o2
    ·exact .inr ⟨id, i1, by first | omega | (simp [Heap.new, Heap.set]; omega), by rw [hrl], by simp [Heap.set]⟩
    ·refine tF.up (by simp [Heap.new, Heap.set]) fun j hj hj2 => ?_
     simp only [Heap.new, Heap.set]; rw [if_neg (by omega), if_neg (by omega), if_neg (by omega)]
   ·have hd : decide ((k : Int) < (exprs.length : Int)) = false := by simp; omega
    have hke2 : k = exprs.length := by omega
    subst hke2
    rw [List.take_length, List.drop_length, List.append_nil] at tE
    have hin := fun H => inner_g (a := op) (b := name) (c := .imm 1 (strRows args2)) (e := vE) (f := vF) (params := params) (bound := bound) ⟨rfl, rfl⟩ ⟨pE1, pE2⟩ ⟨pF1, pF2⟩ (by omega) H
    repeat' (first | refine a_seq fun K hK => ?_ | (refine a_regionS ?_; simp (maxSteps := 2000000) only [Ty.w, simprocAttr, g1, g2, g3, g6, g30, g31, g32, hd, o1, pE1, pE2, pF1, pF2]) | (refine a_exit ?_; try simp only [pst0, simprocAttr]) | (refine a_cond _ (by (try simp (maxSteps := 2000000) only [Ty.w, simprocAttr, g1, g2, g3, g6, g30, g31, g32, hd, o1, pE1, pE2, pF1, pF2]); rfl) (fun hb => ?_) (fun hb => ?_) <;> (try simp only [hb0, decide_eq_true_eq, decide_eq_false_iff_not, simprocAttr] at hb) <;> (try (exfalso; omega))) | ((first | refine hK _ _ ?_ | (clear hK; refine hK _ _ ?_)); clear hK; try simp only [pst0, simprocAttr]))
    refine owp_useQ (hin _) (by (try simp only [Ty.w, simprocAttr, g1, g2, g3, g6]); try rfl) ?_; simp (maxSteps := 2000000) only [Ty.w, simprocAttr, g1, g2, g3, g6]
    repeat' (first | refine a_seq fun K hK => ?_ | (refine a_block ?_) | (refine a_regionS ?_; simp (maxSteps := 2000000) only [Ty.w, simprocAttr, g1, g2, g3, g6, o1, pF1, pF2, hloF, hlkF]) | (refine hK _ _ ?_; clear hK; try simp only [pst0, simprocAttr]))
    clear hd hlt
    refine a_loop (fun m S h' => S 1 = T ∧ S 2 = .imm 1 (strRows (bound ++ params.map Pm.name)) ∧ S 3 = .ptr h.next 0 0 ∧ S 6 = .ptr (h.next + 1) 0 0 ∧ S 50 = vF ∧ S 51 = .sc (.int .i64 kids.length) ∧ ∃ k : Nat, S 52 = .sc (.int .i64 k) ∧ k ≤ kids.length ∧ m = kids.length - k ∧ Grow h h' ∧ M ≤ h'.next ∧
     h'.obj h.next = some (.arr 6 [[sPV op, sPV name, .imm 1 (strRows args2), .imm 2 (pmRows params), vE, vF]]) ∧ h'.obj (h.next + 1) = some (.arr 6 [[.sc (.string ⟨#[]⟩), .sc (.string ⟨#[]⟩), .sc (.slice none 0 0), .sc (.slice none 0 0), .sc (.slice none 0 0), .sc (.slice none 0 0)]]) ∧
     Cl h' (h.next + 2) 5 vE (Ex.rows (exprs.map (bindEx to bound))) ∧ Cl h' M 6 vF (Fm.rows ((kids.take k).map (bindFm to · (bound ++ params.map Pm.name)) ++ kids.drop k))) kids.length ?_ ?_
    ·simp only [Ty.w, simprocAttr]
     exact ⟨g1, g3, g6, 0, rfl, by omega, rfl, hg, hn, o1, o2, tE, by simpa using tF⟩
    ·clear hg hn o1 o2 tE tF hslF hloF hlkF hin g1 g2 g3 g6 g30 g31 g32
     clear hk
     rintro m S h' ⟨g1, g2, g3, g6, g50, g51, k, g52, hk, rfl, hg, hn, o1, o2, tE, tF⟩
     by_cases hlt : k < kids.length
     ·have hd : decide ((k : Int) < (kids.length : Int)) = true := by simp; omega
      have w7 : IntKind.i64.wrap ((k : Int) + 1) = k + 1 := by rw [wrap64 (by omega) (by omega)]
      obtain ⟨x, hx⟩ : ∃ x, kids[k]? = some x := ⟨_, List.getElem?_eq_getElem hlt⟩
      have hmem := List.mem_of_getElem? hx
      have hc := fun {H : Heap} (hgH : Grow h H) => ih x hmem (hks x hmem) (hsk x hmem) (hb2 x hmem) (hT.grow hgH)
      obtain ⟨m1, m2⟩ := mixG_get (g := (bindFm to · (bound ++ params.map Pm.name))) hx
      have hlen : ((kids.take k).map (bindFm to · (bound ++ params.map Pm.name)) ++ kids.drop k).length = kids.length := by simp; omega
      have hlen2 : ((kids.take (k + 1)).map (bindFm to · (bound ++ params.map Pm.name)) ++ kids.drop (k + 1)).length = kids.length := by simp; omega
      have hr := Fm.rows_get m1
      obtain ⟨id, i1, i2, rfl, i4⟩ : ∃ id, M ≤ id ∧ id < h'.next ∧ vF = .own id 0 kids.length ∧ h'.obj id = some (.arr 6 (Fm.rows ((kids.take k).map (bindFm to · (bound ++ params.map Pm.name)) ++ kids.drop k))) := by
       rcases tF with ⟨hn0, _⟩ | ⟨id, i1, i2, i3, i4⟩
       ·have := congrArg List.length hn0
        rw [Fm.rows_len, hlen] at this
        simp only [List.length_nil] at this; omega
       ·rw [Fm.rows_len, hlen] at i3; exact ⟨id, i1, i2, i3, i4⟩
      clear tF
      have hset : (Fm.rows ((kids.take k).map (bindFm to · (bound ++ params.map Pm.name)) ++ kids.drop k)).set k (bindFm to x (bound ++ params.map Pm.name)).cells = Fm.rows ((kids.take (k + 1)).map (bindFm to · (bound ++ params.map Pm.name)) ++ kids.drop (k + 1)) := by rw [fmRows_set, m2]
      have hrl : (Fm.rows ((kids.take (k + 1)).map (bindFm to · (bound ++ params.map Pm.name)) ++ kids.drop (k + 1))).length = kids.length := by rw [Fm.rows_len, hlen2]
      generalize Fm.rows ((kids.take k).map (bindFm to · (bound ++ params.map Pm.name)) ++ kids.drop k) = R at i4 hr hset
      generalize bindFm to x (bound ++ params.map Pm.name) = y at hc hset
      obtain ⟨xo, xn, xa, xp, xe, xk⟩ := x
      obtain ⟨yo, yn, ya, yp, ye, yk⟩ := y
      simp only [Fm.cells] at hr hc hset
      have e1 : (h.next = h'.next) = False := by simp; omega
      have e2 : (id = h'.next) = False := by simp; omega
      have hgX : ∀ o o2, Grow h ((h'.new o).set h'.next o2) := fun o o2 => (hg.new _).set hg.le _
      have W := And.intro g1 (And.intro g2 (And.intro g3 (And.intro g6 (And.intro g50 (And.intro g51 (And.intro g52 (And.intro i4 (And.intro hr (And.intro hlt (And.intro o1 (And.intro e1 e2)))))))))))
      repeat' (first | refine a_seq fun K hK => ?_ | ((first | refine a_regionS ?_ | refine a_draw (by decide +kernel) (fun K hK => ?_)); simp (maxSteps := 2000000) only [Ty.w, simprocAttr, W, hd]) | (refine a_skip ?_; try simp only [pst0, simprocAttr]) | (refine a_cond _ (by (try simp (maxSteps := 2000000) only [Ty.w, simprocAttr, W, hd]); rfl) (fun hb => ?_) (fun hb => ?_) <;> (try simp only [hb0, decide_eq_true_eq, decide_eq_false_iff_not, simprocAttr] at hb) <;> (try (exfalso; omega))) | (refine hK _ _ ?_; clear hK; try simp only [pst0, simprocAttr]))
      (first | refine a_dcall0 (hc (hgX _ _)) (by (try simp only [Ty.w, simprocAttr, W]); try rfl) ?_ | refine a_dcallA (hc (hgX _ _)) (by (try simp only [Ty.w, simprocAttr, W]); try rfl) (by simp only [Ty.w, simprocAttr, W]; try trivial) ?_); simp (maxSteps := 2000000) only [Ty.w, simprocAttr, W, Option.getD_some]
      repeat' (first | (refine a_regionS ?_; simp (maxSteps := 2000000) only [Ty.w, simprocAttr, W, w7, putC, hset]) | (refine hK _ _ ?_; clear hK; try simp only [pst0, simprocAttr]) | (with_reducible refine a_past2 (by simp only [List.forall_mem_cons, Ty.w, simprocAttr, g1, g2, g3, g6, g50, g51, g52, i4, hr, hlt, o1, e1, e2, w7, putC, hset]; (repeat' apply And.intro) <;> first | trivial | exact .inl (by decide +kernel)) ?_; try simp (maxSteps := 2000000) only [Ty.w, simprocAttr, W, w7, putC, hset]))
      refine ⟨kids.length - (k + 1), by omega, k + 1, by simp, by omega, rfl, (hgX _ _).set (by omega) _, by first | omega | (simp [Heap.new, Heap.set]; omega), ?_, ?_, ?_, ?_⟩
      ·rw [if_neg (by omega)]
      ·rw [if_neg (by omega), if_neg (by omega), if_neg (by omega)]; exact o2
      ·refine Cl.keep tE (by simp [Heap.new, Heap.set]) fun j hj hj2 => ?_
       have := bE _ _ _ hj
       simp only [Heap.new, Heap.set]; rw [if_neg (by omega), if_neg (by omega), if_neg (by omega)]
      ·exact .inr ⟨id, i1, by first | omega | (simp [Heap.new, Heap.set]; omega), by rw [hrl], by simp [Heap.set]⟩
     ·have hd : decide ((k : Int) < (kids.length : Int)) = false := by simp; omega
      have hke2 : k = kids.length := by omega
      subst hke2
      rw [List.take_length, List.drop_length, List.append_nil] at tF
      repeat' (first | refine a_seq fun K hK => ?_ | ((first | refine a_regionS ?_ | refine a_ret ?_); simp (maxSteps := 2000000) only [Ty.w, simprocAttr, g1, g2, g3, g6, g50, g51, g52, hd, o1, o2, pE1, pE2, pF1, pF2]) | (refine a_exit ?_; try simp only [pst0, simprocAttr]) | (refine a_cond _ (by (try simp (maxSteps := 2000000) only [Ty.w, simprocAttr, g1, g2, g3, g6, g50, g51, g52, hd, o1, o2, pE1, pE2, pF1, pF2]); rfl) (fun hb => ?_) (fun hb => ?_) <;> (try simp only [hb0, decide_eq_true_eq, decide_eq_false_iff_not, simprocAttr] at hb) <;> (try (exfalso; omega))) | ((first | refine hK _ _ ?_ | (clear hK; refine hK _ _ ?_)); clear hK; try simp only [pst0, simprocAttr]))
      refine ⟨frz_agg ?_, hg.set (by omega) _⟩
      have tE3 : Cl (h'.set (h.next + 1) (.arr 6 [[sPV op, sPV name, .imm 1 (strRows args2), .imm 2 (pmRows params), vE, vF]])) (h.next + 2) 5 vE (Ex.rows (exprs.map (bindEx to bound))) := tE.up (Nat.le_refl _) fun j hj _ => by simp only [Heap.set]; rw [if_neg (by omega)]
      have tF3 : Cl (h'.set (h.next + 1) (.arr 6 [[sPV op, sPV name, .imm 1 (strRows args2), .imm 2 (pmRows params), vE, vF]])) M 6 vF (Fm.rows (kids.map (bindFm to · (bound ++ params.map Pm.name)))) := tF.up (Nat.le_refl _) fun j hj _ => by simp only [Heap.set]; rw [if_neg (by omega)]
      have h1 := tE3.frz (n := h.next) fun t => tl_frzE (by omega) t
      have h2 := tF3.frz (n := h.next) fun t => tl_frzF (by omega) t
      unfold FrzL; refine ⟨by simp only [FrzTo], ?_⟩
      unfold FrzL; refine ⟨by simp only [FrzTo], ?_⟩
      unfold FrzL; refine ⟨by simp only [FrzTo]; exact .inl ⟨trivial, strs_in _ _⟩, ?_⟩
      unfold FrzL; refine ⟨by simp only [FrzTo]; exact .inl ⟨trivial, pms_in _ _⟩, ?_⟩
      unfold FrzL; refine ⟨h1, ?_⟩
      unfold FrzL; refine ⟨h2, ?_⟩
      simp only [FrzL]
end Go.Proofs.Ytjlkapgpjamnkaa
namespace Go.Proofs.Ytjlkapgpjamnkaa
open Go.AM
set_option maxHeartbeats 4000000
set_option maxRecDepth 20000
theorem frz_fm {n : Nat} {H : Heap} {op : ByteArray} {p p' e e' k k' : PV} (hp : FrzTo n H p p') (he : FrzTo n H e e') (hk : FrzTo n H k k') :
  FrzTo n H (.agg [sPV op, sPV ⟨#[]⟩, .imm 1 [], p, e, k]) (.agg [sPV op, .sc (.string ⟨#[]⟩), .sc (.slice none 0 0), p', e', k']) := by
 refine frz_agg ?_
 unfold FrzL; refine ⟨by simp only [FrzTo], ?_⟩
 unfold FrzL; refine ⟨by simp only [FrzTo], ?_⟩
 unfold FrzL; refine ⟨frz_nilslice, ?_⟩
 unfold FrzL; refine ⟨hp, ?_⟩
 unfold FrzL; refine ⟨he, ?_⟩
 unfold FrzL; refine ⟨hk, ?_⟩
 simp only [FrzL]
theorem bindE_nil {x : Ex} (hsm : x.small) (hsh : shapedE x = true) {H : Heap} {id : Nat} (ho : H.obj id = some (.map [])) (hid : id < H.next) :
  PCall Try.prog 83 [.agg x.cells, .mp id, .sc (.slice none 0 0)] H fun r h' => r = .agg x.cells ∧ h' = H := by
 refine PCall.nil_imm (z := 1) (pre := [.agg x.cells, .mp id]) (post := []) ?_
 have hm : MapAt H (.mp id) (fun _ => none) := ⟨⟨[], by simp only [mview, ho]; rfl, fun _ => rfl⟩, fun j e => by simp only [PV.mp.injEq] at e; subst e; exact hid⟩
 have := bindE_c x hsm hsh (bound := []) (by simp [bigN]) hm
 rw [bindEx_none (fun _ => rfl)] at this
 exact this
theorem less_c {op : ByteArray} {a b : Ex} (ha : a.small) (hsa : shapedE a = true) (hb : b.small) (hsb : shapedE b = true) (h : Heap) :
  PCall Try.prog 101 [sPV op, .agg a.cells, .agg b.cells] h fun r h' => r = .agg (cmpM op a b).cells ∧ h' = h := by
 refine PCall.frz Ty.hb_101 ?_
 have hg2 : Grow h ((h.new (.arr 6 [[.sc (.string ⟨#[]⟩), .sc (.string ⟨#[]⟩), .sc (.slice none 0 0), .sc (.slice none 0 0), .sc (.slice none 0 0), .sc (.slice none 0 0)]])).new (.map [])) := ((Grow.refl h).new _).new _
 have hA := bindE_nil ha hsa (H := (h.new (.arr 6 [[.sc (.string ⟨#[]⟩), .sc (.string ⟨#[]⟩), .sc (.slice none 0 0), .sc (.slice none 0 0), .sc (.slice none 0 0), .sc (.slice none 0 0)]])).new (.map [])) (id := h.next + 1) (by simp [Heap.new]) (by simp [Heap.new])
 have hB := bindE_nil hb hsb (H := (h.new (.arr 6 [[.sc (.string ⟨#[]⟩), .sc (.string ⟨#[]⟩), .sc (.slice none 0 0), .sc (.slice none 0 0), .sc (.slice none 0 0), .sc (.slice none 0 0)]])).new (.map [])) (id := h.next + 1) (by simp [Heap.new]) (by simp [Heap.new])
 have hia := exs_in h.next [a, b]
 obtain ⟨ao, an, av, aa, ak⟩ := a
 obtain ⟨bo, bn, bv, ba, bk⟩ := b
 simp only [cmpM, Fm.cells, Ex.rows, Ex.cells, strRows, pmRows, Fm.rows, List.map_nil] at hA hB hia ⊢
 refine pcall_body (ow := fun _ => false) (wf := fun _ => false) Ty.mixed Try.func101 rfl Ty.hb_101 (by rw [Try.ntmps101]; simp) ?_
 rw [Try.ntmps101, Try.results101]
 repeat' (first | refine a_seq fun K hK => ?_ | ((first | refine a_regionS ?_ | refine a_drawS (by decide +kernel) ?_); simp (maxSteps := 2000000) only [Ty.w, simprocAttr, nsucc]) | (refine hK _ _ ?_; clear hK; try simp only [pst0, simprocAttr]))
 (first | refine a_dcall0 (hA) (by (try simp only [Ty.w, simprocAttr, nsucc]); try rfl) ?_ | refine a_dcallA (hA) (by (try simp only [Ty.w, simprocAttr, nsucc]); try rfl) (by simp only [Ty.w, simprocAttr, nsucc]; try trivial) ?_); simp (maxSteps := 2000000) only [Ty.w, simprocAttr, Option.getD_some, nsucc]
 skip
 (first | refine a_dcall0 (hB) (by (try simp only [Ty.w, simprocAttr, nsucc]); try rfl) ?_ | refine a_dcallA (hB) (by (try simp only [Ty.w, simprocAttr, nsucc]); try rfl) (by simp only [Ty.w, simprocAttr, nsucc]; try trivial) ?_); simp (maxSteps := 2000000) only [Ty.w, simprocAttr, Option.getD_some, nsucc]
 repeat' (first | (refine a_ret ?_; simp (maxSteps := 2000000) only [Ty.w, simprocAttr, nsucc, putC]) | (refine hK _ _ ?_; clear hK; try simp only [pst0, simprocAttr]) | (with_reducible refine a_past2 (by simp only [List.forall_mem_cons, Ty.w, simprocAttr, nsucc, putC]; (repeat' apply And.intro) <;> first | trivial | exact .inl (by decide +kernel)) ?_; try simp (maxSteps := 2000000) only [Ty.w, simprocAttr, nsucc, putC]))
 exact ⟨frz_fm frz_nilslice (frz_imm hia) frz_nilslice, hg2.set (Nat.le_refl _) _⟩
theorem dual_c (op other : ByteArray) (s : Bool) (h : Heap) : PCall Try.prog 99 [sPV op, sPV other, .sc (.bool s)] h fun r h' => r = sPV (dualM op other s) ∧ h' = h := by
 cases s with
 | true =>
  refine pcall_body (ow := fun _ => false) (wf := fun _ => false) Ty.mixed Try.func99 rfl Ty.hb_99 (by rw [Try.ntmps99]; simp) ?_
  rw [Try.ntmps99, Try.results99]
  repeat' (first | refine a_seq fun K hK => ?_ | ((first | refine a_regionS ?_ | refine a_ret ?_); simp (maxSteps := 2000000) only [Ty.w, simprocAttr]) | (refine hK _ _ ?_; clear hK; try simp only [pst0, simprocAttr]))
  all_goals first | done | rfl | exact ⟨rfl, rfl⟩
 | false =>
  refine pcall_body (ow := fun _ => false) (wf := fun _ => false) Ty.mixed Try.func99 rfl Ty.hb_99 (by rw [Try.ntmps99]; simp) ?_
  rw [Try.ntmps99, Try.results99]
  repeat' (first | refine a_seq fun K hK => ?_ | ((first | refine a_regionS ?_ | refine a_ret ?_); simp (maxSteps := 2000000) only [Ty.w, simprocAttr]) | (refine a_skip ?_; try simp only [pst0, simprocAttr]) | (refine a_cond _ (by (try simp (maxSteps := 2000000) only [Ty.w, simprocAttr]); rfl) (fun hb => ?_) (fun hb => ?_) <;> (try simp only [hb0, decide_eq_true_eq, decide_eq_false_iff_not, simprocAttr] at hb) <;> (try (exfalso; omega))) | (refine hK _ _ ?_; clear hK; try simp only [pst0, simprocAttr]))
  all_goals first | done | rfl | exact ⟨rfl, rfl⟩
end Go.Proofs.Ytjlkapgpjamnkaa
namespace Go.AM
mutual
def Nz : PV → PV → Prop
  | .imm z rows, p => (∃ rows', p = .imm z rows' ∧ NzR rows rows') ∨ (rows = [] ∧ (p = .emp ∨ p = .sc (.slice none 0 0)))
  | .agg l, p => ∃ l', p = .agg l' ∧ NzL l l'
  | q, p => p = q
def NzL : List PV → List PV → Prop
  | [], [] => True
  | p :: ps, q :: qs => Nz p q ∧ NzL ps qs
  | _, _ => False
def NzR : List (List PV) → List (List PV) → Prop
  | [], [] => True
  | p :: ps, q :: qs => NzL p q ∧ NzR ps qs
  | _, _ => False
end
theorem NzL.len : (l l' : List PV) → NzL l l' → l.length = l'.length
  | [], [], _ => rfl
  | [], _ :: _, h => by simp [NzL] at h
  | _ :: _, [], h => by simp [NzL] at h
  | p :: l, q :: l', h => by
    unfold NzL at h
    simp only [List.length_cons, NzL.len l l' h.2]
theorem NzR.len : (l l' : List (List PV)) → NzR l l' → l.length = l'.length
  | [], [], _ => rfl
  | [], _ :: _, h => by simp [NzR] at h
  | _ :: _, [], h => by simp [NzR] at h
  | p :: l, q :: l', h => by
    unfold NzR at h
    simp only [List.length_cons, NzR.len l l' h.2]
mutual
theorem Nz.refl : (p : PV) → Nz p p
  | .imm z rows => by unfold Nz; exact .inl ⟨rows, rfl, NzR.refl rows⟩
  | .agg l => by unfold Nz; exact ⟨l, rfl, NzL.refl l⟩
  | .sc v => by unfold Nz; rfl
  | .ptr _ _ _ => by unfold Nz; rfl
  | .cptr _ => by unfold Nz; rfl
  | .own _ _ _ => by unfold Nz; rfl
  | .emp => by unfold Nz; rfl
  | .mp _ => by unfold Nz; rfl
  | .tup _ => by unfold Nz; rfl
  | .fn _ _ _ => by unfold Nz; rfl
  | .ab _ _ _ _ _ => by unfold Nz; rfl
theorem NzL.refl : (l : List PV) → NzL l l
  | [] => by unfold NzL; trivial
  | p :: l => by unfold NzL; exact ⟨Nz.refl p, NzL.refl l⟩
theorem NzR.refl : (l : List (List PV)) → NzR l l
  | [] => by unfold NzR; trivial
  | p :: l => by unfold NzR; exact ⟨NzL.refl p, NzR.refl l⟩
end
section
variable {β : Env} {n : Nat} {F : Nat → Prop} {w : World}
mutual
theorem Nz.rep : (q p : PV) → (x : Value) → Nz q p → Rep β n F w p x → Rep β n F w q x
  | .imm z rows, p, x, h, hr => by
    unfold Nz at h
    rcases h with ⟨rows', rfl, hR⟩ | ⟨rfl, rfl | rfl⟩
    · simp only [Rep] at hr ⊢
      have hl := NzR.len rows rows' hR
      obtain ⟨a, cap, rfl, g1, g2, g3⟩ := hr
      refine ⟨a, cap, by rw [hl], by omega, g2, ?_⟩
      rcases g3 with g3 | ⟨b, o, hF, ha, hRR⟩
      · left
        rw [g3] at hl
        exact List.length_eq_zero_iff.1 hl
      · exact .inr ⟨b, o, hF, ha, NzR.rep z rows rows' b o hR hRR⟩
    · simp only [Rep] at hr ⊢
      obtain ⟨a, rfl⟩ := hr
      exact ⟨a, 0, rfl, Nat.le_refl _, Nat.zero_le _, .inl trivial⟩
    · simp only [Rep] at hr ⊢
      exact ⟨none, 0, hr, Nat.le_refl _, Nat.zero_le _, .inl trivial⟩
  | .agg l, p, x, h, hr => by
    unfold Nz at h
    obtain ⟨l', rfl, hl⟩ := h
    simp only [Rep] at hr ⊢
    obtain ⟨xs, rfl, h1, h2⟩ := hr
    exact ⟨xs, rfl, h1, NzL.rep l l' xs hl h2⟩
  | .sc _, p, x, h, hr => by unfold Nz at h; subst h; exact hr
  | .ptr _ _ _, p, x, h, hr => by unfold Nz at h; subst h; exact hr
  | .cptr _, p, x, h, hr => by unfold Nz at h; subst h; exact hr
  | .own _ _ _, p, x, h, hr => by unfold Nz at h; subst h; exact hr
  | .emp, p, x, h, hr => by unfold Nz at h; subst h; exact hr
  | .mp _, p, x, h, hr => by unfold Nz at h; subst h; exact hr
  | .tup _, p, x, h, hr => by unfold Nz at h; subst h; exact hr
  | .fn _ _ _, p, x, h, hr => by unfold Nz at h; subst h; exact hr
  | .ab _ _ _ _ _, p, x, h, hr => by unfold Nz at h; subst h; exact hr
theorem NzL.rep : (l l' : List PV) → (xs : List Value) → NzL l l' → RepL β n F w l' xs → RepL β n F w l xs
  | [], [], xs, _, hr => hr
  | [], _ :: _, _, h, _ => by simp [NzL] at h
  | _ :: _, [], _, h, _ => by simp [NzL] at h
  | p :: l, q :: l', [], _, hr => by simp [RepL] at hr
  | p :: l, q :: l', v :: xs, h, hr => by
    unfold NzL at h
    unfold RepL at hr ⊢
    exact ⟨Nz.rep p q v h.1 hr.1, NzL.rep l l' xs h.2 hr.2⟩
theorem NzS.rep : (l l' : List PV) → (b o : Nat) → NzL l l' → RepS β n F w l' b o → RepS β n F w l b o
  | [], [], _, _, _, _ => by unfold RepS; trivial
  | [], _ :: _, _, _, h, _ => by simp [NzL] at h
  | _ :: _, [], _, _, h, _ => by simp [NzL] at h
  | p :: l, q :: l', b, o, h, hr => by
    unfold NzL at h
    unfold RepS at hr ⊢
    obtain ⟨⟨v, h1, h2, h3⟩, h4⟩ := hr
    exact ⟨⟨v, h1, h2, Nz.rep p q v h.1 h3⟩, NzS.rep l l' b (o + 1) h.2 h4⟩
theorem NzR.rep (z : Nat) : (l l' : List (List PV)) → (b o : Nat) → NzR l l' → RepR β n F w z l' b o → RepR β n F w z l b o
  | [], [], _, _, _, _ => by unfold RepR; trivial
  | [], _ :: _, _, _, h, _ => by simp [NzR] at h
  | _ :: _, [], _, _, h, _ => by simp [NzR] at h
  | p :: l, q :: l', b, o, h, hr => by
    unfold NzR at h
    unfold RepR at hr ⊢
    exact ⟨⟨by rw [NzL.len p q h.1]; exact hr.1.1, NzS.rep p q b o h.1 hr.1.2⟩, NzR.rep z l l' b (o + z) h.2 hr.2⟩
end
end
theorem PCall.nz {P : Program} {f : FuncId} {ys xs : List PV} {h : Heap} {K : PV → Heap → Prop} (hc : PCall P f ys h K) (hz : NzL ys xs) : PCall P f xs h K :=
  fun β w vals sm hr => hc β w vals sm (NzL.rep ys xs vals hz hr)
theorem nz_nil {z : Nat} : Nz (.imm z []) (.sc (.slice none 0 0)) := by unfold Nz; exact .inr ⟨rfl, .inr rfl⟩
theorem nz_imm {z : Nat} {r r' : List (List PV)} (h : NzR r r') : Nz (.imm z r) (.imm z r') := by unfold Nz; exact .inl ⟨_, rfl, h⟩
theorem nz_agg {r r' : List PV} (h : NzL r r') : Nz (.agg r) (.agg r') := by unfold Nz; exact ⟨_, rfl, h⟩
theorem nz_cons {p q : PV} {l m : List PV} (h : Nz p q) (h2 : NzL l m) : NzL (p :: l) (q :: m) := by unfold NzL; exact ⟨h, h2⟩
theorem nzr_cons {p q : List PV} {l m : List (List PV)} (h : NzL p q) (h2 : NzR l m) : NzR (p :: l) (q :: m) := by unfold NzR; exact ⟨h, h2⟩
end Go.AM
namespace Go.Proofs.Ytjlkapgpjamnkaa
open Go.AM
set_option maxHeartbeats 4000000
set_option maxRecDepth 20000
theorem sr_nil : strRows [] = [] := rfl
theorem pr_nil : pmRows [] = [] := rfl
def NormC (f : Fm) : Prop := ∀ (s : Bool) (h : Heap), PCall Try.prog 61 [.agg f.cells, .sc (.bool s)] h fun r h' => r = .agg (normalM f s).cells ∧ h' = h
theorem norm_not {k : Fm} (ih : NormC k) : NormC (.mk opNot ⟨#[]⟩ [] [] [] [k]) := by
 intro s h
 show PCall _ _ _ _ fun r h' => r = .agg (normalM k (!s)).cells ∧ h' = h
 refine PCall.frz Ty.hb_61 ?_
 have hc := ih (!s)
 have hfz := fun (n : Nat) (H : Heap) => fm_frz n H (normalM k (!s))
 generalize normalM k (!s) = y at hc hfz ⊢
 obtain ⟨yo, yn, ya, yp, ye, yk⟩ := y
 obtain ⟨ko, kn, ka, kp, ke, kk⟩ := k
 simp only [Fm.cells, Fm.rows, Ex.rows, sr_nil, pr_nil] at hc hfz ⊢
 have k1 : (opNot.data.toList == (#[110, 111, 116] : Array UInt8).toList) = true := rfl
 refine pcall_body (ow := fun _ => false) (wf := fun _ => false) Ty.mixed Try.func61 rfl Ty.hb_61 (by rw [Try.ntmps61]; simp) ?_
 rw [Try.ntmps61, Try.results61]
 repeat' (first | refine a_seq fun K hK => ?_ | (refine a_regionS ?_; simp (maxSteps := 2000000) only [Ty.w, simprocAttr, k1, nsucc]) | (refine hK _ _ ?_; clear hK; try simp only [pst0, simprocAttr]))
 refine owp_useQ (hc _) (by (try simp only [Ty.w, simprocAttr, k1, nsucc]); try rfl) ?_; simp (maxSteps := 2000000) only [Ty.w, simprocAttr, k1, nsucc]
 repeat' (first | (refine a_ret ?_; simp (maxSteps := 2000000) only [Ty.w, simprocAttr, nsucc, putC]) | (refine hK _ _ ?_; clear hK; try simp only [pst0, simprocAttr]))
 exact ⟨frz_agg (hfz _ _), ((Grow.refl h).new _).set (Nat.le_refl _) _⟩
theorem norm_atom {name : ByteArray} {args : List ByteArray} {params : List Pm} {exprs : List Ex} {kids : List Fm} (hbi : ∀ H : Heap, PCall Try.prog 82 [.agg (Fm.mk opAtom name args params exprs kids).cells, .sc (.map none), .sc (.slice none 0 0)] H fun r h' => r = .agg (Fm.mk opAtom name args params exprs kids).cells ∧ h' = H) : NormC (.mk opAtom name args params exprs kids) := by
 intro s h
 refine PCall.frz Ty.hb_61 ?_
 have k1 : (opAtom.data.toList == (#[110, 111, 116] : Array UInt8).toList) = false := rfl
 have k2 : (opAtom.data.toList == (#[105, 109, 112, 108, 121] : Array UInt8).toList) = false := rfl
 have k3 : (opAtom.data.toList == (#[97, 110, 100] : Array UInt8).toList) = false := rfl
 have k4 : (opAtom.data.toList == (#[111, 114] : Array UInt8).toList) = false := rfl
 have k5 : (opAtom.data.toList == (#[102, 111, 114, 97, 108, 108] : Array UInt8).toList) = false := rfl
 have k6 : (opAtom.data.toList == (#[101, 120, 105, 115, 116, 115] : Array UInt8).toList) = false := rfl
 have k7 : (opAtom.data.toList == (#[60] : Array UInt8).toList) = false := rfl
 have k8 : (opAtom.data.toList == (#[60, 61] : Array UInt8).toList) = false := rfl
 have k9 : (opAtom.data.toList == (#[61] : Array UInt8).toList) = false := rfl
 have g2 : Grow h ((h.new (.arr 6 [[.sc (.string ⟨#[]⟩), .sc (.string ⟨#[]⟩), .sc (.slice none 0 0), .sc (.slice none 0 0), .sc (.slice none 0 0), .sc (.slice none 0 0)]])).new (.arr 6 [[.sc (.string ⟨#[]⟩), .sc (.string ⟨#[]⟩), .sc (.slice none 0 0), .sc (.slice none 0 0), .sc (.slice none 0 0), .sc (.slice none 0 0)]])) := ((Grow.refl h).new _).new _
 cases s with
 | true =>
  have hN : normalM (.mk opAtom name args params exprs kids) true = .mk opAtom name args params exprs kids := rfl
  rw [hN]
  have hfz := fun (n : Nat) (H : Heap) => fm_frz n H (.mk opAtom name args params exprs kids)
  simp only [Fm.cells] at hbi hfz ⊢
  refine pcall_body (ow := fun _ => false) (wf := fun _ => false) Ty.mixed Try.func61 rfl Ty.hb_61 (by rw [Try.ntmps61]; simp) ?_
  rw [Try.ntmps61, Try.results61]
  repeat' (first | refine a_seq fun K hK => ?_ | (refine a_regionS ?_; simp (maxSteps := 2000000) only [Ty.w, simprocAttr, k1, k2, k3, k4, k5, k6, k7, k8, k9, nsucc]) | (refine a_cond _ (by (try simp (maxSteps := 2000000) only [Ty.w, simprocAttr, k1, k2, k3, k4, k5, k6, k7, k8, k9, nsucc]); rfl) (fun hb => ?_) (fun hb => ?_) <;> (try simp only [hb0, decide_eq_true_eq, decide_eq_false_iff_not, simprocAttr] at hb) <;> (try (exfalso; omega))) | (refine hK _ _ ?_; clear hK; try simp only [pst0, simprocAttr]))
  refine owp_useQ (hbi _) (by (try simp only [Ty.w, simprocAttr, k1, k2, k3, k4, k5, k6, k7, k8, k9, nsucc]); try rfl) ?_; simp (maxSteps := 2000000) only [Ty.w, simprocAttr, k1, k2, k3, k4, k5, k6, k7, k8, k9, nsucc]
  repeat' (first | refine a_seq fun K hK => ?_ | ((first | refine a_regionS ?_ | refine a_ret ?_); simp (maxSteps := 2000000) only [Ty.w, simprocAttr, nsucc, putC]) | (refine hK _ _ ?_; clear hK; try simp only [pst0, simprocAttr]))
  exact ⟨frz_agg (hfz _ _), (g2.set (Nat.le_succ _) _).set (Nat.le_refl _) _⟩
 | false =>
  have hN : normalM (.mk opAtom name args params exprs kids) false = .mk opNot ⟨#[]⟩ [] [] [] [.mk opAtom name args params exprs kids] := rfl
  rw [hN]
  have hfz := fun (n : Nat) => fms_in n [.mk opAtom name args params exprs kids]
  simp only [Fm.cells, Fm.rows, Ex.rows, sr_nil, pr_nil] at hbi hfz ⊢
  refine pcall_body (ow := fun _ => false) (wf := fun _ => false) Ty.mixed Try.func61 rfl Ty.hb_61 (by rw [Try.ntmps61]; simp) ?_
  rw [Try.ntmps61, Try.results61]
  repeat' (first | refine a_seq fun K hK => ?_ | (refine a_regionS ?_; simp (maxSteps := 2000000) only [Ty.w, simprocAttr, k1, k2, k3, k4, k5, k6, k7, k8, k9, nsucc, Bool.not_false]) | (refine a_cond _ (by (try simp (maxSteps := 2000000) only [Ty.w, simprocAttr, k1, k2, k3, k4, k5, k6, k7, k8, k9, nsucc, Bool.not_false]); rfl) (fun hb => ?_) (fun hb => ?_) <;> (try simp only [hb0, decide_eq_true_eq, decide_eq_false_iff_not, simprocAttr] at hb) <;> (try (exfalso; omega))) | (refine hK _ _ ?_; clear hK; try simp only [pst0, simprocAttr]))
  refine owp_useQ (hbi _) (by (try simp only [Ty.w, simprocAttr, k1, k2, k3, k4, k5, k6, k7, k8, k9, nsucc]); try rfl) ?_; simp (maxSteps := 2000000) only [Ty.w, simprocAttr, k1, k2, k3, k4, k5, k6, k7, k8, k9, nsucc]
  repeat' (first | refine a_seq fun K hK => ?_ | ((first | refine a_regionS ?_ | refine a_ret ?_); simp (maxSteps := 2000000) only [Ty.w, simprocAttr, nsucc, putC]) | (refine a_skip ?_; try simp only [pst0, simprocAttr]) | (refine a_cond _ (by (try simp (maxSteps := 2000000) only [Ty.w, simprocAttr, nsucc, putC]); rfl) (fun hb => ?_) (fun hb => ?_) <;> (try simp only [hb0, decide_eq_true_eq, decide_eq_false_iff_not, simprocAttr] at hb) <;> (try (exfalso; omega))) | (refine hK _ _ ?_; clear hK; try simp only [pst0, simprocAttr]))
  exact ⟨frz_fm frz_nilslice frz_nilslice (frz_imm (hfz _)), (g2.set (Nat.le_succ _) _).set (Nat.le_refl _) _⟩
theorem norm_same {name : ByteArray} {args : List ByteArray} {params : List Pm} {exprs : List Ex} {kids : List Fm} (hbi : ∀ H : Heap, PCall Try.prog 82 [.agg (Fm.mk opSame name args params exprs kids).cells, .sc (.map none), .sc (.slice none 0 0)] H fun r h' => r = .agg (Fm.mk opSame name args params exprs kids).cells ∧ h' = H) : NormC (.mk opSame name args params exprs kids) := by
 intro s h
 refine PCall.frz Ty.hb_61 ?_
 have k1 : (opSame.data.toList == (#[110, 111, 116] : Array UInt8).toList) = false := rfl
 have k2 : (opSame.data.toList == (#[105, 109, 112, 108, 121] : Array UInt8).toList) = false := rfl
 have k3 : (opSame.data.toList == (#[97, 110, 100] : Array UInt8).toList) = false := rfl
 have k4 : (opSame.data.toList == (#[111, 114] : Array UInt8).toList) = false := rfl
 have k5 : (opSame.data.toList == (#[102, 111, 114, 97, 108, 108] : Array UInt8).toList) = false := rfl
 have k6 : (opSame.data.toList == (#[101, 120, 105, 115, 116, 115] : Array UInt8).toList) = false := rfl
 have k7 : (opSame.data.toList == (#[60] : Array UInt8).toList) = false := rfl
 have k8 : (opSame.data.toList == (#[60, 61] : Array UInt8).toList) = false := rfl
 have k9 : (opSame.data.toList == (#[61] : Array UInt8).toList) = false := rfl
 have g2 : Grow h ((h.new (.arr 6 [[.sc (.string ⟨#[]⟩), .sc (.string ⟨#[]⟩), .sc (.slice none 0 0), .sc (.slice none 0 0), .sc (.slice none 0 0), .sc (.slice none 0 0)]])).new (.arr 6 [[.sc (.string ⟨#[]⟩), .sc (.string ⟨#[]⟩), .sc (.slice none 0 0), .sc (.slice none 0 0), .sc (.slice none 0 0), .sc (.slice none 0 0)]])) := ((Grow.refl h).new _).new _
 cases s with
 | true =>
  have hN : normalM (.mk opSame name args params exprs kids) true = .mk opSame name args params exprs kids := rfl
  rw [hN]
  have hfz := fun (n : Nat) (H : Heap) => fm_frz n H (.mk opSame name args params exprs kids)
  simp only [Fm.cells] at hbi hfz ⊢
  refine pcall_body (ow := fun _ => false) (wf := fun _ => false) Ty.mixed Try.func61 rfl Ty.hb_61 (by rw [Try.ntmps61]; simp) ?_
  rw [Try.ntmps61, Try.results61]
  repeat' (first | refine a_seq fun K hK => ?_ | (refine a_regionS ?_; simp (maxSteps := 2000000) only [Ty.w, simprocAttr, k1, k2, k3, k4, k5, k6, k7, k8, k9, nsucc]) | (refine a_cond _ (by (try simp (maxSteps := 2000000) only [Ty.w, simprocAttr, k1, k2, k3, k4, k5, k6, k7, k8, k9, nsucc]); rfl) (fun hb => ?_) (fun hb => ?_) <;> (try simp only [hb0, decide_eq_true_eq, decide_eq_false_iff_not, simprocAttr] at hb) <;> (try (exfalso; omega))) | (refine hK _ _ ?_; clear hK; try simp only [pst0, simprocAttr]))
  refine owp_useQ (hbi _) (by (try simp only [Ty.w, simprocAttr, k1, k2, k3, k4, k5, k6, k7, k8, k9, nsucc]); try rfl) ?_; simp (maxSteps := 2000000) only [Ty.w, simprocAttr, k1, k2, k3, k4, k5, k6, k7, k8, k9, nsucc]
  repeat' (first | refine a_seq fun K hK => ?_ | ((first | refine a_regionS ?_ | refine a_ret ?_); simp (maxSteps := 2000000) only [Ty.w, simprocAttr, nsucc, putC]) | (refine hK _ _ ?_; clear hK; try simp only [pst0, simprocAttr]))
  exact ⟨frz_agg (hfz _ _), (g2.set (Nat.le_succ _) _).set (Nat.le_refl _) _⟩
 | false =>
  have hN : normalM (.mk opSame name args params exprs kids) false = .mk opNot ⟨#[]⟩ [] [] [] [.mk opSame name args params exprs kids] := rfl
  rw [hN]
  have hfz := fun (n : Nat) => fms_in n [.mk opSame name args params exprs kids]
  simp only [Fm.cells, Fm.rows, Ex.rows, sr_nil, pr_nil] at hbi hfz ⊢
  refine pcall_body (ow := fun _ => false) (wf := fun _ => false) Ty.mixed Try.func61 rfl Ty.hb_61 (by rw [Try.ntmps61]; simp) ?_
  rw [Try.ntmps61, Try.results61]
  repeat' (first | refine a_seq fun K hK => ?_ | (refine a_regionS ?_; simp (maxSteps := 2000000) only [Ty.w, simprocAttr, k1, k2, k3, k4, k5, k6, k7, k8, k9, nsucc, Bool.not_false]) | (refine a_cond _ (by (try simp (maxSteps := 2000000) only [Ty.w, simprocAttr, k1, k2, k3, k4, k5, k6, k7, k8, k9, nsucc, Bool.not_false]); rfl) (fun hb => ?_) (fun hb => ?_) <;> (try simp only [hb0, decide_eq_true_eq, decide_eq_false_iff_not, simprocAttr] at hb) <;> (try (exfalso; omega))) | (refine hK _ _ ?_; clear hK; try simp only [pst0, simprocAttr]))
  refine owp_useQ (hbi _) (by (try simp only [Ty.w, simprocAttr, k1, k2, k3, k4, k5, k6, k7, k8, k9, nsucc]); try rfl) ?_; simp (maxSteps := 2000000) only [Ty.w, simprocAttr, k1, k2, k3, k4, k5, k6, k7, k8, k9, nsucc]
  repeat' (first | refine a_seq fun K hK => ?_ | ((first | refine a_regionS ?_ | refine a_ret ?_); simp (maxSteps := 2000000) only [Ty.w, simprocAttr, nsucc, putC]) | (refine a_skip ?_; try simp only [pst0, simprocAttr]) | (refine a_cond _ (by (try simp (maxSteps := 2000000) only [Ty.w, simprocAttr, nsucc, putC]); rfl) (fun hb => ?_) (fun hb => ?_) <;> (try simp only [hb0, decide_eq_true_eq, decide_eq_false_iff_not, simprocAttr] at hb) <;> (try (exfalso; omega))) | (refine hK _ _ ?_; clear hK; try simp only [pst0, simprocAttr]))
  exact ⟨frz_fm frz_nilslice frz_nilslice (frz_imm (hfz _)), (g2.set (Nat.le_succ _) _).set (Nat.le_refl _) _⟩
theorem norm_lt {a b : Ex} (ha : a.small) (hsa : shapedE a = true) (hb : b.small) (hsb : shapedE b = true) : NormC (cmpM opLt a b) := by
 intro s h
 refine PCall.frz Ty.hb_61 ?_
 have k1 : (opLt.data.toList == (#[110, 111, 116] : Array UInt8).toList) = false := rfl
 have k2 : (opLt.data.toList == (#[105, 109, 112, 108, 121] : Array UInt8).toList) = false := rfl
 have k3 : (opLt.data.toList == (#[97, 110, 100] : Array UInt8).toList) = false := rfl
 have k4 : (opLt.data.toList == (#[111, 114] : Array UInt8).toList) = false := rfl
 have k5 : (opLt.data.toList == (#[102, 111, 114, 97, 108, 108] : Array UInt8).toList) = false := rfl
 have k6 : (opLt.data.toList == (#[101, 120, 105, 115, 116, 115] : Array UInt8).toList) = false := rfl
 have k7 : (opLt.data.toList == (#[60] : Array UInt8).toList) = true := rfl
 have g1 : Grow h (h.new (.arr 6 [[.sc (.string ⟨#[]⟩), .sc (.string ⟨#[]⟩), .sc (.slice none 0 0), .sc (.slice none 0 0), .sc (.slice none 0 0), .sc (.slice none 0 0)]])) := (Grow.refl h).new _
 cases s with
 | true =>
  show PCall _ _ _ _ fun r h' => FrzTo h.next h' (.agg (cmpM opLt a b).cells) r ∧ Grow h h'
  have hc := fun H => less_c (op := opLt) (a := a) (b := b) ha hsa hb hsb H
  have hfz := fun (n : Nat) (H : Heap) => fm_frz n H (cmpM opLt a b)
  obtain ⟨ao, an, av, aa, ak⟩ := a
  obtain ⟨bo, bn, bv, ba, bk⟩ := b
  simp only [cmpM, Fm.cells, Fm.rows, Ex.rows, Ex.cells, sr_nil, pr_nil] at hc hfz ⊢
  refine pcall_body (ow := fun _ => false) (wf := fun _ => false) Ty.mixed Try.func61 rfl Ty.hb_61 (by rw [Try.ntmps61]; simp) ?_
  rw [Try.ntmps61, Try.results61]
  have W := And.intro k1 (And.intro k2 (And.intro k3 (And.intro k4 (And.intro k5 (And.intro k6 k7)))))
  repeat' (first | refine a_seq fun K hK => ?_ | ((first | refine a_regionS ?_ | refine a_drawS (by decide +kernel) ?_); simp (maxSteps := 2000000) only [Ty.w, simprocAttr, W, nsucc]) | (refine a_skip ?_; try simp only [pst0, simprocAttr]) | (refine a_cond _ (by (try simp (maxSteps := 2000000) only [Ty.w, simprocAttr, W, nsucc]); rfl) (fun hb => ?_) (fun hb => ?_) <;> (try simp only [hb0, decide_eq_true_eq, decide_eq_false_iff_not, simprocAttr] at hb) <;> (try (exfalso; omega))) | (refine hK _ _ ?_; clear hK; try simp only [pst0, simprocAttr]))
  (first | refine a_dcall0 (hc _) (by (try simp only [Ty.w, simprocAttr, W, nsucc]); try rfl) ?_ | refine a_dcallA (hc _) (by (try simp only [Ty.w, simprocAttr, W, nsucc]); try rfl) (by simp only [Ty.w, simprocAttr, W, nsucc]; try trivial) ?_); simp (maxSteps := 2000000) only [Ty.w, simprocAttr, W, Option.getD_some, nsucc]
  repeat' (first | (refine a_ret ?_; simp (maxSteps := 2000000) only [Ty.w, simprocAttr, nsucc, putC]) | (refine hK _ _ ?_; clear hK; try simp only [pst0, simprocAttr]) | (with_reducible refine a_past2 (by simp only [List.forall_mem_cons, Ty.w, simprocAttr, nsucc, putC]; (repeat' apply And.intro) <;> first | trivial | exact .inl (by decide +kernel)) ?_; try simp (maxSteps := 2000000) only [Ty.w, simprocAttr, nsucc, putC]))
  exact ⟨frz_agg (hfz _ _), g1.set (Nat.le_refl _) _⟩
 | false =>
  show PCall _ _ _ _ fun r h' => FrzTo h.next h' (.agg (cmpM opLe b a).cells) r ∧ Grow h h'
  have hc := fun H => less_c (op := opLe) (a := b) (b := a) hb hsb ha hsa H
  have hfz := fun (n : Nat) (H : Heap) => fm_frz n H (cmpM opLe b a)
  obtain ⟨ao, an, av, aa, ak⟩ := a
  obtain ⟨bo, bn, bv, ba, bk⟩ := b
  simp only [cmpM, Fm.cells, Fm.rows, Ex.rows, Ex.cells, sr_nil, pr_nil] at hc hfz ⊢
  refine pcall_body (ow := fun _ => false) (wf := fun _ => false) Ty.mixed Try.func61 rfl Ty.hb_61 (by rw [Try.ntmps61]; simp) ?_
  rw [Try.ntmps61, Try.results61]
  have W := And.intro k1 (And.intro k2 (And.intro k3 (And.intro k4 (And.intro k5 (And.intro k6 k7)))))
  repeat' (first | refine a_seq fun K hK => ?_ | ((first | refine a_regionS ?_ | refine a_drawS (by decide +kernel) ?_); simp (maxSteps := 2000000) only [Ty.w, simprocAttr, W, nsucc]) | (refine a_cond _ (by (try simp (maxSteps := 2000000) only [Ty.w, simprocAttr, W, nsucc]); rfl) (fun hb => ?_) (fun hb => ?_) <;> (try simp only [hb0, decide_eq_true_eq, decide_eq_false_iff_not, simprocAttr] at hb) <;> (try (exfalso; omega))) | (refine hK _ _ ?_; clear hK; try simp only [pst0, simprocAttr]))
  (first | refine a_dcall0 (hc _) (by (try simp only [Ty.w, simprocAttr, W, nsucc]); try rfl) ?_ | refine a_dcallA (hc _) (by (try simp only [Ty.w, simprocAttr, W, nsucc]); try rfl) (by simp only [Ty.w, simprocAttr, W, nsucc]; try trivial) ?_); simp (maxSteps := 2000000) only [Ty.w, simprocAttr, W, Option.getD_some, nsucc]
  repeat' (first | (refine a_ret ?_; simp (maxSteps := 2000000) only [Ty.w, simprocAttr, nsucc, putC]) | (refine hK _ _ ?_; clear hK; try simp only [pst0, simprocAttr]) | (with_reducible refine a_past2 (by simp only [List.forall_mem_cons, Ty.w, simprocAttr, nsucc, putC]; (repeat' apply And.intro) <;> first | trivial | exact .inl (by decide +kernel)) ?_; try simp (maxSteps := 2000000) only [Ty.w, simprocAttr, nsucc, putC]))
  exact ⟨frz_agg (hfz _ _), g1.set (Nat.le_refl _) _⟩
theorem norm_le {a b : Ex} (ha : a.small) (hsa : shapedE a = true) (hb : b.small) (hsb : shapedE b = true) : NormC (cmpM opLe a b) := by
 intro s h
 refine PCall.frz Ty.hb_61 ?_
 have k1 : (opLe.data.toList == (#[110, 111, 116] : Array UInt8).toList) = false := rfl
 have k2 : (opLe.data.toList == (#[105, 109, 112, 108, 121] : Array UInt8).toList) = false := rfl
 have k3 : (opLe.data.toList == (#[97, 110, 100] : Array UInt8).toList) = false := rfl
 have k4 : (opLe.data.toList == (#[111, 114] : Array UInt8).toList) = false := rfl
 have k5 : (opLe.data.toList == (#[102, 111, 114, 97, 108, 108] : Array UInt8).toList) = false := rfl
 have k6 : (opLe.data.toList == (#[101, 120, 105, 115, 116, 115] : Array UInt8).toList) = false := rfl
 have k7 : (opLe.data.toList == (#[60] : Array UInt8).toList) = false := rfl
 have k8 : (opLe.data.toList == (#[60, 61] : Array UInt8).toList) = true := rfl
 have g1 : Grow h (h.new (.arr 6 [[.sc (.string ⟨#[]⟩), .sc (.string ⟨#[]⟩), .sc (.slice none 0 0), .sc (.slice none 0 0), .sc (.slice none 0 0), .sc (.slice none 0 0)]])) := (Grow.refl h).new _
 cases s with
 | true =>
  show PCall _ _ _ _ fun r h' => FrzTo h.next h' (.agg (cmpM opLe a b).cells) r ∧ Grow h h'
  have hc := fun H => less_c (op := opLe) (a := a) (b := b) ha hsa hb hsb H
  have hfz := fun (n : Nat) (H : Heap) => fm_frz n H (cmpM opLe a b)
  obtain ⟨ao, an, av, aa, ak⟩ := a
  obtain ⟨bo, bn, bv, ba, bk⟩ := b
  simp only [cmpM, Fm.cells, Fm.rows, Ex.rows, Ex.cells, sr_nil, pr_nil] at hc hfz ⊢
  refine pcall_body (ow := fun _ => false) (wf := fun _ => false) Ty.mixed Try.func61 rfl Ty.hb_61 (by rw [Try.ntmps61]; simp) ?_
  rw [Try.ntmps61, Try.results61]
  have W := And.intro k1 (And.intro k2 (And.intro k3 (And.intro k4 (And.intro k5 (And.intro k6 (And.intro k7 k8))))))
  repeat' (first | refine a_seq fun K hK => ?_ | ((first | refine a_regionS ?_ | refine a_drawS (by decide +kernel) ?_); simp (maxSteps := 2000000) only [Ty.w, simprocAttr, W, nsucc]) | (refine a_skip ?_; try simp only [pst0, simprocAttr]) | (refine a_cond _ (by (try simp (maxSteps := 2000000) only [Ty.w, simprocAttr, W, nsucc]); rfl) (fun hb => ?_) (fun hb => ?_) <;> (try simp only [hb0, decide_eq_true_eq, decide_eq_false_iff_not, simprocAttr] at hb) <;> (try (exfalso; omega))) | (refine hK _ _ ?_; clear hK; try simp only [pst0, simprocAttr]))
  (first | refine a_dcall0 (hc _) (by (try simp only [Ty.w, simprocAttr, W, nsucc]); try rfl) ?_ | refine a_dcallA (hc _) (by (try simp only [Ty.w, simprocAttr, W, nsucc]); try rfl) (by simp only [Ty.w, simprocAttr, W, nsucc]; try trivial) ?_); simp (maxSteps := 2000000) only [Ty.w, simprocAttr, W, Option.getD_some, nsucc]
  repeat' (first | (refine a_ret ?_; simp (maxSteps := 2000000) only [Ty.w, simprocAttr, nsucc, putC]) | (refine hK _ _ ?_; clear hK; try simp only [pst0, simprocAttr]) | (with_reducible refine a_past2 (by simp only [List.forall_mem_cons, Ty.w, simprocAttr, nsucc, putC]; (repeat' apply And.intro) <;> first | trivial | exact .inl (by decide +kernel)) ?_; try simp (maxSteps := 2000000) only [Ty.w, simprocAttr, nsucc, putC]))
  exact ⟨frz_agg (hfz _ _), g1.set (Nat.le_refl _) _⟩
 | false =>
  show PCall _ _ _ _ fun r h' => FrzTo h.next h' (.agg (cmpM opLt b a).cells) r ∧ Grow h h'
  have hc := fun H => less_c (op := opLt) (a := b) (b := a) hb hsb ha hsa H
  have hfz := fun (n : Nat) (H : Heap) => fm_frz n H (cmpM opLt b a)
  obtain ⟨ao, an, av, aa, ak⟩ := a
  obtain ⟨bo, bn, bv, ba, bk⟩ := b
  simp only [cmpM, Fm.cells, Fm.rows, Ex.rows, Ex.cells, sr_nil, pr_nil] at hc hfz ⊢
  refine pcall_body (ow := fun _ => false) (wf := fun _ => false) Ty.mixed Try.func61 rfl Ty.hb_61 (by rw [Try.ntmps61]; simp) ?_
  rw [Try.ntmps61, Try.results61]
  have W := And.intro k1 (And.intro k2 (And.intro k3 (And.intro k4 (And.intro k5 (And.intro k6 (And.intro k7 k8))))))
  repeat' (first | refine a_seq fun K hK => ?_ | ((first | refine a_regionS ?_ | refine a_drawS (by decide +kernel) ?_); simp (maxSteps := 2000000) only [Ty.w, simprocAttr, W, nsucc]) | (refine a_cond _ (by (try simp (maxSteps := 2000000) only [Ty.w, simprocAttr, W, nsucc]); rfl) (fun hb => ?_) (fun hb => ?_) <;> (try simp only [hb0, decide_eq_true_eq, decide_eq_false_iff_not, simprocAttr] at hb) <;> (try (exfalso; omega))) | (refine hK _ _ ?_; clear hK; try simp only [pst0, simprocAttr]))
  (first | refine a_dcall0 (hc _) (by (try simp only [Ty.w, simprocAttr, W, nsucc]); try rfl) ?_ | refine a_dcallA (hc _) (by (try simp only [Ty.w, simprocAttr, W, nsucc]); try rfl) (by simp only [Ty.w, simprocAttr, W, nsucc]; try trivial) ?_); simp (maxSteps := 2000000) only [Ty.w, simprocAttr, W, Option.getD_some, nsucc]
  repeat' (first | (refine a_ret ?_; simp (maxSteps := 2000000) only [Ty.w, simprocAttr, nsucc, putC]) | (refine hK _ _ ?_; clear hK; try simp only [pst0, simprocAttr]) | (with_reducible refine a_past2 (by simp only [List.forall_mem_cons, Ty.w, simprocAttr, nsucc, putC]; (repeat' apply And.intro) <;> first | trivial | exact .inl (by decide +kernel)) ?_; try simp (maxSteps := 2000000) only [Ty.w, simprocAttr, nsucc, putC]))
  exact ⟨frz_agg (hfz _ _), g1.set (Nat.le_refl _) _⟩
theorem norm_eq {a b : Ex} (ha : a.small) (hsa : shapedE a = true) (hb : b.small) (hsb : shapedE b = true) : NormC (cmpM opEq a b) := by
 intro s h
 refine PCall.frz Ty.hb_61 ?_
 have k1 : (opEq.data.toList == (#[110, 111, 116] : Array UInt8).toList) = false := rfl
 have k2 : (opEq.data.toList == (#[105, 109, 112, 108, 121] : Array UInt8).toList) = false := rfl
 have k3 : (opEq.data.toList == (#[97, 110, 100] : Array UInt8).toList) = false := rfl
 have k4 : (opEq.data.toList == (#[111, 114] : Array UInt8).toList) = false := rfl
 have k5 : (opEq.data.toList == (#[102, 111, 114, 97, 108, 108] : Array UInt8).toList) = false := rfl
 have k6 : (opEq.data.toList == (#[101, 120, 105, 115, 116, 115] : Array UInt8).toList) = false := rfl
 have k7 : (opEq.data.toList == (#[60] : Array UInt8).toList) = false := rfl
 have k8 : (opEq.data.toList == (#[60, 61] : Array UInt8).toList) = false := rfl
 have k9 : (opEq.data.toList == (#[61] : Array UInt8).toList) = true := rfl
 have g1 : Grow h (h.new (.arr 6 [[.sc (.string ⟨#[]⟩), .sc (.string ⟨#[]⟩), .sc (.slice none 0 0), .sc (.slice none 0 0), .sc (.slice none 0 0), .sc (.slice none 0 0)]])) := (Grow.refl h).new _
 cases s with
 | true =>
  show PCall _ _ _ _ fun r h' => FrzTo h.next h' (.agg (cmpM opEq a b).cells) r ∧ Grow h h'
  have hc := fun H => less_c (op := opEq) (a := a) (b := b) ha hsa hb hsb H
  have hfz := fun (n : Nat) (H : Heap) => fm_frz n H (cmpM opEq a b)
  obtain ⟨ao, an, av, aa, ak⟩ := a
  obtain ⟨bo, bn, bv, ba, bk⟩ := b
  simp only [cmpM, Fm.cells, Fm.rows, Ex.rows, Ex.cells, sr_nil, pr_nil] at hc hfz ⊢
  refine pcall_body (ow := fun _ => false) (wf := fun _ => false) Ty.mixed Try.func61 rfl Ty.hb_61 (by rw [Try.ntmps61]; simp) ?_
  rw [Try.ntmps61, Try.results61]
  have W := And.intro k1 (And.intro k2 (And.intro k3 (And.intro k4 (And.intro k5 (And.intro k6 (And.intro k7 (And.intro k8 k9)))))))
  repeat' (first | refine a_seq fun K hK => ?_ | ((first | refine a_regionS ?_ | refine a_drawS (by decide +kernel) ?_); simp (maxSteps := 2000000) only [Ty.w, simprocAttr, W, nsucc]) | (refine a_skip ?_; try simp only [pst0, simprocAttr]) | (refine a_cond _ (by (try simp (maxSteps := 2000000) only [Ty.w, simprocAttr, W, nsucc]); rfl) (fun hb => ?_) (fun hb => ?_) <;> (try simp only [hb0, decide_eq_true_eq, decide_eq_false_iff_not, simprocAttr] at hb) <;> (try (exfalso; omega))) | (refine hK _ _ ?_; clear hK; try simp only [pst0, simprocAttr]))
  (first | refine a_dcall0 (hc _) (by (try simp only [Ty.w, simprocAttr, W, nsucc]); try rfl) ?_ | refine a_dcallA (hc _) (by (try simp only [Ty.w, simprocAttr, W, nsucc]); try rfl) (by simp only [Ty.w, simprocAttr, W, nsucc]; try trivial) ?_); simp (maxSteps := 2000000) only [Ty.w, simprocAttr, W, Option.getD_some, nsucc]
  repeat' (first | (refine a_ret ?_; simp (maxSteps := 2000000) only [Ty.w, simprocAttr, nsucc, putC]) | (refine hK _ _ ?_; clear hK; try simp only [pst0, simprocAttr]) | (with_reducible refine a_past2 (by simp only [List.forall_mem_cons, Ty.w, simprocAttr, nsucc, putC]; (repeat' apply And.intro) <;> first | trivial | exact .inl (by decide +kernel)) ?_; try simp (maxSteps := 2000000) only [Ty.w, simprocAttr, nsucc, putC]))
  exact ⟨frz_agg (hfz _ _), g1.set (Nat.le_refl _) _⟩
 | false =>
  show PCall _ _ _ _ fun r h' => FrzTo h.next h' (.agg (Fm.mk opOr ⟨#[]⟩ [] [] [] [cmpM opLt a b, cmpM opLt b a]).cells) r ∧ Grow h h'
  have hc := fun H => less_c (op := opLt) (a := a) (b := b) ha hsa hb hsb H
  have hd := fun H => less_c (op := opLt) (a := b) (b := a) hb hsb ha hsa H
  have hfz := fun (n : Nat) => fms_in n [cmpM opLt a b, cmpM opLt b a]
  obtain ⟨ao, an, av, aa, ak⟩ := a
  obtain ⟨bo, bn, bv, ba, bk⟩ := b
  simp only [cmpM, Fm.cells, Fm.rows, Ex.rows, Ex.cells, sr_nil, pr_nil] at hc hd hfz ⊢
  refine pcall_body (ow := fun _ => false) (wf := fun _ => false) Ty.mixed Try.func61 rfl Ty.hb_61 (by rw [Try.ntmps61]; simp) ?_
  rw [Try.ntmps61, Try.results61]
  have W := And.intro k1 (And.intro k2 (And.intro k3 (And.intro k4 (And.intro k5 (And.intro k6 (And.intro k7 (And.intro k8 k9)))))))
  repeat' (first | refine a_seq fun K hK => ?_ | ((first | refine a_regionS ?_ | refine a_drawS (by decide +kernel) ?_); simp (maxSteps := 2000000) only [Ty.w, simprocAttr, W, nsucc]) | (refine a_cond _ (by (try simp (maxSteps := 2000000) only [Ty.w, simprocAttr, W, nsucc]); rfl) (fun hb => ?_) (fun hb => ?_) <;> (try simp only [hb0, decide_eq_true_eq, decide_eq_false_iff_not, simprocAttr] at hb) <;> (try (exfalso; omega))) | (refine hK _ _ ?_; clear hK; try simp only [pst0, simprocAttr]))
  (first | refine a_dcall0 (hc _) (by (try simp only [Ty.w, simprocAttr, W, nsucc]); try rfl) ?_ | refine a_dcallA (hc _) (by (try simp only [Ty.w, simprocAttr, W, nsucc]); try rfl) (by simp only [Ty.w, simprocAttr, W, nsucc]; try trivial) ?_); simp (maxSteps := 2000000) only [Ty.w, simprocAttr, W, Option.getD_some, nsucc]
  skip
  (first | refine a_dcall0 (hd _) (by (try simp only [Ty.w, simprocAttr, nsucc]); try rfl) ?_ | refine a_dcallA (hd _) (by (try simp only [Ty.w, simprocAttr, nsucc]); try rfl) (by simp only [Ty.w, simprocAttr, nsucc]; try trivial) ?_); simp (maxSteps := 2000000) only [Ty.w, simprocAttr, Option.getD_some, nsucc]
  repeat' (first | (refine a_ret ?_; simp (maxSteps := 2000000) only [Ty.w, simprocAttr, nsucc, putC]) | (refine hK _ _ ?_; clear hK; try simp only [pst0, simprocAttr]) | (with_reducible refine a_past2 (by simp only [List.forall_mem_cons, Ty.w, simprocAttr, nsucc, putC]; (repeat' apply And.intro) <;> first | trivial | exact .inl (by decide +kernel)) ?_; try simp (maxSteps := 2000000) only [Ty.w, simprocAttr, nsucc, putC]))
  exact ⟨frz_fm frz_nilslice frz_nilslice (frz_imm (hfz _)), g1.set (Nat.le_refl _) _⟩
theorem norm_all {params : List Pm} {k : Fm} (hpl : params.length ≤ 1048576) (ih : NormC k) : NormC (.mk opAll ⟨#[]⟩ [] params [] [k]) := by
 intro s h
 show PCall _ _ _ _ fun r h' => r = .agg (Fm.mk (dualM opAll opSome s) ⟨#[]⟩ [] params [] [normalM k s]).cells ∧ h' = h
 refine PCall.frz Ty.hb_61 ?_
 have k1 : (opAll.data.toList == (#[110, 111, 116] : Array UInt8).toList) = false := rfl
 have k2 : (opAll.data.toList == (#[105, 109, 112, 108, 121] : Array UInt8).toList) = false := rfl
 have k3 : (opAll.data.toList == (#[97, 110, 100] : Array UInt8).toList) = false := rfl
 have k4 : (opAll.data.toList == (#[111, 114] : Array UInt8).toList) = false := rfl
 have k5 : (opAll.data.toList == (#[102, 111, 114, 97, 108, 108] : Array UInt8).toList) = true := rfl
 have e5 : (opAll.data.toList == (#[102, 111, 114, 97, 108, 108] : Array UInt8).toList) = true := rfl
 have g1 : Grow h (h.new (.arr 6 [[.sc (.string ⟨#[]⟩), .sc (.string ⟨#[]⟩), .sc (.slice none 0 0), .sc (.slice none 0 0), .sc (.slice none 0 0), .sc (.slice none 0 0)]])) := (Grow.refl h).new _
 have d1 : ∀ H : Heap, PCall Try.prog 99 [sPV opSome, sPV opAll, .sc (.bool true)] H fun r h' => r = sPV opSome ∧ h' = H := fun H => dual_c _ _ true H
 have d2 := fun H => dual_c opAll opSome s H
 have hP := fun H => cloneP_q (l := params) (by omega) H
 have hc := ih s
 have hfk := fun (n : Nat) => fms_in n [normalM k s]
 have hfp := fun (n : Nat) => pms_in n params
 generalize dualM opAll opSome s = o at d2 ⊢
 generalize normalM k s = y at hc hfk ⊢
 obtain ⟨yo, yn, ya, yp, ye, yk⟩ := y
 obtain ⟨ko, kn, ka, kp, ke, kk⟩ := k
 simp only [Fm.cells, Fm.rows, Ex.rows, sr_nil, pr_nil] at hc hfk ⊢
 refine pcall_body (ow := fun _ => false) (wf := fun _ => false) Ty.mixed Try.func61 rfl Ty.hb_61 (by rw [Try.ntmps61]; simp) ?_
 rw [Try.ntmps61, Try.results61]
 repeat' (first | refine a_seq fun K hK => ?_ | ((first | refine a_regionS ?_ | refine a_drawS (by decide +kernel) ?_); simp (maxSteps := 2000000) only [Ty.w, simprocAttr, k1, k2, k3, k4, k5, e5, nsucc]) | (refine a_skip ?_; try simp only [pst0, simprocAttr]) | (refine a_cond _ (by (try simp (maxSteps := 2000000) only [Ty.w, simprocAttr, k1, k2, k3, k4, k5, e5, nsucc]); rfl) (fun hb => ?_) (fun hb => ?_) <;> (try simp only [hb0, decide_eq_true_eq, decide_eq_false_iff_not, simprocAttr] at hb) <;> (try (exfalso; omega))) | (refine hK _ _ ?_; clear hK; try simp only [pst0, simprocAttr]))
 (first | refine a_dcall0 (d1 _) (by (try simp only [Ty.w, simprocAttr, k1, k2, k3, k4, k5, e5, nsucc]); try rfl) ?_ | refine a_dcallA (d1 _) (by (try simp only [Ty.w, simprocAttr, k1, k2, k3, k4, k5, e5, nsucc]); try rfl) (by simp only [Ty.w, simprocAttr, k1, k2, k3, k4, k5, e5, nsucc]; try trivial) ?_); simp (maxSteps := 2000000) only [Ty.w, simprocAttr, Option.getD_some, k1, k2, k3, k4, k5, e5, nsucc]
 skip
 (first | refine a_dcall0 (d2 _) (by (try simp only [Ty.w, simprocAttr, nsucc]); try rfl) ?_ | refine a_dcallA (d2 _) (by (try simp only [Ty.w, simprocAttr, nsucc]); try rfl) (by simp only [Ty.w, simprocAttr, nsucc]; try trivial) ?_); simp (maxSteps := 2000000) only [Ty.w, simprocAttr, Option.getD_some, nsucc]
 repeat' (first | refine a_seq fun K hK => ?_ | (refine a_drawS (by decide +kernel) ?_; simp (maxSteps := 2000000) only [Ty.w, simprocAttr, nsucc]) | (refine hK _ _ ?_; clear hK; try simp only [pst0, simprocAttr]))
 (first | refine a_dcall0 (hP _) (by (try simp only [Ty.w, simprocAttr, nsucc]); try rfl) ?_ | refine a_dcallA (hP _) (by (try simp only [Ty.w, simprocAttr, nsucc]); try rfl) (by simp only [Ty.w, simprocAttr, nsucc]; try trivial) ?_); simp (maxSteps := 2000000) only [Ty.w, simprocAttr, Option.getD_some, nsucc]
 skip
 (first | refine a_dcall0 (hc _) (by (try simp only [Ty.w, simprocAttr, nsucc]); try rfl) ?_ | refine a_dcallA (hc _) (by (try simp only [Ty.w, simprocAttr, nsucc]); try rfl) (by simp only [Ty.w, simprocAttr, nsucc]; try trivial) ?_); simp (maxSteps := 2000000) only [Ty.w, simprocAttr, Option.getD_some, nsucc]
 repeat' (first | (refine a_ret ?_; simp (maxSteps := 2000000) only [Ty.w, simprocAttr, nsucc, putC]) | (refine hK _ _ ?_; clear hK; try simp only [pst0, simprocAttr]) | (with_reducible refine a_past2 (by simp only [List.forall_mem_cons, Ty.w, simprocAttr, nsucc, putC]; (repeat' apply And.intro) <;> first | trivial | exact .inl (by decide +kernel)) ?_; try simp (maxSteps := 2000000) only [Ty.w, simprocAttr, nsucc, putC]))
 exact ⟨frz_fm (frz_imm (hfp _)) frz_nilslice (frz_imm (hfk _)), g1.set (Nat.le_refl _) _⟩
theorem norm_some {params : List Pm} {k : Fm} (hpl : params.length ≤ 1048576) (ih : NormC k) : NormC (.mk opSome ⟨#[]⟩ [] params [] [k]) := by
 intro s h
 show PCall _ _ _ _ fun r h' => r = .agg (Fm.mk (dualM opSome opAll s) ⟨#[]⟩ [] params [] [normalM k s]).cells ∧ h' = h
 refine PCall.frz Ty.hb_61 ?_
 have k1 : (opSome.data.toList == (#[110, 111, 116] : Array UInt8).toList) = false := rfl
 have k2 : (opSome.data.toList == (#[105, 109, 112, 108, 121] : Array UInt8).toList) = false := rfl
 have k3 : (opSome.data.toList == (#[97, 110, 100] : Array UInt8).toList) = false := rfl
 have k4 : (opSome.data.toList == (#[111, 114] : Array UInt8).toList) = false := rfl
 have k5 : (opSome.data.toList == (#[102, 111, 114, 97, 108, 108] : Array UInt8).toList) = false := rfl
 have k6 : (opSome.data.toList == (#[101, 120, 105, 115, 116, 115] : Array UInt8).toList) = true := rfl
 have e5 : (opSome.data.toList == (#[102, 111, 114, 97, 108, 108] : Array UInt8).toList) = false := rfl
 have g1 : Grow h (h.new (.arr 6 [[.sc (.string ⟨#[]⟩), .sc (.string ⟨#[]⟩), .sc (.slice none 0 0), .sc (.slice none 0 0), .sc (.slice none 0 0), .sc (.slice none 0 0)]])) := (Grow.refl h).new _
 have d1 : ∀ H : Heap, PCall Try.prog 99 [sPV opSome, sPV opAll, .sc (.bool false)] H fun r h' => r = sPV opAll ∧ h' = H := fun H => dual_c _ _ false H
 have d2 := fun H => dual_c opSome opAll s H
 have hP := fun H => cloneP_q (l := params) (by omega) H
 have hc := ih s
 have hfk := fun (n : Nat) => fms_in n [normalM k s]
 have hfp := fun (n : Nat) => pms_in n params
 generalize dualM opSome opAll s = o at d2 ⊢
 generalize normalM k s = y at hc hfk ⊢
 obtain ⟨yo, yn, ya, yp, ye, yk⟩ := y
 obtain ⟨ko, kn, ka, kp, ke, kk⟩ := k
 simp only [Fm.cells, Fm.rows, Ex.rows, sr_nil, pr_nil] at hc hfk ⊢
 refine pcall_body (ow := fun _ => false) (wf := fun _ => false) Ty.mixed Try.func61 rfl Ty.hb_61 (by rw [Try.ntmps61]; simp) ?_
 rw [Try.ntmps61, Try.results61]
 repeat' (first | refine a_seq fun K hK => ?_ | ((first | refine a_regionS ?_ | refine a_drawS (by decide +kernel) ?_); simp (maxSteps := 2000000) only [Ty.w, simprocAttr, k1, k2, k3, k4, k5, k6, e5, nsucc]) | (refine a_cond _ (by (try simp (maxSteps := 2000000) only [Ty.w, simprocAttr, k1, k2, k3, k4, k5, k6, e5, nsucc]); rfl) (fun hb => ?_) (fun hb => ?_) <;> (try simp only [hb0, decide_eq_true_eq, decide_eq_false_iff_not, simprocAttr] at hb) <;> (try (exfalso; omega))) | (refine hK _ _ ?_; clear hK; try simp only [pst0, simprocAttr]))
 (first | refine a_dcall0 (d1 _) (by (try simp only [Ty.w, simprocAttr, k1, k2, k3, k4, k5, k6, e5, nsucc]); try rfl) ?_ | refine a_dcallA (d1 _) (by (try simp only [Ty.w, simprocAttr, k1, k2, k3, k4, k5, k6, e5, nsucc]); try rfl) (by simp only [Ty.w, simprocAttr, k1, k2, k3, k4, k5, k6, e5, nsucc]; try trivial) ?_); simp (maxSteps := 2000000) only [Ty.w, simprocAttr, Option.getD_some, k1, k2, k3, k4, k5, k6, e5, nsucc]
 skip
 (first | refine a_dcall0 (d2 _) (by (try simp only [Ty.w, simprocAttr, nsucc]); try rfl) ?_ | refine a_dcallA (d2 _) (by (try simp only [Ty.w, simprocAttr, nsucc]); try rfl) (by simp only [Ty.w, simprocAttr, nsucc]; try trivial) ?_); simp (maxSteps := 2000000) only [Ty.w, simprocAttr, Option.getD_some, nsucc]
 repeat' (first | refine a_seq fun K hK => ?_ | (refine a_drawS (by decide +kernel) ?_; simp (maxSteps := 2000000) only [Ty.w, simprocAttr, nsucc]) | (refine hK _ _ ?_; clear hK; try simp only [pst0, simprocAttr]))
 (first | refine a_dcall0 (hP _) (by (try simp only [Ty.w, simprocAttr, nsucc]); try rfl) ?_ | refine a_dcallA (hP _) (by (try simp only [Ty.w, simprocAttr, nsucc]); try rfl) (by simp only [Ty.w, simprocAttr, nsucc]; try trivial) ?_); simp (maxSteps := 2000000) only [Ty.w, simprocAttr, Option.getD_some, nsucc]
 skip
 (first | refine a_dcall0 (hc _) (by (try simp only [Ty.w, simprocAttr, nsucc]); try rfl) ?_ | refine a_dcallA (hc _) (by (try simp only [Ty.w, simprocAttr, nsucc]); try rfl) (by simp only [Ty.w, simprocAttr, nsucc]; try trivial) ?_); simp (maxSteps := 2000000) only [Ty.w, simprocAttr, Option.getD_some, nsucc]
 repeat' (first | (refine a_ret ?_; simp (maxSteps := 2000000) only [Ty.w, simprocAttr, nsucc, putC]) | (refine hK _ _ ?_; clear hK; try simp only [pst0, simprocAttr]) | (with_reducible refine a_past2 (by simp only [List.forall_mem_cons, Ty.w, simprocAttr, nsucc, putC]; (repeat' apply And.intro) <;> first | trivial | exact .inl (by decide +kernel)) ?_; try simp (maxSteps := 2000000) only [Ty.w, simprocAttr, nsucc, putC]))
 exact ⟨frz_fm (frz_imm (hfp _)) frz_nilslice (frz_imm (hfk _)), g1.set (Nat.le_refl _) _⟩
end Go.Proofs.Ytjlkapgpjamnkaa
namespace Go.Proofs.Ytjlkapgpjamnkaa
open Go.AM
set_option maxHeartbeats 4000000
set_option maxRecDepth 20000
theorem a_hold1 {P : Program} {ow : Nat → Bool} {wf : FuncId → Bool} {n : Nat} {Q : Post} {s : Slots} {h : Heap} (id : Nat) {ops : Array Oper} {d : Bool} {y : Code} (hh : Hold (awp P ow wf n (.seq (.region id ops d) y) Q s h)) : awp P ow wf n (.seq (.region id ops d) y) Q s h := hh.out
theorem flatM_take {o : ByteArray} {N : List Fm} {k : Nat} {n : Fm} (h : N[k]? = some n) : flatM o (N.take (k + 1)) = flatM o (N.take k) ++ (if bEq (opOf n) o = true then fkids n else [n]) := by
 rw [List.take_add_one, h]; simp [flatM]
theorem flatM_le (o : ByteArray) (N : List Fm) (k : Nat) : (flatM o (N.take k)).length ≤ (flatM o N).length := by
 have h : flatM o N = flatM o (N.take k) ++ flatM o (N.drop k) := by
  conv => lhs; rw [← List.take_append_drop k N]
  simp only [flatM, List.flatMap_append]
 rw [h, List.length_append]; omega
structure NrI (h : Heap) (o : ByteArray) (L : List Fm) (p : PV) (h' : Heap) : Prop where
 grow : Grow h h'
 lt : h.next + 1 < h'.next
 o1 : h'.obj h.next = some (.arr 6 [[.sc (.string ⟨#[]⟩), .sc (.string ⟨#[]⟩), .sc (.slice none 0 0), .sc (.slice none 0 0), .sc (.slice none 0 0), .sc (.slice none 0 0)]])
 o2 : h'.obj (h.next + 1) = some (.arr 6 [[sPV o, .sc (.string ⟨#[]⟩), .sc (.slice none 0 0), .sc (.slice none 0 0), .sc (.slice none 0 0), p]])
 tl : Tl h' (h.next + 2) 6 p (Fm.rows L)
theorem NrI.up {h h' H : Heap} {o : ByteArray} {L : List Fm} {p : PV} (i : NrI h o L p h') (hn : h'.next ≤ H.next) (ho : ∀ j, j < h'.next → H.obj j = h'.obj j) : NrI h o L p H :=
 ⟨i.grow.trans ⟨hn, ho⟩, Nat.lt_of_lt_of_le i.lt hn, (ho _ (by have := i.lt; omega)).trans i.o1, (ho _ i.lt).trans i.o2, i.tl.up hn fun j _ hj => ho j hj⟩
theorem NrI.pc {h h' : Heap} {o : ByteArray} {L : List Fm} {p : PV} (i : NrI h o L p h') : p.cells = [p] ∧ oneC p = true := by
 rcases i.tl with ⟨_, rfl | rfl⟩ | ⟨_, _, _, rfl, _⟩ <;> exact ⟨rfl, rfl⟩
theorem NrI.push {h h' HT : Heap} {o : ByteArray} {L M : List Fm} {p : PV} {m : Nat} {R : List (List PV)} (i : NrI h o L p h') (t3 : HT.next = h'.next) (t4 : ∀ j, j < h.next + 2 → HT.obj j = h'.obj j) (hk : Keep h HT) (hR : R = Fm.rows (L ++ M)) (hm : m = (L ++ M).length) :
  NrI h o (L ++ M) (.own HT.next 0 m) ((HT.new (.arr 6 R)).set (h.next + 1) (.arr 6 [[sPV o, .sc (.string ⟨#[]⟩), .sc (.slice none 0 0), .sc (.slice none 0 0), .sc (.slice none 0 0), .own HT.next 0 m]])) := by
 have hl := i.lt
 subst hR
 refine ⟨((show Grow h HT from ⟨hk.1, hk.2⟩).new _).set (Nat.le_succ _) _, by simp only [Heap.set, Heap.new]; omega, ?_, by simp only [Heap.set, if_true], ?_⟩
 ·have n1 : ¬ h.next = h.next + 1 := by omega
  have n2 : ¬ h.next = HT.next := by omega
  simp only [Heap.set, Heap.new, n1, n2, if_false]
  rw [t4 _ (by omega)]; exact i.o1
 ·have : Tl (HT.new (.arr 6 (Fm.rows (L ++ M)))) (h.next + 2) 6 (.own HT.next 0 m) (Fm.rows (L ++ M)) := Tl.grow (by omega) (by rw [hm, Fm.rows_len])
  exact this.up (Nat.le_refl _) (fun j hj _ => by simp only [Heap.set]; rw [if_neg (by omega)])
theorem norm_and {kids : List Fm} (hkl : kids.length ≤ 1048576) (hB : ∀ o s, (flatM o (normalMs kids s)).length ≤ 1073741824) (ih : ∀ k ∈ kids, NormC k) : NormC (.mk opAnd ⟨#[]⟩ [] [] [] kids) := by
 intro s h
 show PCall _ _ _ _ fun r h' => r = .agg (combM (dualM opAnd opOr s) (normalMs kids s)).cells ∧ h' = h
 refine PCall.frz Ty.hb_61 ?_
 have hD := fun H => dual_c opAnd opOr s H
 have hB := hB (dualM opAnd opOr s) s
 generalize dualM opAnd opOr s = o at hD hB ⊢
 have hcs : ∀ k ∈ kids, ∀ h : Heap, PCall Try.prog 61 [.agg k.cells, .sc (.bool s)] h fun r h' => r = .agg (normalM k s).cells ∧ h' = h := fun k hk => ih k hk s
 clear ih
 rw [normalMs_map] at hB ⊢
 have hlK := Fm.rows_len kids
 simp only [combM, Fm.cells, Ex.rows, sr_nil, pr_nil]
 have k1 : (opAnd.data.toList == (#[110, 111, 116] : Array UInt8).toList) = false := rfl
 have k2 : (opAnd.data.toList == (#[105, 109, 112, 108, 121] : Array UInt8).toList) = false := rfl
 have k3 : (opAnd.data.toList == (#[97, 110, 100] : Array UInt8).toList) = true := rfl
 refine pcall_body (ow := fun _ => false) (wf := fun _ => false) Ty.mixed Try.func61 rfl Ty.hb_61 (by rw [Try.ntmps61]; simp) ?_
 rw [Try.ntmps61, Try.results61]
 repeat' (first | refine a_seq fun K hK => ?_ | (refine a_block ?_) | ((first | refine a_regionS ?_ | refine a_region (fun K hK => ?_)); simp (maxSteps := 2000000) only [Ty.w, simprocAttr, k1, k2, k3, nsucc]) | (refine hK _ _ ?_; clear hK; try simp only [pst0, simprocAttr]))
 refine owp_useQ (hD _) (by (try simp only [Ty.w, simprocAttr, k1, k2, k3, nsucc]); try rfl) ?_; simp (maxSteps := 2000000) only [Ty.w, simprocAttr, k1, k2, k3, nsucc]
 repeat' (first | refine a_seq fun K hK => ?_ | (refine a_block ?_) | (refine a_regionS ?_; simp (maxSteps := 2000000) only [Ty.w, simprocAttr, nsucc, hlK]) | (refine hK _ _ ?_; clear hK; try simp only [pst0, simprocAttr]))
 clear hD
 refine a_loop (fun m S h' => S 1 = .sc (.bool s) ∧ S 4 = .ptr h.next 0 0 ∧ S 5 = sPV o ∧ S 7 = .ptr (h.next + 1) 0 0 ∧ S 154 = .imm 6 (Fm.rows kids) ∧ S 155 = .sc (.int .i64 kids.length) ∧ ∃ (k : Nat) (p : PV), S 156 = .sc (.int .i64 k) ∧ k ≤ kids.length ∧ m = kids.length - k ∧ NrI h o (flatM o ((kids.take k).map (normalM · s))) p h') kids.length ?_ ?_
 ·simp only [Ty.w, simprocAttr]
  refine ⟨0, _, rfl, by omega, rfl, (((Grow.refl h).new _).new _).set (Nat.le_succ _) _, ?_, ?_, ?_, Tl.nil⟩
  ·simp only [Heap.set, Heap.new]; omega
  ·simp [Heap.set, Heap.new]
  ·simp [Heap.set, Heap.new]
 ·clear k1 k2 k3
  rintro m S h' ⟨g1, g4, g5, g7, g154, g155, k, p, g156, hk, rfl, hI⟩
  by_cases hlt : k < kids.length
  ·have hd : decide ((k : Int) < (kids.length : Int)) = true := by simp; omega
   have w7 : IntKind.i64.wrap ((k : Int) + 1) = k + 1 := by rw [wrap64 (by omega) (by omega)]
   obtain ⟨x, hx⟩ : ∃ x, kids[k]? = some x := ⟨_, List.getElem?_eq_getElem hlt⟩
   have hr := Fm.rows_get hx
   have hc := hcs x (List.mem_of_getElem? hx)
   have hF := flatM_take (o := o) (N := kids.map (normalM · s)) (k := k) (n := normalM x s) (by simp [hx])
   have hl1 := Nat.le_trans (flatM_le o (kids.map (normalM · s)) (k + 1)) hB
   rw [← List.map_take, ← List.map_take] at hF
   rw [← List.map_take, hF, List.length_append] at hl1
   generalize flatM o ((kids.take k).map (normalM · s)) = L at hI hF hl1
   generalize normalM x s = y at hc hF hl1
   obtain ⟨yo, yn, ya, yp, ye, yk⟩ := y
   obtain ⟨xo, xn, xa, xp, xe, xk⟩ := x
   simp only [Fm.cells, opOf, fkids] at hr hc hF hl1
   clear hcs
   repeat' (first | refine a_seq fun K hK => ?_ | (refine a_regionS ?_; simp (maxSteps := 2000000) only [Ty.w, simprocAttr, g1, g4, g5, g7, g154, g155, g156, hd, hr, nsucc]) | (refine a_skip ?_; try simp only [pst0, simprocAttr]) | (refine a_cond _ (by (try simp (maxSteps := 2000000) only [Ty.w, simprocAttr, g1, g4, g5, g7, g154, g155, g156, hd, hr, nsucc]); rfl) (fun hb => ?_) (fun hb => ?_) <;> (try simp only [hb0, decide_eq_true_eq, decide_eq_false_iff_not, simprocAttr] at hb) <;> (try (exfalso; omega))) | (refine hK _ _ ?_; clear hK; try simp only [pst0, simprocAttr]))
   refine owp_useQ (hc _) (by (try simp only [Ty.w, simprocAttr, g1, g4, g5, g7, g154, g155, g156, nsucc]); try rfl) ?_; simp (maxSteps := 2000000) only [Ty.w, simprocAttr, g1, g4, g5, g7, g154, g155, g156, nsucc]
   repeat' (first | (with_reducible refine a_hold1 36 ?_) | (first | (refine hK _ _ ?_; clear hK; try simp only [pst0, simprocAttr])))
   refine ⟨?_⟩
   refine a_gen (fun S H => S 1 = .sc (.bool s) ∧ S 4 = .ptr h.next 0 0 ∧ S 5 = sPV o ∧ S 7 = .ptr (h.next + 1) 0 0 ∧ S 10 = .ptr (h'.next + 1) 0 0 ∧ S 154 = .imm 6 (Fm.rows kids) ∧ S 155 = .sc (.int .i64 kids.length) ∧ S 156 = .sc (.int .i64 k) ∧ H.obj (h'.next + 1) = some (.arr 6 [[sPV yo, sPV yn, .imm 1 (strRows ya), .imm 2 (pmRows yp), .imm 5 (Ex.rows ye), .imm 6 (Fm.rows yk)]]) ∧ H.next = h'.next + 2 ∧ ∀ j, j < h'.next → H.obj j = h'.obj j) ?_ ?_
   ·simp only [Ty.w, simprocAttr, g1, g4, g5, g7, g154, g155, g156]
    intro j hj
    have a1 : ¬ j = h'.next := by omega
    have a2 : ¬ j = h'.next + 1 := by omega
    simp only [a1, a2, if_false]
   clear g1 g4 g5 g7 g154 g155 g156 hr hd
   rintro S H ⟨g1, g4, g5, g7, g10, g154, g155, g156, hob, hnn, hold⟩
   have hI := hI.up (by omega) hold
   obtain ⟨hp1, hp2⟩ := hI.pc
   obtain ⟨HT, t1, t2, t3, t4, t5⟩ := hI.tl.tail
   have hkp := t5 h ⟨hI.grow.le, hI.grow.old⟩ (Nat.le_add_right _ _)
   have o2 := hI.o2
   have o2T := (t4 _ (by omega)).trans o2
   have hlt2 := hI.lt
   have n2 : (h.next + 1 = HT.next) = False := by simp; omega
   have hpr := Fm.rows_len L
   have hyr := Fm.rows_len yk
   cases q : (yo.data.toList == o.data.toList) with
   | true =>
    have qe : bEq yo o = true := q
    simp only [qe, if_true] at hF hl1
    have hb : (L.length + yk.length) * 128 ≤ 140737488355328 := by omega
    have hpush := hI.push (M := yk) (m := L.length + yk.length) (R := Fm.rows L ++ Fm.rows yk) t3 t4 hkp (by simp only [Fm.rows_map, List.map_append]) (by simp)
    rw [← hF, t3] at hpush
    repeat' (first | refine a_seq fun K hK => ?_ | (refine a_block ?_) | ((first | refine a_regionS ?_ | refine a_region (fun K hK => ?_)); simp (maxSteps := 2000000) only [Ty.w, simprocAttr, g1, g4, g5, g7, g10, g154, g155, g156, hob, q, o2, o2T, n2, t1, t2, hpr, hyr, hp1, hp2, hb, w7, putC]) | (refine hK _ _ ?_; clear hK; try simp only [pst0, simprocAttr]))
    exact ⟨kids.length - (k + 1), by omega, k + 1, _, by simp, by omega, rfl, hpush⟩
   | false =>
    have qe : bEq yo o = false := q
    simp only [qe, Bool.false_eq_true, if_false, List.length_cons, List.length_nil] at hF hl1
    have hb : (L.length + 1) * 128 ≤ 140737488355328 := by omega
    have hpush := hI.push (M := [.mk yo yn ya yp ye yk]) (m := L.length + 1) (R := Fm.rows L ++ Fm.rows [.mk yo yn ya yp ye yk]) t3 t4 hkp (by simp only [Fm.rows_map, List.map_append]) (by simp)
    rw [← hF, t3] at hpush
    simp only [Fm.rows, Fm.cells] at hpush
    repeat' (first | refine a_seq fun K hK => ?_ | (refine a_block ?_) | ((first | refine a_regionS ?_ | refine a_region (fun K hK => ?_)); simp (maxSteps := 2000000) only [Ty.w, simprocAttr, g1, g4, g5, g7, g10, g154, g155, g156, hob, q, o2, o2T, n2, t1, t2, hpr, hp1, hp2, hb, w7, putC]) | (refine hK _ _ ?_; clear hK; try simp only [pst0, simprocAttr]))
    exact ⟨kids.length - (k + 1), by omega, k + 1, _, by simp, by omega, rfl, hpush⟩
  ·have hd : decide ((k : Int) < (kids.length : Int)) = false := by simp; omega
   have hke : k = kids.length := by omega
   subst hke
   rw [List.take_length] at hI
   have o1 := hI.o1
   have o2 := hI.o2
   obtain ⟨hp1, hp2⟩ := hI.pc
   repeat' (first | refine a_seq fun K hK => ?_ | ((first | refine a_regionS ?_ | refine a_ret ?_); simp (maxSteps := 2000000) only [Ty.w, simprocAttr, g1, g4, g5, g7, g154, g155, g156, hd, o1, o2, hp1, hp2, putC]) | (refine a_exit ?_; try simp only [pst0, simprocAttr]) | (refine a_cond _ (by (try simp (maxSteps := 2000000) only [Ty.w, simprocAttr, g1, g4, g5, g7, g154, g155, g156, hd, o1, o2, hp1, hp2, putC]); rfl) (fun hb => ?_) (fun hb => ?_) <;> (try simp only [hb0, decide_eq_true_eq, decide_eq_false_iff_not, simprocAttr] at hb) <;> (try (exfalso; omega))) | ((first | refine hK _ _ ?_ | (clear hK; refine hK _ _ ?_)); clear hK; try simp only [pst0, simprocAttr]))
   refine ⟨frz_fm frz_nilslice frz_nilslice ?_, hI.grow.set (Nat.le_refl _) _⟩
   exact tl_frzF (by omega) (hI.tl.up (Nat.le_refl _) fun j hj _ => by simp only [Heap.set]; rw [if_neg (by omega)])
theorem norm_or {kids : List Fm} (hkl : kids.length ≤ 1048576) (hB : ∀ o s, (flatM o (normalMs kids s)).length ≤ 1073741824) (ih : ∀ k ∈ kids, NormC k) : NormC (.mk opOr ⟨#[]⟩ [] [] [] kids) := by
 intro s h
 show PCall _ _ _ _ fun r h' => r = .agg (combM (dualM opOr opAnd s) (normalMs kids s)).cells ∧ h' = h
 refine PCall.frz Ty.hb_61 ?_
 have hD := fun H => dual_c opOr opAnd s H
 have hB := hB (dualM opOr opAnd s) s
 generalize dualM opOr opAnd s = o at hD hB ⊢
 have hcs : ∀ k ∈ kids, ∀ h : Heap, PCall Try.prog 61 [.agg k.cells, .sc (.bool s)] h fun r h' => r = .agg (normalM k s).cells ∧ h' = h := fun k hk => ih k hk s
 clear ih
 rw [normalMs_map] at hB ⊢
 have hlK := Fm.rows_len kids
 simp only [combM, Fm.cells, Ex.rows, sr_nil, pr_nil]
 have k1 : (opOr.data.toList == (#[110, 111, 116] : Array UInt8).toList) = false := rfl
 have k2 : (opOr.data.toList == (#[105, 109, 112, 108, 121] : Array UInt8).toList) = false := rfl
 have k3 : (opOr.data.toList == (#[97, 110, 100] : Array UInt8).toList) = false := rfl
 have k4 : (opOr.data.toList == (#[111, 114] : Array UInt8).toList) = true := rfl
 refine pcall_body (ow := fun _ => false) (wf := fun _ => false) Ty.mixed Try.func61 rfl Ty.hb_61 (by rw [Try.ntmps61]; simp) ?_
 rw [Try.ntmps61, Try.results61]
 repeat' (first | refine a_seq fun K hK => ?_ | (refine a_block ?_) | ((first | refine a_regionS ?_ | refine a_region (fun K hK => ?_)); simp (maxSteps := 2000000) only [Ty.w, simprocAttr, k1, k2, k3, k4, nsucc]) | (refine hK _ _ ?_; clear hK; try simp only [pst0, simprocAttr]))
 refine owp_useQ (hD _) (by (try simp only [Ty.w, simprocAttr, k1, k2, k3, k4, nsucc]); try rfl) ?_; simp (maxSteps := 2000000) only [Ty.w, simprocAttr, k1, k2, k3, k4, nsucc]
 repeat' (first | refine a_seq fun K hK => ?_ | (refine a_block ?_) | (refine a_regionS ?_; simp (maxSteps := 2000000) only [Ty.w, simprocAttr, nsucc, hlK]) | (refine hK _ _ ?_; clear hK; try simp only [pst0, simprocAttr]))
 clear hD
 refine a_loop (fun m S h' => S 1 = .sc (.bool s) ∧ S 4 = .ptr h.next 0 0 ∧ S 5 = sPV o ∧ S 7 = .ptr (h.next + 1) 0 0 ∧ S 154 = .imm 6 (Fm.rows kids) ∧ S 155 = .sc (.int .i64 kids.length) ∧ ∃ (k : Nat) (p : PV), S 156 = .sc (.int .i64 k) ∧ k ≤ kids.length ∧ m = kids.length - k ∧ NrI h o (flatM o ((kids.take k).map (normalM · s))) p h') kids.length ?_ ?_
 ·simp only [Ty.w, simprocAttr]
  refine ⟨0, _, rfl, by omega, rfl, (((Grow.refl h).new _).new _).set (Nat.le_succ _) _, ?_, ?_, ?_, Tl.nil⟩
  ·simp only [Heap.set, Heap.new]; omega
  ·simp [Heap.set, Heap.new]
  ·simp [Heap.set, Heap.new]
 ·clear k1 k2 k3 k4
  rintro m S h' ⟨g1, g4, g5, g7, g154, g155, k, p, g156, hk, rfl, hI⟩
  by_cases hlt : k < kids.length
  ·have hd : decide ((k : Int) < (kids.length : Int)) = true := by simp; omega
   have w7 : IntKind.i64.wrap ((k : Int) + 1) = k + 1 := by rw [wrap64 (by omega) (by omega)]
   obtain ⟨x, hx⟩ : ∃ x, kids[k]? = some x := ⟨_, List.getElem?_eq_getElem hlt⟩
   have hr := Fm.rows_get hx
   have hc := hcs x (List.mem_of_getElem? hx)
   have hF := flatM_take (o := o) (N := kids.map (normalM · s)) (k := k) (n := normalM x s) (by simp [hx])
   have hl1 := Nat.le_trans (flatM_le o (kids.map (normalM · s)) (k + 1)) hB
   rw [← List.map_take, ← List.map_take] at hF
   rw [← List.map_take, hF, List.length_append] at hl1
   generalize flatM o ((kids.take k).map (normalM · s)) = L at hI hF hl1
   generalize normalM x s = y at hc hF hl1
   obtain ⟨yo, yn, ya, yp, ye, yk⟩ := y
   obtain ⟨xo, xn, xa, xp, xe, xk⟩ := x
   simp only [Fm.cells, opOf, fkids] at hr hc hF hl1
   clear hcs
   repeat' (first | refine a_seq fun K hK => ?_ | (refine a_regionS ?_; simp (maxSteps := 2000000) only [Ty.w, simprocAttr, g1, g4, g5, g7, g154, g155, g156, hd, hr, nsucc]) | (refine a_skip ?_; try simp only [pst0, simprocAttr]) | (refine a_cond _ (by (try simp (maxSteps := 2000000) only [Ty.w, simprocAttr, g1, g4, g5, g7, g154, g155, g156, hd, hr, nsucc]); rfl) (fun hb => ?_) (fun hb => ?_) <;> (try simp only [hb0, decide_eq_true_eq, decide_eq_false_iff_not, simprocAttr] at hb) <;> (try (exfalso; omega))) | (refine hK _ _ ?_; clear hK; try simp only [pst0, simprocAttr]))
   refine owp_useQ (hc _) (by (try simp only [Ty.w, simprocAttr, g1, g4, g5, g7, g154, g155, g156, nsucc]); try rfl) ?_; simp (maxSteps := 2000000) only [Ty.w, simprocAttr, g1, g4, g5, g7, g154, g155, g156, nsucc]
   repeat' (first | (with_reducible refine a_hold1 36 ?_) | (first | (refine hK _ _ ?_; clear hK; try simp only [pst0, simprocAttr])))
   refine ⟨?_⟩
   refine a_gen (fun S H => S 1 = .sc (.bool s) ∧ S 4 = .ptr h.next 0 0 ∧ S 5 = sPV o ∧ S 7 = .ptr (h.next + 1) 0 0 ∧ S 10 = .ptr (h'.next + 1) 0 0 ∧ S 154 = .imm 6 (Fm.rows kids) ∧ S 155 = .sc (.int .i64 kids.length) ∧ S 156 = .sc (.int .i64 k) ∧ H.obj (h'.next + 1) = some (.arr 6 [[sPV yo, sPV yn, .imm 1 (strRows ya), .imm 2 (pmRows yp), .imm 5 (Ex.rows ye), .imm 6 (Fm.rows yk)]]) ∧ H.next = h'.next + 2 ∧ ∀ j, j < h'.next → H.obj j = h'.obj j) ?_ ?_
   ·simp only [Ty.w, simprocAttr, g1, g4, g5, g7, g154, g155, g156]
    intro j hj
    have a1 : ¬ j = h'.next := by omega
    have a2 : ¬ j = h'.next + 1 := by omega
    simp only [a1, a2, if_false]
   clear g1 g4 g5 g7 g154 g155 g156 hr hd
   rintro S H ⟨g1, g4, g5, g7, g10, g154, g155, g156, hob, hnn, hold⟩
   have hI := hI.up (by omega) hold
   obtain ⟨hp1, hp2⟩ := hI.pc
   obtain ⟨HT, t1, t2, t3, t4, t5⟩ := hI.tl.tail
   have hkp := t5 h ⟨hI.grow.le, hI.grow.old⟩ (Nat.le_add_right _ _)
   have o2 := hI.o2
   have o2T := (t4 _ (by omega)).trans o2
   have hlt2 := hI.lt
   have n2 : (h.next + 1 = HT.next) = False := by simp; omega
   have hpr := Fm.rows_len L
   have hyr := Fm.rows_len yk
   cases q : (yo.data.toList == o.data.toList) with
   | true =>
    have qe : bEq yo o = true := q
    simp only [qe, if_true] at hF hl1
    have hb : (L.length + yk.length) * 128 ≤ 140737488355328 := by omega
    have hpush := hI.push (M := yk) (m := L.length + yk.length) (R := Fm.rows L ++ Fm.rows yk) t3 t4 hkp (by simp only [Fm.rows_map, List.map_append]) (by simp)
    rw [← hF, t3] at hpush
    repeat' (first | refine a_seq fun K hK => ?_ | (refine a_block ?_) | ((first | refine a_regionS ?_ | refine a_region (fun K hK => ?_)); simp (maxSteps := 2000000) only [Ty.w, simprocAttr, g1, g4, g5, g7, g10, g154, g155, g156, hob, q, o2, o2T, n2, t1, t2, hpr, hyr, hp1, hp2, hb, w7, putC]) | (refine hK _ _ ?_; clear hK; try simp only [pst0, simprocAttr]))
    exact ⟨kids.length - (k + 1), by omega, k + 1, _, by simp, by omega, rfl, hpush⟩
   | false =>
    have qe : bEq yo o = false := q
    simp only [qe, Bool.false_eq_true, if_false, List.length_cons, List.length_nil] at hF hl1
    have hb : (L.length + 1) * 128 ≤ 140737488355328 := by omega
    have hpush := hI.push (M := [.mk yo yn ya yp ye yk]) (m := L.length + 1) (R := Fm.rows L ++ Fm.rows [.mk yo yn ya yp ye yk]) t3 t4 hkp (by simp only [Fm.rows_map, List.map_append]) (by simp)
    rw [← hF, t3] at hpush
    simp only [Fm.rows, Fm.cells] at hpush
    repeat' (first | refine a_seq fun K hK => ?_ | (refine a_block ?_) | ((first | refine a_regionS ?_ | refine a_region (fun K hK => ?_)); simp (maxSteps := 2000000) only [Ty.w, simprocAttr, g1, g4, g5, g7, g10, g154, g155, g156, hob, q, o2, o2T, n2, t1, t2, hpr, hp1, hp2, hb, w7, putC]) | (refine hK _ _ ?_; clear hK; try simp only [pst0, simprocAttr]))
    exact ⟨kids.length - (k + 1), by omega, k + 1, _, by simp, by omega, rfl, hpush⟩
  ·have hd : decide ((k : Int) < (kids.length : Int)) = false := by simp; omega
   have hke : k = kids.length := by omega
   subst hke
   rw [List.take_length] at hI
   have o1 := hI.o1
   have o2 := hI.o2
   obtain ⟨hp1, hp2⟩ := hI.pc
   repeat' (first | refine a_seq fun K hK => ?_ | ((first | refine a_regionS ?_ | refine a_ret ?_); simp (maxSteps := 2000000) only [Ty.w, simprocAttr, g1, g4, g5, g7, g154, g155, g156, hd, o1, o2, hp1, hp2, putC]) | (refine a_exit ?_; try simp only [pst0, simprocAttr]) | (refine a_cond _ (by (try simp (maxSteps := 2000000) only [Ty.w, simprocAttr, g1, g4, g5, g7, g154, g155, g156, hd, o1, o2, hp1, hp2, putC]); rfl) (fun hb => ?_) (fun hb => ?_) <;> (try simp only [hb0, decide_eq_true_eq, decide_eq_false_iff_not, simprocAttr] at hb) <;> (try (exfalso; omega))) | ((first | refine hK _ _ ?_ | (clear hK; refine hK _ _ ?_)); clear hK; try simp only [pst0, simprocAttr]))
   refine ⟨frz_fm frz_nilslice frz_nilslice ?_, hI.grow.set (Nat.le_refl _) _⟩
   exact tl_frzF (by omega) (hI.tl.up (Nat.le_refl _) fun j hj _ => by simp only [Heap.set]; rw [if_neg (by omega)])
theorem norm_imp {a b : Fm} (hB : ∀ o s, (flatM o (normalMs [.mk opNot ⟨#[]⟩ [] [] [] [a], b] s)).length ≤ 1073741824) (ia : NormC a) (ib : NormC b) : NormC (.mk opImp ⟨#[]⟩ [] [] [] [a, b]) := by
 intro s h
 have hc0 := fun H => norm_or (kids := [.mk opNot ⟨#[]⟩ [] [] [] [a], b]) (by simp) hB (fun k hk => by
  simp only [List.mem_cons, List.not_mem_nil, or_false] at hk
  rcases hk with rfl | rfl
  ·exact norm_not ia
  ·exact ib) s H
 have hN : normalM (.mk opImp ⟨#[]⟩ [] [] [] [a, b]) s = normalM (.mk opOr ⟨#[]⟩ [] [] [] [.mk opNot ⟨#[]⟩ [] [] [] [a], b]) s := by
  simp only [normalM, nt_imp, nt_or, nt_not, normalMs, List.headD_cons, List.drop_succ_cons, List.drop_zero]
 rw [hN]
 refine PCall.frz Ty.hb_61 ?_
 have hfz := fun (n : Nat) (H : Heap) => fm_frz n H (normalM (.mk opOr ⟨#[]⟩ [] [] [] [.mk opNot ⟨#[]⟩ [] [] [] [a], b]) s)
 generalize normalM (.mk opOr ⟨#[]⟩ [] [] [] [.mk opNot ⟨#[]⟩ [] [] [] [a], b]) s = y at hc0 hfz ⊢
 have hc : ∀ H : Heap, PCall Try.prog 61 [.agg [sPV opOr, .sc (.string ⟨#[]⟩), .sc (.slice none 0 0), .sc (.slice none 0 0), .sc (.slice none 0 0), .imm 6 [[sPV opNot, .sc (.string ⟨#[]⟩), .sc (.slice none 0 0), .sc (.slice none 0 0), .sc (.slice none 0 0), .imm 6 [a.cells]], b.cells]], .sc (.bool s)] H fun r h' => r = .agg y.cells ∧ h' = H := fun H => by
  refine PCall.nz (hc0 H) ?_
  simp only [Fm.cells, Fm.rows, Ex.rows, sr_nil, pr_nil]
  refine nz_cons (nz_agg ?_) (NzL.refl _)
  refine nz_cons (Nz.refl _) (nz_cons (Nz.refl _) (nz_cons nz_nil (nz_cons nz_nil (nz_cons nz_nil (nz_cons (nz_imm ?_) (NzL.refl _))))))
  refine nzr_cons ?_ (NzR.refl _)
  exact nz_cons (Nz.refl _) (nz_cons (Nz.refl _) (nz_cons nz_nil (nz_cons nz_nil (nz_cons nz_nil (NzL.refl _)))))
 clear hc0 hN
 have g1 : Grow h (h.new (.arr 6 [[.sc (.string ⟨#[]⟩), .sc (.string ⟨#[]⟩), .sc (.slice none 0 0), .sc (.slice none 0 0), .sc (.slice none 0 0), .sc (.slice none 0 0)]])) := (Grow.refl h).new _
 obtain ⟨yo, yn, ya, yp, ye, yk⟩ := y
 obtain ⟨ao, an, aa, ap, ae, ak⟩ := a
 obtain ⟨bo, bn, ba, bp, be, bk⟩ := b
 simp only [Fm.cells, Fm.rows, Ex.rows, sr_nil, pr_nil] at hc hfz ⊢
 have k1 : (opImp.data.toList == (#[110, 111, 116] : Array UInt8).toList) = false := rfl
 have k2 : (opImp.data.toList == (#[105, 109, 112, 108, 121] : Array UInt8).toList) = true := rfl
 refine pcall_body (ow := fun _ => false) (wf := fun _ => false) Ty.mixed Try.func61 rfl Ty.hb_61 (by rw [Try.ntmps61]; simp) ?_
 rw [Try.ntmps61, Try.results61]
 have u1 : (0 : Int) ≤ 1 := by decide
 have u2 : (1 : Int) ≤ ((2 : Nat) : Int) := by decide
 repeat' (first | refine a_seq fun K hK => ?_ | ((first | refine a_regionS ?_ | refine a_drawS (by decide +kernel) ?_); simp (maxSteps := 2000000) only [Ty.w, simprocAttr, k1, k2, nsucc, u1, u2, Option.getD_some, Option.getD_none, Int.le_refl, Int.sub_zero, Int.toNat_one]) | (refine hK _ _ ?_; clear hK; try simp only [pst0, simprocAttr]))
 (first | refine a_dcall0 (hc _) (by (try simp only [Ty.w, simprocAttr, k1, k2, nsucc, u1, u2, Option.getD_none, Int.le_refl, Int.sub_zero, Int.toNat_one]); try rfl) ?_ | refine a_dcallA (hc _) (by (try simp only [Ty.w, simprocAttr, k1, k2, nsucc, u1, u2, Option.getD_none, Int.le_refl, Int.sub_zero, Int.toNat_one]); try rfl) (by simp only [Ty.w, simprocAttr, k1, k2, nsucc, u1, u2, Option.getD_none, Int.le_refl, Int.sub_zero, Int.toNat_one]; try trivial) ?_); simp (maxSteps := 2000000) only [Ty.w, simprocAttr, Option.getD_some, k1, k2, nsucc, u1, u2, Option.getD_none, Int.le_refl, Int.sub_zero, Int.toNat_one]
 repeat' (first | (refine a_ret ?_; simp (maxSteps := 2000000) only [Ty.w, simprocAttr, nsucc, putC]) | (refine hK _ _ ?_; clear hK; try simp only [pst0, simprocAttr]) | (with_reducible refine a_past2 (by simp only [List.forall_mem_cons, Ty.w, simprocAttr, nsucc, putC]; (repeat' apply And.intro) <;> first | trivial | exact .inl (by decide +kernel)) ?_; try simp (maxSteps := 2000000) only [Ty.w, simprocAttr, nsucc, putC]))
 exact ⟨frz_agg (hfz _ _), g1.set (Nat.le_refl _) _⟩
end Go.Proofs.Ytjlkapgpjamnkaa
namespace Go.Proofs.Ytjlkapgpjamnkaa
open Go.AM
set_option maxHeartbeats 4000000
set_option maxRecDepth 20000
mutual
def cntF : Fm → Nat
 | .mk _ _ _ _ _ kids => cntFs kids + 1
def cntFs : List Fm → Nat
 | [] => 0
 | k :: l => cntF k + cntFs l
end
theorem cntF_pos (f : Fm) : 1 ≤ cntF f := by cases f; simp [cntF]
theorem cntFs_map : ∀ l : List Fm, ∀ k ∈ l, cntF k ≤ cntFs l
 | [], _, h => by simp at h
 | x :: l, k, h => by
  simp only [cntFs]
  rcases List.mem_cons.1 h with rfl | h
  ·omega
  ·have := cntFs_map l k h; omega
mutual
theorem cntF_bulk : ∀ f : Fm, cntF f ≤ PV.bulkL f.cells
 | .mk op name args params exprs kids => by
  have := cntFs_bulk kids
  simp only [cntF, Fm.cells, PV.bulkL, PV.bulk]
  omega
theorem cntFs_bulk : ∀ l : List Fm, cntFs l ≤ PV.bulkR (Fm.rows l)
 | [] => by simp [cntFs]
 | k :: l => by
  have h1 := cntF_bulk k
  have h2 := cntFs_bulk l
  simp only [cntFs, Fm.rows, PV.bulkR]
  omega
end
theorem flatM_len (o : ByteArray) (s : Bool) : ∀ l : List Fm, (∀ k ∈ l, (fkids (normalM k s)).length ≤ 2 * cntF k) → (flatM o (normalMs l s)).length ≤ 2 * cntFs l
 | [], _ => by simp [normalMs, flatM]
 | k :: l, h => by
  have h1 := h k (by simp)
  have h2 := flatM_len o s l fun x hx => h x (by simp [hx])
  have h3 := cntF_pos k
  simp only [normalMs, flatM, List.flatMap_cons, List.length_append, cntFs] at h2 ⊢
  split <;> (try simp only [List.length_cons, List.length_nil]) <;> omega
theorem norm_len : ∀ f, shapedF f = true → ∀ s, (fkids (normalM f s)).length ≤ 2 * cntF f := by
 refine sf_ind ?_ ?_ ?_ ?_ ?_ ?_ ?_
 ·intro name args _ _ s
  simp only [normalM, nt_atom]
  split <;> simp [fkids, cntF, cntFs]
 ·intro args _ _ s
  simp only [normalM, nt_same]
  split <;> simp [fkids, cntF, cntFs]
 ·intro op a b ho _ _ s
  rcases ho with rfl | rfl | rfl
  ·simp only [normalM, nt_lt, cmpN]; split <;> simp [cmpM, fkids]
  ·simp only [normalM, nt_le, cmpN]; split <;> simp [cmpM, fkids]
  ·simp only [normalM, nt_eq, eqN]; split <;> simp [cmpM, fkids, cntF, cntFs]
 ·intro op kids ho _ ih s
  have h := flatM_len (dualM opAnd opOr s) s kids fun k hk => ih k hk s
  have h2 := flatM_len (dualM opOr opAnd s) s kids fun k hk => ih k hk s
  rcases ho with rfl | rfl
  ·simp only [normalM, nt_and, combM, fkids, cntF]; omega
  ·simp only [normalM, nt_or, combM, fkids, cntF]; omega
 ·intro k _ ih s
  have := ih (!s)
  simp only [normalM, nt_not, normalMs, List.headD_cons, cntF, cntFs]; omega
 ·intro a b _ _ ia ib s
  have h1 := ia (!s)
  have h2 := ib s
  have h3 := cntF_pos a
  have h4 := cntF_pos b
  simp only [normalM, nt_imp, normalMs, List.headD_cons, List.drop_succ_cons, List.drop_zero, cntF, cntFs]
  generalize normalM a (!s) = x at h1 ⊢
  generalize normalM b s = y at h2 ⊢
  show (flatM _ [x, y]).length ≤ _
  simp only [flatM, List.flatMap_cons, List.flatMap_nil, List.append_nil, List.length_append]
  split <;> split <;> (try simp only [List.length_cons, List.length_nil]) <;> omega
 ·intro op params k ho _ _ _ s
  rcases ho with rfl | rfl
  ·simp [normalM, nt_all, fkids, cntF]; omega
  ·simp [normalM, nt_some, fkids, cntF]; omega
theorem bindNil_c {f : Fm} (hsm : f.small) (hsh : shapedF f = true) (hb : PV.bulkL f.cells ≤ 16777216) (H : Heap) :
  PCall Try.prog 82 [.agg f.cells, .sc (.map none), .sc (.slice none 0 0)] H fun r h' => r = .agg f.cells ∧ h' = H := by
 refine PCall.nil_imm (z := 1) (pre := [.agg f.cells, .sc (.map none)]) (post := []) ?_
 have := bindF_c f hsm hsh (bound := []) (by simp only [List.length_nil]; omega) (MapAt.nil H)
 rw [bindFm_none (fun _ => rfl)] at this
 exact this
theorem normal_c : ∀ f, shapedF f = true → f.small → PV.bulkL f.cells ≤ 16777216 → NormC f := by
 refine sf_ind ?_ ?_ ?_ ?_ ?_ ?_ ?_
 ·intro name args h1 h2 hsm hb
  have hs : shapedF (.mk opAtom name args [] [] []) = true := sf_mk (by simp [partsOk, show shapeOf opAtom 0 = some (0, 0, false) from rfl, show termsOk opAtom name args = (nameB name && args.all termB) from rfl, h1, h2]) (by simp) (by simp)
  exact norm_atom fun H => bindNil_c hsm hs hb H
 ·intro args h1 h2 hsm hb
  have hs : shapedF (.mk opSame ⟨#[]⟩ args [] [] []) = true := sf_mk (by simp [partsOk, show shapeOf opSame 0 = some (0, 0, false) from rfl, show termsOk opSame ⟨#[]⟩ args = (emptyB ⟨#[]⟩ && decide (args.length = 2) && args.all termB) from rfl, h1, h2, show emptyB ⟨#[]⟩ = true from rfl]) (by simp) (by simp)
  exact norm_same fun H => bindNil_c hsm hs hb H
 ·intro op a b ho ha hb hsm _
  simp only [Fm.small, Ex.smalls] at hsm
  obtain ⟨_, _, ⟨sa, sb, _⟩, _⟩ := hsm
  rcases ho with rfl | rfl | rfl
  ·exact norm_lt sa ha sb hb
  ·exact norm_le sa ha sb hb
  ·exact norm_eq sa ha sb hb
 ·intro op kids ho hk ih hsm hb
  simp only [Fm.small] at hsm
  obtain ⟨_, _, _, hkl, hks⟩ := hsm
  rw [Fm.smalls_iff] at hks
  simp only [Fm.cells, PV.bulkL, PV.bulk] at hb
  have hB : ∀ o s, (flatM o (normalMs kids s)).length ≤ 1073741824 := fun o s => by
   have h1 := flatM_len o s kids fun k hkk => norm_len k (hk k hkk) s
   have h2 := cntFs_bulk kids
   omega
  have ihk : ∀ k ∈ kids, NormC k := fun k hkk => ih k hkk (hks k hkk) (by have := bulk_memF hkk; omega)
  rcases ho with rfl | rfl
  ·exact norm_and hkl hB ihk
  ·exact norm_or hkl hB ihk
 ·intro k _ ih hsm hb
  simp only [Fm.small, Fm.smalls] at hsm
  simp only [Fm.cells, PV.bulkL, PV.bulk, Fm.rows, PV.bulkR] at hb
  exact norm_not (ih hsm.2.2.2.2.1 (by omega))
 ·intro a b sa sb ia ib hsm hb
  simp only [Fm.small, Fm.smalls] at hsm
  simp only [Fm.cells, PV.bulkL, PV.bulk, Fm.rows, PV.bulkR] at hb
  have hna : shapedF (.mk opNot ⟨#[]⟩ [] [] [] [a]) = true := sf_mk po_not (by simp) (by simpa using sa)
  refine norm_imp (fun o s => ?_) (ia hsm.2.2.2.2.1 (by omega)) (ib hsm.2.2.2.2.2.1 (by omega))
  have h1 := flatM_len o s [.mk opNot ⟨#[]⟩ [] [] [] [a], b] fun k hk => by
   simp only [List.mem_cons, List.not_mem_nil, or_false] at hk
   rcases hk with rfl | rfl
   ·exact norm_len _ hna s
   ·exact norm_len _ sb s
  have h2 := cntF_bulk a
  have h3 := cntF_bulk b
  simp only [cntFs, cntF] at h1
  omega
 ·intro op params k ho hp _ ih hsm hb
  simp only [Fm.small, Fm.smalls] at hsm
  simp only [Fm.cells, PV.bulkL, PV.bulk, Fm.rows, PV.bulkR] at hb
  have ik := ih hsm.2.2.2.2.1 (by omega)
  rcases ho with rfl | rfl
  ·exact norm_all hsm.2.1 ik
  ·exact norm_some hsm.2.1 ik
def normF (f : Fm) : Fm := if validF f = true then normalM f true else zeroFm
theorem Normal_c {f : Fm} (hok : f.ok) (hsm : f.small) (hb : PV.bulkL f.cells ≤ 16777216) (h : Heap) :
  PCall Try.prog 22 [.agg f.cells] h fun r h' => r = .agg (normF f).cells ∧ h' = h := by
 have hv := fun H => fvalid_c hok hsm H
 have hn := fun (hsh : shapedF f = true) => normal_c f hsh hsm hb true
 have hvs : validF f = true → shapedF f = true := fun h => (validF_iff.1 h).1
 refine PCall.frz Ty.hb_22 ?_
 have g1 : Grow h (h.new (.arr 6 [[.sc (.string ⟨#[]⟩), .sc (.string ⟨#[]⟩), .sc (.slice none 0 0), .sc (.slice none 0 0), .sc (.slice none 0 0), .sc (.slice none 0 0)]])) := (Grow.refl h).new _
 cases q : validF f with
 | false =>
  rw [show normF f = zeroFm from if_neg (by rw [q]; simp)]
  rw [q] at hv
  obtain ⟨op, name, args, params, exprs, kids⟩ := f
  simp only [Fm.cells, zeroFm, Fm.rows, Ex.rows, sr_nil, pr_nil] at hv ⊢
  refine pcall_body (ow := fun _ => false) (wf := fun _ => false) Ty.mixed Try.func22 rfl Ty.hb_22 (by rw [Try.ntmps22]; simp) ?_
  rw [Try.ntmps22, Try.results22]
  repeat' (first | refine a_seq fun K hK => ?_ | (refine a_regionS ?_; simp (maxSteps := 2000000) only [Ty.w, simprocAttr, nsucc]) | (refine hK _ _ ?_; clear hK; try simp only [pst0, simprocAttr]))
  refine owp_useQ (hv _) (by (try simp only [Ty.w, simprocAttr, nsucc, Bool.not_false]); try rfl) ?_; simp (maxSteps := 2000000) only [Ty.w, simprocAttr, nsucc, Bool.not_false]
  repeat' (first | refine a_seq fun K hK => ?_ | ((first | refine a_regionS ?_ | refine a_ret ?_); simp (maxSteps := 2000000) only [Ty.w, simprocAttr, nsucc, Bool.not_false, putC]) | (refine hK _ _ ?_; clear hK; try simp only [pst0, simprocAttr]))
  exact ⟨frz_fm frz_nilslice frz_nilslice frz_nilslice, g1.set (Nat.le_refl _) _⟩
 | true =>
  rw [show normF f = normalM f true from if_pos q]
  rw [q] at hv
  have hc := hn (hvs q)
  have hfz := fun (n : Nat) (H : Heap) => fm_frz n H (normalM f true)
  clear hn hvs
  generalize normalM f true = y at hc hfz ⊢
  obtain ⟨yo, yn, ya, yp, ye, yk⟩ := y
  obtain ⟨op, name, args, params, exprs, kids⟩ := f
  simp only [Fm.cells] at hv hc hfz ⊢
  refine pcall_body (ow := fun _ => false) (wf := fun _ => false) Ty.mixed Try.func22 rfl Ty.hb_22 (by rw [Try.ntmps22]; simp) ?_
  rw [Try.ntmps22, Try.results22]
  repeat' (first | refine a_seq fun K hK => ?_ | (refine a_regionS ?_; simp (maxSteps := 2000000) only [Ty.w, simprocAttr, nsucc]) | (refine hK _ _ ?_; clear hK; try simp only [pst0, simprocAttr]))
  refine owp_useQ (hv _) (by (try simp only [Ty.w, simprocAttr, nsucc, Bool.not_true]); try rfl) ?_; simp (maxSteps := 2000000) only [Ty.w, simprocAttr, nsucc, Bool.not_true]
  repeat' (first | refine a_seq fun K hK => ?_ | (refine a_regionS ?_; simp (maxSteps := 2000000) only [Ty.w, simprocAttr, nsucc, Bool.not_true]) | (refine a_skip ?_; try simp only [pst0, simprocAttr]) | (refine a_cond _ (by (try simp (maxSteps := 2000000) only [Ty.w, simprocAttr, nsucc, Bool.not_true]); rfl) (fun hb => ?_) (fun hb => ?_) <;> (try simp only [hb0, decide_eq_true_eq, decide_eq_false_iff_not, simprocAttr] at hb) <;> (try (exfalso; omega))) | (refine hK _ _ ?_; clear hK; try simp only [pst0, simprocAttr]))
  refine owp_useQ (hc _) (by (try simp only [Ty.w, simprocAttr, nsucc]); try rfl) ?_; simp (maxSteps := 2000000) only [Ty.w, simprocAttr, nsucc]
  repeat' (first | (refine a_ret ?_; simp (maxSteps := 2000000) only [Ty.w, simprocAttr, nsucc, putC]) | (refine hK _ _ ?_; clear hK; try simp only [pst0, simprocAttr]))
  exact ⟨frz_agg (hfz _ _), g1.set (Nat.le_refl _) _⟩
end Go.Proofs.Ytjlkapgpjamnkaa
namespace Go.Proofs.Ytjlkapgpjamnkaa
open Go.AM
set_option maxHeartbeats 4000000
set_option maxRecDepth 20000
theorem lookR_take : ∀ (k : Nat) (n a : List ByteArray) {s t x : ByteArray}, n[k]? = some s → a[k]? = some t →
  lookR (n.take (k + 1)) (a.take (k + 1)) x = match lookR (n.take k) (a.take k) x with | some v => some v | none => if bEq x s = true then some t else none
 | 0, n :: ns, a :: aa, s, t, x, h1, h2 => by
  simp only [List.getElem?_cons_zero, Option.some.injEq] at h1 h2
  subst h1; subst h2
  simp [lookR]
 | k + 1, n :: ns, a :: aa, s, t, x, h1, h2 => by
  have ih := lookR_take k ns aa (s := s) (t := t) (x := x) (by simpa using h1) (by simpa using h2)
  simp only [List.take_succ_cons, lookR] at ih ⊢
  split
  ·rfl
  ·exact ih
 | 0, [], _, _, _, _, h1, _ => by simp at h1
 | 0, _ :: _, [], _, _, _, _, h2 => by simp at h2
 | k + 1, [], _, _, _, _, h1, _ => by simp at h1
 | k + 1, _ :: _, [], _, _, _, _, h2 => by simp at h2
theorem lookR_all : ∀ (n a : List ByteArray) (k : Nat) (x : ByteArray), min n.length a.length ≤ k → lookR (n.take k) (a.take k) x = lookR n a x
 | [], a, k, x, _ => by simp [lookR]
 | n :: ns, [], k, x, _ => by
  cases k <;> simp [lookR]
 | n :: ns, a :: aa, 0, x, h => by simp only [List.length_cons] at h; omega
 | n :: ns, a :: aa, k + 1, x, h => by
  have ih := lookR_all ns aa k x (by simp only [List.length_cons] at h; omega)
  simp only [List.take_succ_cons, lookR, ih]
theorem str_beq (a b : ByteArray) : (a == b) = bEq a b := by
 by_cases h : a = b
 ·subst h; rw [(bytes_beq a a).2 rfl]; simp [bEq]
 ·have h1 : (a == b) = false := by
   cases hh : a == b with
   | true => exact absurd ((bytes_beq a b).1 hh) h
   | false => rfl
  have h2 : bEq a b = false := by
   cases hh : bEq a b with
   | true => exact absurd (bEq_eq hh) h
   | false => rfl
  rw [h1, h2]
theorem lookE_snoc (s t x : ByteArray) : ∀ m : List (ByteArray × ByteArray), lookE (m ++ [(s, t)]) x = match lookE m x with | some v => some v | none => if bEq x s = true then some t else none
 | [] => by simp only [List.nil_append, lookE, str_beq]
 | (k, v) :: m => by
  have ih := lookE_snoc s t x m
  simp only [List.cons_append, lookE, ih]
  split <;> rfl
theorem mput_E (s t : ByteArray) : ∀ m : List (ByteArray × ByteArray), lookE m s = none → mput (.string s) (sPV t) (toE m) = some (toE (m ++ [(s, t)]))
 | [], _ => rfl
 | (k, v) :: m, h => by
  simp only [lookE] at h
  split at h
  ·simp at h
  ·rename_i hne
   have ih := mput_E s t m h
   have hk : (s == k) = false := by simpa using hne
   simp only [toE, List.map_cons, List.cons_append, mput, keyEq] at ih ⊢
   rw [hk]
   simp only [ih, Option.map_some]
def termsNA (n a : List ByteArray) : Bool := (a.take (min n.length a.length)).all termB
structure RmI (h : Heap) (n a : List ByteArray) (k : Nat) (m : List (ByteArray × ByteArray)) (h' : Heap) : Prop where
 grow : Grow h h'
 next : h'.next = h.next + 1
 ob : h'.obj h.next = some (.map (toE m))
 all : (a.take k).all termB = true
 look : ∀ x, lookE m x = if varB x = true then lookR (n.take k) (a.take k) x else none
structure RmR (h : Heap) (n a : List ByteArray) (r : PV) (h' : Heap) : Prop where
 grow : Grow h h'
 next : h'.next = h.next + 1
 res : (termsNA n a = true ∧ r = .tup [.mp h.next, .sc (.bool true)] ∧ MapAt h' (.mp h.next) (toM n a)) ∨ (termsNA n a = false ∧ r = .tup [.sc (.map none), .sc (.bool false)])
theorem replacement_c {n a : List ByteArray} {pN pA : PV} {h : Heap} (hp : Sl h 1 pN (strRows n)) (hq : Sl h 1 pA (strRows a)) (hn : n.length ≤ 1099511627776) (ha : a.length ≤ 1099511627776) (hns : ∀ s ∈ n, s.size ≤ bigN) (has : ∀ s ∈ a, s.size ≤ bigN) :
  PCall Try.prog 81 [pN, pA] h fun r h' => RmR h n a r h' := by
 refine pcall_wf Ty.hb_81 fun hwf => ?_
 have hlN : ∀ H, lenP H pN = some n.length := fun H => by rw [lenP_sl hp H, strRows_len]
 have hlA : ∀ H, lenP H pA = some a.length := fun H => by rw [lenP_sl hq H, strRows_len]
 have hkN := hp.lk
 have hkA := hq.lk
 have hmn : (if (a.length : Int) < (n.length : Int) then (a.length : Int) else (n.length : Int)) = ((min n.length a.length : Nat) : Int) := by
  split <;> omega
 obtain ⟨M, hM⟩ : ∃ M, min n.length a.length = M := ⟨_, rfl⟩
 rw [hM] at hmn
 refine pcall_body (ow := fun _ => false) (wf := fun _ => false) Ty.mixed Try.func81 rfl Ty.hb_81 (by rw [Try.ntmps81]; simp) ?_
 rw [Try.ntmps81, Try.results81]
 repeat' (first | refine a_seq fun K hK => ?_ | (refine a_block ?_) | (refine a_regionS ?_; simp (maxSteps := 2000000) only [Ty.w, simprocAttr, hlN, hlA, hkN, hkA, pmin, hmn]) | (refine hK _ _ ?_; clear hK; try simp only [pst0, simprocAttr]))
 refine a_loop (fun c S h' => S 0 = pN ∧ S 1 = pA ∧ S 6 = .mp h.next ∧ S 15 = .sc (.int .i64 M) ∧ ∃ (k : Nat) (m : List (ByteArray × ByteArray)), S 16 = .sc (.int .i64 k) ∧ k ≤ M ∧ c = M - k ∧ RmI h n a k m h') M ?_ ?_
 ·simp only [Ty.w, simprocAttr]
  exact ⟨0, [], rfl, by omega, rfl, (Grow.refl h).new _, by simp [Heap.new], by simp [Heap.new, toE], by simp, fun x => by simp [lookE, lookR]⟩
 ·rintro c S h' ⟨g0, g1, g6, g15, k, m, g16, hk, rfl, hI⟩
  obtain ⟨hg, hnx, hob, hall, hlk⟩ := id hI
  by_cases hlt : k < M
  ·have hd : decide ((k : Int) < (M : Int)) = true := by simp; omega
   have w7 : IntKind.i64.wrap ((k : Int) + 1) = k + 1 := by rw [wrap64 (by omega) (by omega)]
   obtain ⟨s, hx⟩ : ∃ s, n[k]? = some s := ⟨_, List.getElem?_eq_getElem (by omega)⟩
   obtain ⟨t, hy⟩ : ∃ t, a[k]? = some t := ⟨_, List.getElem?_eq_getElem (by omega)⟩
   have hkeep : Keep h h' := ⟨hg.le, hg.old⟩
   obtain ⟨px, hpx, hrx⟩ := hp.kget hwf (strRows_get hx)
   obtain ⟨py, hpy, hry⟩ := hq.kget hwf (strRows_get hy)
   have hpx := hpx h' hkeep
   have hrx := hrx h' hkeep
   have hpy := hpy h' hkeep
   have hry := hry h' hkeep
   have hsz := hns s (List.mem_of_getElem? hx)
   have htz := has t (List.mem_of_getElem? hy)
   have hct := fun H : Heap => term_c (h := H) htz
   have hcv := fun H : Heap => fvariable_c (h := H) (s := s) (by unfold bigN at hsz; omega)
   have hall2 : (a.take (k + 1)).all termB = ((a.take k).all termB && termB t) := by rw [List.take_add_one, hy]; simp
   rw [hall] at hall2
   have hlt2 : ∀ x, lookR (n.take (k + 1)) (a.take (k + 1)) x = match lookR (n.take k) (a.take k) x with | some v => some v | none => if bEq x s = true then some t else none := fun x => lookR_take k n a hx hy
   cases q1 : termB t with
   | false =>
    rw [q1] at hct hall2
    have hres : termsNA n a = false := by
     unfold termsNA
     rw [hM]
     have : (a.take M).all termB = true → (a.take (k + 1)).all termB = true := fun hh => by
      rw [List.all_eq_true] at hh ⊢
      intro y hy
      refine hh y ?_
      have e : a.take (k + 1) = (a.take M).take (k + 1) := by rw [List.take_take]; congr 1; omega
      rw [e] at hy
      exact List.mem_of_mem_take hy
     cases hh : (a.take M).all termB with
     | false => rfl
     | true => rw [this hh] at hall2; simp at hall2
    repeat' (first | refine a_seq fun K hK => ?_ | (refine a_regionS ?_; simp (maxSteps := 2000000) only [Ty.w, simprocAttr, g0, g1, g6, g15, g16, hd, hpy, hry]) | (refine a_skip ?_; try simp only [pst0, simprocAttr]) | (refine a_cond _ (by (try simp (maxSteps := 2000000) only [Ty.w, simprocAttr, g0, g1, g6, g15, g16, hd, hpy, hry]); rfl) (fun hb => ?_) (fun hb => ?_) <;> (try simp only [hb0, decide_eq_true_eq, decide_eq_false_iff_not, simprocAttr] at hb) <;> (try (exfalso; omega))) | (refine hK _ _ ?_; clear hK; try simp only [pst0, simprocAttr]))
    refine owp_useQ (hct _) (by (try simp only [Ty.w, simprocAttr, g0, g1, g6, g15, g16, Bool.not_false]); try rfl) ?_; simp (maxSteps := 2000000) only [Ty.w, simprocAttr, g0, g1, g6, g15, g16, Bool.not_false]
    repeat' (first | refine a_seq fun K hK => ?_ | ((first | refine a_regionS ?_ | refine a_ret ?_); simp (maxSteps := 2000000) only [Ty.w, simprocAttr, g0, g1, g6, g15, g16, Bool.not_false]) | (refine hK _ _ ?_; clear hK; try simp only [pst0, simprocAttr]))
    exact ⟨hg, hnx, .inr ⟨hres, rfl⟩⟩
   | true =>
    rw [q1] at hct hall2
    have hmf := mfind_E s m
    have keep : (lookE m s).isSome = true ∨ varB s = false → ∀ x, lookE m x = if varB x = true then lookR (n.take (k + 1)) (a.take (k + 1)) x else none := fun hq x => by
     rw [hlk x, hlt2 x]
     by_cases hv : varB x = true
     ·rw [if_pos hv, if_pos hv]
      cases hl : lookR (n.take k) (a.take k) x with
      | some v => rfl
      | none =>
       simp only
       split
       ·rename_i he
        have he2 := bEq_eq he
        subst he2
        rcases hq with hq | hq
        ·rw [hlk x, if_pos hv, hl] at hq; simp at hq
        ·rw [hv] at hq; simp at hq
       ·rfl
     ·rw [if_neg hv, if_neg hv]
    cases q2 : lookE m s with
    | some v =>
     rw [q2] at hmf
     simp only [Option.map_some] at hmf
     have fin2 := keep (.inl (by rw [q2]; try rfl))
     have W := And.intro g0 (And.intro g1 (And.intro g6 (And.intro g15 g16)))
     repeat' (first | refine a_seq fun K hK => ?_ | (refine a_regionS ?_; simp (maxSteps := 2000000) only [Ty.w, simprocAttr, W, hd, hpy, hry]) | (refine a_skip ?_; try simp only [pst0, simprocAttr]) | (refine a_cond _ (by (try simp (maxSteps := 2000000) only [Ty.w, simprocAttr, W, hd, hpy, hry]); rfl) (fun hb => ?_) (fun hb => ?_) <;> (try simp only [hb0, decide_eq_true_eq, decide_eq_false_iff_not, simprocAttr] at hb) <;> (try (exfalso; omega))) | (refine hK _ _ ?_; clear hK; try simp only [pst0, simprocAttr]))
     refine owp_useQ (hct _) (by (try simp only [Ty.w, simprocAttr, W, Bool.not_true]); try rfl) ?_; simp (maxSteps := 2000000) only [Ty.w, simprocAttr, W, Bool.not_true]
     repeat' (first | refine a_seq fun K hK => ?_ | (refine a_block ?_) | (refine a_regionS ?_; simp (maxSteps := 2000000) only [Ty.w, simprocAttr, W, hpx, hrx, hob, hmf, w7, Bool.not_true]) | (refine a_skip ?_; try simp only [pst0, simprocAttr]) | (refine a_cond _ (by (try simp (maxSteps := 2000000) only [Ty.w, simprocAttr, W, hpx, hrx, hob, hmf, w7, Bool.not_true]); rfl) (fun hb => ?_) (fun hb => ?_) <;> (try simp only [hb0, decide_eq_true_eq, decide_eq_false_iff_not, simprocAttr] at hb) <;> (try (exfalso; omega))) | (refine hK _ _ ?_; clear hK; try simp only [pst0, simprocAttr]))
     exact ⟨M - (k + 1), by omega, k + 1, m, by simp, by omega, rfl, ⟨hg, hnx, hob, by rw [hall2]; try rfl, fin2⟩⟩
    | none =>
     rw [q2] at hmf
     simp only [Option.map_none] at hmf
     cases q3 : varB s with
     | false =>
      rw [q3] at hcv
      have fin2 := keep (.inr q3)
      have W := And.intro g0 (And.intro g1 (And.intro g6 (And.intro g15 g16)))
      repeat' (first | refine a_seq fun K hK => ?_ | (refine a_regionS ?_; simp (maxSteps := 2000000) only [Ty.w, simprocAttr, W, hd, hpy, hry]) | (refine a_skip ?_; try simp only [pst0, simprocAttr]) | (refine a_cond _ (by (try simp (maxSteps := 2000000) only [Ty.w, simprocAttr, W, hd, hpy, hry]); rfl) (fun hb => ?_) (fun hb => ?_) <;> (try simp only [hb0, decide_eq_true_eq, decide_eq_false_iff_not, simprocAttr] at hb) <;> (try (exfalso; omega))) | (refine hK _ _ ?_; clear hK; try simp only [pst0, simprocAttr]))
      refine owp_useQ (hct _) (by (try simp only [Ty.w, simprocAttr, W, Bool.not_true]); try rfl) ?_; simp (maxSteps := 2000000) only [Ty.w, simprocAttr, W, Bool.not_true]
      repeat' (first | refine a_seq fun K hK => ?_ | (refine a_regionS ?_; simp (maxSteps := 2000000) only [Ty.w, simprocAttr, W, hpx, hrx, hob, hmf, Bool.not_true, Bool.not_false]) | (refine a_skip ?_; try simp only [pst0, simprocAttr]) | (refine a_cond _ (by (try simp (maxSteps := 2000000) only [Ty.w, simprocAttr, W, hpx, hrx, hob, hmf, Bool.not_true, Bool.not_false]); rfl) (fun hb => ?_) (fun hb => ?_) <;> (try simp only [hb0, decide_eq_true_eq, decide_eq_false_iff_not, simprocAttr] at hb) <;> (try (exfalso; omega))) | (refine hK _ _ ?_; clear hK; try simp only [pst0, simprocAttr]))
      refine owp_useQ (hcv _) (by (try simp only [Ty.w, simprocAttr, W]); try rfl) ?_; simp (maxSteps := 2000000) only [Ty.w, simprocAttr, W]
      repeat' (first | (refine a_block ?_) | (refine a_regionS ?_; simp (maxSteps := 2000000) only [Ty.w, simprocAttr, W, w7]) | (refine a_skip ?_; try simp only [pst0, simprocAttr]) | (refine hK _ _ ?_; clear hK; try simp only [pst0, simprocAttr]))
      exact ⟨M - (k + 1), by omega, k + 1, m, by simp, by omega, rfl, ⟨hg, hnx, hob, by rw [hall2]; try rfl, fin2⟩⟩
     | true =>
      rw [q3] at hcv
      have hmp := mput_E s t m q2
      have fin2 : ∀ x, lookE (m ++ [(s, t)]) x = if varB x = true then lookR (n.take (k + 1)) (a.take (k + 1)) x else none := fun x => by
       rw [lookE_snoc, hlk x, hlt2 x]
       by_cases hv : varB x = true
       ·rw [if_pos hv, if_pos hv]
       ·rw [if_neg hv, if_neg hv]
        simp only
        rw [if_neg]
        intro he
        rw [bEq_eq he] at hv
        exact hv q3
      have hg2 := hg.set (Nat.le_refl h.next) (.map (toE (m ++ [(s, t)])))
      have W := And.intro g0 (And.intro g1 (And.intro g6 (And.intro g15 (And.intro g16 (And.intro hpx (And.intro hpy (And.intro hrx (And.intro hry hob))))))))
      repeat' (first | refine a_seq fun K hK => ?_ | (refine a_regionS ?_; simp (maxSteps := 2000000) only [Ty.w, simprocAttr, W, hd]) | (refine a_skip ?_; try simp only [pst0, simprocAttr]) | (refine a_cond _ (by (try simp (maxSteps := 2000000) only [Ty.w, simprocAttr, W, hd]); rfl) (fun hb => ?_) (fun hb => ?_) <;> (try simp only [hb0, decide_eq_true_eq, decide_eq_false_iff_not, simprocAttr] at hb) <;> (try (exfalso; omega))) | (refine hK _ _ ?_; clear hK; try simp only [pst0, simprocAttr]))
      refine owp_useQ (hct _) (by (try simp only [Ty.w, simprocAttr, W, Bool.not_true]); try rfl) ?_; simp (maxSteps := 2000000) only [Ty.w, simprocAttr, W, Bool.not_true]
      repeat' (first | refine a_seq fun K hK => ?_ | (refine a_regionS ?_; simp (maxSteps := 2000000) only [Ty.w, simprocAttr, W, hmf, Bool.not_true, Bool.not_false]) | (refine a_skip ?_; try simp only [pst0, simprocAttr]) | (refine a_cond _ (by (try simp (maxSteps := 2000000) only [Ty.w, simprocAttr, W, hmf, Bool.not_true, Bool.not_false]); rfl) (fun hb => ?_) (fun hb => ?_) <;> (try simp only [hb0, decide_eq_true_eq, decide_eq_false_iff_not, simprocAttr] at hb) <;> (try (exfalso; omega))) | (refine hK _ _ ?_; clear hK; try simp only [pst0, simprocAttr]))
      refine owp_useQ (hcv _) (by (try simp only [Ty.w, simprocAttr, W]); try rfl) ?_; simp (maxSteps := 2000000) only [Ty.w, simprocAttr, W]
      repeat' (first | (refine a_block ?_) | ((first | refine a_regionS ?_ | refine a_draw (by decide +kernel) (fun K hK => ?_)); simp (maxSteps := 2000000) only [Ty.w, simprocAttr, W, hmp, w7]) | (refine hK _ _ ?_; clear hK; try simp only [pst0, simprocAttr]) | (with_reducible refine a_past2 (by simp only [List.forall_mem_cons, Ty.w, simprocAttr, g0, g1, g6, g15, g16, hpx, hrx, hpy, hry, hob, hmp, w7]; (repeat' apply And.intro) <;> first | trivial | exact .inl (by decide +kernel)) ?_; try simp (maxSteps := 2000000) only [Ty.w, simprocAttr, W, hmp, w7]))
      exact ⟨M - (k + 1), by omega, k + 1, m ++ [(s, t)], by simp, by omega, rfl, ⟨hg2, hnx, by simp [Heap.set], by rw [hall2]; try rfl, fin2⟩⟩
  ·have hd : decide ((k : Int) < (M : Int)) = false := by simp; omega
   have hke : k = M := by omega
   subst hke
   have hres : termsNA n a = true := by unfold termsNA; rw [hM]; exact hall
   repeat' (first | refine a_seq fun K hK => ?_ | ((first | refine a_regionS ?_ | refine a_ret ?_); simp (maxSteps := 2000000) only [Ty.w, simprocAttr, g0, g1, g6, g15, g16, hd]) | (refine a_exit ?_; try simp only [pst0, simprocAttr]) | (refine a_cond _ (by (try simp (maxSteps := 2000000) only [Ty.w, simprocAttr, g0, g1, g6, g15, g16, hd]); rfl) (fun hb => ?_) (fun hb => ?_) <;> (try simp only [hb0, decide_eq_true_eq, decide_eq_false_iff_not, simprocAttr] at hb) <;> (try (exfalso; omega))) | ((first | refine hK _ _ ?_ | (clear hK; refine hK _ _ ?_)); clear hK; try simp only [pst0, simprocAttr]))
   refine ⟨hg, hnx, .inl ⟨hres, rfl, ⟨⟨m, by simp only [mview, hob], fun x => ?_⟩, fun id e => by simp only [PV.mp.injEq] at e; omega⟩⟩⟩
   rw [hlk x, lookR_all n a k x (by omega)]
   unfold toM
   rw [look_filt]
theorem Bind_c {f : Fm} {n a : List ByteArray} {pN pA : PV} {h : Heap} (hp : Sl h 1 pN (strRows n)) (hq : Sl h 1 pA (strRows a)) (hok : f.ok) (hsm : f.small) (hb : PV.bulkL f.cells ≤ 1099511627776) (hn : n.length ≤ 1099511627776) (ha : a.length ≤ 1099511627776) (hns : ∀ s ∈ n, s.size ≤ bigN) (has : ∀ s ∈ a, s.size ≤ bigN) :
  PCall Try.prog 45 [.agg f.cells, pN, pA] h fun r h' => r = .agg (if termsNA n a = true ∧ validF f = true then bindFm (toM n a) f [] else zeroFm).cells ∧ h' = h := by
 have hv := fun H => fvalid_c hok hsm H
 have hsh : validF f = true → shapedF f = true := fun h => (validF_iff.1 h).1
 refine pcall_wf Ty.hb_45 fun hwf => ?_
 refine PCall.frz Ty.hb_45 ?_
 have hr := replacement_c (hp.up hwf (keep_new (o := .arr 6 [[.sc (.string ⟨#[]⟩), .sc (.string ⟨#[]⟩), .sc (.slice none 0 0), .sc (.slice none 0 0), .sc (.slice none 0 0), .sc (.slice none 0 0)]]) (Keep.refl h))) (hq.up hwf (keep_new (Keep.refl h))) hn ha hns has
 have hbd : ∀ H : Heap, validF f = true → MapAt H (.mp (h.next + 1)) (toM n a) → PCall Try.prog 82 [.agg f.cells, .mp (h.next + 1), .sc (.slice none 0 0)] H fun r h' => r = .agg (bindFm (toM n a) f []).cells ∧ h' = H := fun H hq hm => by
  refine PCall.nil_imm (z := 1) (pre := [.agg f.cells, .mp (h.next + 1)]) (post := []) ?_
  exact bindF_c f hsm (hsh hq) (bound := []) (by simpa using hb) hm
 have hfz := fun (n' : Nat) (H : Heap) => fm_frz n' H (bindFm (toM n a) f [])
 generalize bindFm (toM n a) f [] = y at hbd hfz ⊢
 generalize hY : (if termsNA n a = true ∧ validF f = true then y else zeroFm) = Y
 obtain ⟨yo, yn, ya, yp, ye, yk⟩ := y
 obtain ⟨op, name, args, params, exprs, kids⟩ := f
 simp only [Fm.cells] at hv hbd hfz
 simp only [Fm.cells]
 refine pcall_body (ow := fun _ => false) (wf := fun g => g == 81) Ty.mixed Try.func45 rfl Ty.hb_45 (by rw [Try.ntmps45]; simp) ?_
 rw [Try.ntmps45, Try.results45]
 repeat' (first | refine a_seq fun K hK => ?_ | (refine a_regionS ?_; simp (maxSteps := 2000000) only [Ty.w, simprocAttr, nsucc]) | (refine hK _ _ ?_; clear hK; try simp only [pst0, simprocAttr]))
 refine owp_useL hr (by (try simp only [Ty.w, simprocAttr]); try rfl) ?_
 rintro r h1 ⟨gr, nx, hres⟩
 have o1 : h1.obj h.next = some (.arr 6 [[.sc (.string ⟨#[]⟩), .sc (.string ⟨#[]⟩), .sc (.slice none 0 0), .sc (.slice none 0 0), .sc (.slice none 0 0), .sc (.slice none 0 0)]]) := by rw [gr.old _ (by simp [Heap.new])]; simp [Heap.new]
 have g1 : Grow h h1 := ((Grow.refl h).new _).trans gr
 rcases hres with ⟨q, rfl, hm⟩ | ⟨q, rfl⟩
 ·simp only [new_next] at hm
  simp (maxSteps := 2000000) only [Ty.w, simprocAttr, Ty.all, nsucc]
  cases q2 : validF (.mk op name args params exprs kids) with
  | false =>
   rw [q2] at hv
   have hY2 : Y = zeroFm := by rw [← hY, if_neg (by rw [q2]; simp)]
   subst hY2
   repeat' (first | refine a_seq fun K hK => ?_ | (refine a_regionS ?_; simp (maxSteps := 2000000) only [Ty.w, simprocAttr, nsucc, Bool.not_true]) | (refine hK _ _ ?_; clear hK; try simp only [pst0, simprocAttr]))
   refine owp_useQ (hv _) (by (try simp only [Ty.w, simprocAttr, nsucc, Bool.not_false]); try rfl) ?_; simp (maxSteps := 2000000) only [Ty.w, simprocAttr, nsucc, Bool.not_false]
   repeat' (first | refine a_seq fun K hK => ?_ | ((first | refine a_regionS ?_ | refine a_ret ?_); simp (maxSteps := 2000000) only [Ty.w, simprocAttr, nsucc, o1, Bool.not_false, putC]) | (refine hK _ _ ?_; clear hK; try simp only [pst0, simprocAttr]))
   exact ⟨frz_fm frz_nilslice frz_nilslice frz_nilslice, g1.set (Nat.le_refl _) _⟩
  | true =>
   rw [q2] at hv
   have hY2 : Y = .mk yo yn ya yp ye yk := by rw [← hY, if_pos ⟨q, q2⟩]
   subst hY2
   have hc := hbd h1 q2 hm
   repeat' (first | refine a_seq fun K hK => ?_ | (refine a_regionS ?_; simp (maxSteps := 2000000) only [Ty.w, simprocAttr, nsucc, Bool.not_true]) | (refine hK _ _ ?_; clear hK; try simp only [pst0, simprocAttr]))
   refine owp_useQ (hv _) (by (try simp only [Ty.w, simprocAttr, nsucc, Bool.not_true]); try rfl) ?_; simp (maxSteps := 2000000) only [Ty.w, simprocAttr, nsucc, Bool.not_true]
   repeat' (first | refine a_seq fun K hK => ?_ | (refine a_regionS ?_; simp (maxSteps := 2000000) only [Ty.w, simprocAttr, nsucc, Bool.not_true]) | (refine a_skip ?_; try simp only [pst0, simprocAttr]) | (refine a_cond _ (by (try simp (maxSteps := 2000000) only [Ty.w, simprocAttr, nsucc, Bool.not_true]); rfl) (fun hb => ?_) (fun hb => ?_) <;> (try simp only [hb0, decide_eq_true_eq, decide_eq_false_iff_not, simprocAttr] at hb) <;> (try (exfalso; omega))) | (refine hK _ _ ?_; clear hK; try simp only [pst0, simprocAttr]))
   refine owp_useQ (hc) (by (try simp only [Ty.w, simprocAttr, nsucc, o1, putC]); try rfl) ?_; simp (maxSteps := 2000000) only [Ty.w, simprocAttr, nsucc, o1, putC]
   repeat' (first | (refine a_ret ?_; simp (maxSteps := 2000000) only [Ty.w, simprocAttr, nsucc, o1, putC]) | (refine hK _ _ ?_; clear hK; try simp only [pst0, simprocAttr]))
   exact ⟨frz_agg (hfz _ _), g1.set (Nat.le_refl _) _⟩
 ·have hY2 : Y = zeroFm := by rw [← hY, if_neg (by rw [q]; simp)]
  subst hY2
  simp (maxSteps := 2000000) only [Ty.w, simprocAttr, Ty.all, nsucc]
  repeat' (first | refine a_seq fun K hK => ?_ | ((first | refine a_regionS ?_ | refine a_ret ?_); simp (maxSteps := 2000000) only [Ty.w, simprocAttr, nsucc, Bool.not_false, o1, putC]) | (refine hK _ _ ?_; clear hK; try simp only [pst0, simprocAttr]))
  exact ⟨frz_fm frz_nilslice frz_nilslice frz_nilslice, g1.set (Nat.le_refl _) _⟩
end Go.Proofs.Ytjlkapgpjamnkaa
namespace Go.Proofs.Ytjlkapgpjamnkaa
open Go.AM
set_option maxHeartbeats 4000000
set_option maxRecDepth 20000
structure VI (h : Heap) (id0 : Nat) (L : List ByteArray) (p : PV) (h' : Heap) : Prop where
 le : h.next ≤ h'.next
 old : ∀ j, j < id0 → h'.obj j = h.obj j
 tl : Tl h' id0 1 p (strRows L)
theorem VI.up {h h' H : Heap} {id0 : Nat} {L : List ByteArray} {p : PV} (i : VI h id0 L p h') (h0 : id0 ≤ h'.next) (hn : h'.next ≤ H.next) (ho : ∀ j, j < h'.next → H.obj j = h'.obj j) : VI h id0 L p H :=
 ⟨Nat.le_trans i.le hn, fun j hj => (ho j (by omega)).trans (i.old j hj), i.tl.up hn fun j _ hj => ho j hj⟩
theorem VI.trans {h h1 h2 : Heap} {id0 : Nat} {L : List ByteArray} {p : PV} (hn : h.next ≤ h1.next) (ho : ∀ j, j < id0 → h1.obj j = h.obj j) (i : VI h1 id0 L p h2) : VI h id0 L p h2 :=
 ⟨Nat.le_trans hn i.le, fun j hj => (i.old j hj).trans (ho j hj), i.tl⟩
theorem varsL_take {bound l : List ByteArray} {k : Nat} {s : ByteArray} (h : l[k]? = some s) : varsL bound (l.take (k + 1)) = varsL bound (l.take k) ++ (if (varB s && !memB bound s) = true then [s] else []) := by
 rw [List.take_add_one, h]
 simp only [varsL, List.filter_append, Option.toList_some, List.filter_cons, List.filter_nil]
theorem varsL_le (bound l : List ByteArray) (k : Nat) : (varsL bound (l.take k)).length ≤ l.length := by
 have h1 := List.length_filter_le (fun s => varB s && !memB bound s) (l.take k)
 have h2 := List.length_take_le k l
 simp only [varsL]
 have h3 : (l.take k).length ≤ l.length := by rw [List.length_take]; omega
 omega
theorem variables_c {l bound L : List ByteArray} (hs : ∀ s ∈ l, s.size ≤ bigN) (hb : bound.length ≤ bigN) (hl : L.length + l.length ≤ 1099511627776) {o : PV} {id0 : Nat} {h : Heap} (h0 : id0 ≤ h.next) (tl : Tl h id0 1 o (strRows L)) :
  PCall Try.prog 130 [o, .imm 1 (strRows l), .imm 1 (strRows bound)] h fun r h' => VI h id0 (L ++ varsL bound l) r h' := by
 have hb' : bound.length ≤ 9223372036854775807 := by unfold bigN at hb; omega
 have hlA := strRows_len l
 refine pcall_body (ow := fun _ => false) (wf := fun _ => false) Ty.mixed Try.func130 rfl Ty.hb_130 (by rw [Try.ntmps130]; simp) ?_
 rw [Try.ntmps130, Try.results130]
 repeat' (first | refine a_seq fun K hK => ?_ | (refine a_block ?_) | (refine a_regionS ?_; simp (maxSteps := 2000000) only [Ty.w, simprocAttr, hlA]) | (refine hK _ _ ?_; clear hK; try simp only [pst0, simprocAttr]))
 refine a_loop (fun m S h' => S 2 = .imm 1 (strRows bound) ∧ S 9 = .imm 1 (strRows l) ∧ S 10 = .sc (.int .i64 l.length) ∧ ∃ (k : Nat) (p : PV), S 11 = .sc (.int .i64 k) ∧ S 0 = p ∧ k ≤ l.length ∧ m = l.length - k ∧ VI h id0 (L ++ varsL bound (l.take k)) p h') l.length ?_ ?_
 ·simp only [Ty.w, simprocAttr]
  exact ⟨0, o, rfl, rfl, by omega, rfl, Nat.le_refl _, fun _ _ => rfl, by simpa [varsL] using tl⟩
 ·rintro m S h' ⟨g2, g9, g10, k, p, g11, g0, hk, rfl, hI⟩
  by_cases hlt : k < l.length
  ·have hd : decide ((k : Int) < (l.length : Int)) = true := by simp; omega
   have w7 : IntKind.i64.wrap ((k : Int) + 1) = k + 1 := by rw [wrap64 (by omega) (by omega)]
   obtain ⟨s, hx⟩ : ∃ s, l[k]? = some s := ⟨_, List.getElem?_eq_getElem hlt⟩
   have hr := strRows_get hx
   have hsz := hs s (List.mem_of_getElem? hx)
   have hv := fun h : Heap => fvariable_c (h := h) (s := s) (by unfold bigN at hsz; omega)
   have hc := fun h : Heap => contains_c (h := h) (l := bound) (s := s) hb'
   rw [memB_any] at hc
   have hT := varsL_take (bound := bound) hx
   have hle := varsL_le bound l k
   have hlen : (L ++ varsL bound (l.take k)).length ≤ 2199023255552 := by rw [List.length_append]; omega
   have same : varB s = false ∨ memB bound s = true → VI h id0 (L ++ varsL bound (l.take (k + 1))) p h' := fun hq => by
    rw [hT, if_neg (by rcases hq with hq | hq <;> simp [hq]), List.append_nil]; exact hI
   cases q1 : varB s with
   | false =>
    have fin := same (.inl q1)
    rw [q1] at hv
    repeat' (first | refine a_seq fun K hK => ?_ | (refine a_regionS ?_; simp (maxSteps := 2000000) only [Ty.w, simprocAttr, g2, g9, g10, g11, g0, hd, hr]) | (refine a_skip ?_; try simp only [pst0, simprocAttr]) | (refine a_cond _ (by (try simp (maxSteps := 2000000) only [Ty.w, simprocAttr, g2, g9, g10, g11, g0, hd, hr]); rfl) (fun hb => ?_) (fun hb => ?_) <;> (try simp only [hb0, decide_eq_true_eq, decide_eq_false_iff_not, simprocAttr] at hb) <;> (try (exfalso; omega))) | (refine hK _ _ ?_; clear hK; try simp only [pst0, simprocAttr]))
    refine owp_useQ (hv _) (by (try simp only [Ty.w, simprocAttr, g2, g9, g10, g11, g0]); try rfl) ?_; simp (maxSteps := 2000000) only [Ty.w, simprocAttr, g2, g9, g10, g11, g0]
    repeat' (first | (refine a_block ?_) | (refine a_regionS ?_; simp (maxSteps := 2000000) only [Ty.w, simprocAttr, g2, g9, g10, g11, g0, w7]) | (refine a_skip ?_; try simp only [pst0, simprocAttr]) | (refine hK _ _ ?_; clear hK; try simp only [pst0, simprocAttr]))
    exact ⟨l.length - (k + 1), by omega, k + 1, p, by simp, rfl, by omega, rfl, fin⟩
   | true =>
    rw [q1] at hv
    cases q2 : memB bound s with
    | true =>
     have fin := same (.inr q2)
     rw [q2] at hc
     have W := And.intro g2 (And.intro g9 (And.intro g10 (And.intro g11 g0)))
     repeat' (first | refine a_seq fun K hK => ?_ | (refine a_regionS ?_; simp (maxSteps := 2000000) only [Ty.w, simprocAttr, W, hd, hr]) | (refine a_skip ?_; try simp only [pst0, simprocAttr]) | (refine a_cond _ (by (try simp (maxSteps := 2000000) only [Ty.w, simprocAttr, W, hd, hr]); rfl) (fun hb => ?_) (fun hb => ?_) <;> (try simp only [hb0, decide_eq_true_eq, decide_eq_false_iff_not, simprocAttr] at hb) <;> (try (exfalso; omega))) | (refine hK _ _ ?_; clear hK; try simp only [pst0, simprocAttr]))
     refine owp_useQ (hv _) (by (try simp only [Ty.w, simprocAttr, W]); try rfl) ?_; simp (maxSteps := 2000000) only [Ty.w, simprocAttr, W]
     skip
     refine owp_useQ (hc _) (by (try simp only [Ty.w, simprocAttr, W, Bool.not_true]); try rfl) ?_; simp (maxSteps := 2000000) only [Ty.w, simprocAttr, W, Bool.not_true]
     repeat' (first | (refine a_block ?_) | (refine a_regionS ?_; simp (maxSteps := 2000000) only [Ty.w, simprocAttr, W, w7, Bool.not_true]) | (refine a_skip ?_; try simp only [pst0, simprocAttr]) | (refine hK _ _ ?_; clear hK; try simp only [pst0, simprocAttr]))
     exact ⟨l.length - (k + 1), by omega, k + 1, p, by simp, rfl, by omega, rfl, fin⟩
    | false =>
     rw [q2] at hc
     have hT2 : L ++ varsL bound (l.take (k + 1)) = L ++ varsL bound (l.take k) ++ [s] := by rw [hT, if_pos (by simp [q1, q2]), List.append_assoc]
     clear hT same
     generalize L ++ varsL bound (l.take k) = L2 at hI hT2 hlen
     obtain ⟨H, t1, t2, t3, t4, t5⟩ := hI.tl.tail
     have hpr := strRows_len L2
     have hbb : (L2.length + 1) * 16 ≤ 140737488355328 := by omega
     have hR : strRows (L2 ++ [s]) = strRows L2 ++ [[sPV s]] := by simp [strRows]
     have hle2 := hI.le
     have fin : VI h id0 (L2 ++ [s]) (.own h'.next 0 (L2.length + 1)) (H.new (.arr 1 (strRows L2 ++ [[sPV s]]))) := by
      refine ⟨by simp only [Heap.new]; omega, fun j hj => ?_, ?_⟩
      ·simp only [Heap.new]; rw [if_neg (by omega), t4 j hj]; exact hI.old j hj
      ·rw [← hR, ← t3]; exact Tl.grow (by omega) (by rw [strRows_len]; simp)
     rw [← hT2] at fin
     have W := And.intro g2 (And.intro g9 (And.intro g10 (And.intro g11 g0)))
     repeat' (first | refine a_seq fun K hK => ?_ | (refine a_regionS ?_; simp (maxSteps := 2000000) only [Ty.w, simprocAttr, W, hd, hr]) | (refine a_skip ?_; try simp only [pst0, simprocAttr]) | (refine a_cond _ (by (try simp (maxSteps := 2000000) only [Ty.w, simprocAttr, W, hd, hr]); rfl) (fun hb => ?_) (fun hb => ?_) <;> (try simp only [hb0, decide_eq_true_eq, decide_eq_false_iff_not, simprocAttr] at hb) <;> (try (exfalso; omega))) | (refine hK _ _ ?_; clear hK; try simp only [pst0, simprocAttr]))
     refine owp_useQ (hv _) (by (try simp only [Ty.w, simprocAttr, W]); try rfl) ?_; simp (maxSteps := 2000000) only [Ty.w, simprocAttr, W]
     skip
     refine owp_useQ (hc _) (by (try simp only [Ty.w, simprocAttr, W, Bool.not_false]); try rfl) ?_; simp (maxSteps := 2000000) only [Ty.w, simprocAttr, W, Bool.not_false]
     repeat' (first | (refine a_block ?_) | ((first | refine a_regionS ?_ | refine a_region (fun K hK => ?_)); simp (maxSteps := 2000000) only [Ty.w, simprocAttr, W, w7, t1, t2, hpr, hbb, Bool.not_false]) | (refine hK _ _ ?_; clear hK; try simp only [pst0, simprocAttr]))
     exact ⟨l.length - (k + 1), by omega, k + 1, _, by simp, rfl, by omega, rfl, fin⟩
  ·have hd : decide ((k : Int) < (l.length : Int)) = false := by simp; omega
   have hke : k = l.length := by omega
   subst hke
   rw [List.take_length] at hI
   repeat' (first | refine a_seq fun K hK => ?_ | ((first | refine a_regionS ?_ | refine a_ret ?_); simp (maxSteps := 2000000) only [Ty.w, simprocAttr, g2, g9, g10, g11, g0, hd]) | (refine a_exit ?_; try simp only [pst0, simprocAttr]) | (refine a_cond _ (by (try simp (maxSteps := 2000000) only [Ty.w, simprocAttr, g2, g9, g10, g11, g0, hd]); rfl) (fun hb => ?_) (fun hb => ?_) <;> (try simp only [hb0, decide_eq_true_eq, decide_eq_false_iff_not, simprocAttr] at hb) <;> (try (exfalso; omega))) | ((first | refine hK _ _ ?_ | (clear hK; refine hK _ _ ?_)); clear hK; try simp only [pst0, simprocAttr]))
   exact hI
theorem varsL_len (bound l : List ByteArray) : (varsL bound l).length ≤ l.length := List.length_filter_le _ _
mutual
theorem freeEx_len (bound : List ByteArray) : ∀ e : Ex, (freeEx bound e).length ≤ PV.bulkL e.cells
 | .mk op name n args kids => by
  have h1 := varsL_len bound args
  have h2 := freeExs_len bound kids
  have h3 := bulkR_strs args
  simp only [freeEx, List.length_append, Ex.cells, PV.bulkL, PV.bulk]
  omega
theorem freeExs_len (bound : List ByteArray) : ∀ l : List Ex, (freeExs bound l).length ≤ PV.bulkR (Ex.rows l)
 | [] => by simp [freeExs]
 | k :: l => by
  have h1 := freeEx_len bound k
  have h2 := freeExs_len bound l
  simp only [freeExs, List.length_append, Ex.rows, PV.bulkR]
  omega
end
theorem freeExs_append (bound : List ByteArray) : ∀ l m : List Ex, freeExs bound (l ++ m) = freeExs bound l ++ freeExs bound m
 | [], m => by simp [freeExs]
 | k :: l, m => by simp only [List.cons_append, freeExs, freeExs_append bound l m, List.append_assoc]
theorem freeExs_take {bound : List ByteArray} {l : List Ex} {k : Nat} {x : Ex} (h : l[k]? = some x) : freeExs bound (l.take (k + 1)) = freeExs bound (l.take k) ++ freeEx bound x := by
 rw [List.take_add_one, h, freeExs_append]; simp [freeExs]
theorem bulk_memE : ∀ {l : List Ex} {k : Nat} {x : Ex}, l[k]? = some x → PV.bulkR (Ex.rows (l.take k)) + PV.bulkL x.cells ≤ PV.bulkR (Ex.rows l)
 | [], k, x, h => by simp at h
 | a :: l, 0, x, h => by
  simp only [List.getElem?_cons_zero, Option.some.injEq] at h
  subst h
  simp only [List.take_zero, Ex.rows, PV.bulkR]; omega
 | a :: l, k + 1, x, h => by
  have := bulk_memE (l := l) (k := k) (x := x) (by simpa using h)
  simp only [List.take_succ_cons, Ex.rows, PV.bulkR]; omega
theorem freeE_c : ∀ e : Ex, e.ok → ∀ {bound L : List ByteArray}, bound.length ≤ bigN → L.length + PV.bulkL e.cells ≤ 1099511627776 → ∀ {o : PV} {id0 : Nat} {h : Heap}, id0 ≤ h.next → Tl h id0 1 o (strRows L) →
  PCall Try.prog 131 [o, .agg e.cells, .imm 1 (strRows bound)] h fun r h' => VI h id0 (L ++ freeEx bound e) r h' := by
 refine Ex.ind ?_
 intro op name n args kids ih hok bound L hb hl o id0 h h0 tl
 simp only [Ex.ok] at hok
 obtain ⟨_, _, _, ⟨_, hargs⟩, _, hks⟩ := hok
 rw [Ex.oks_iff] at hks
 have hA := bulkR_strs args
 have hE := bulkR_exs kids
 simp only [Ex.cells, PV.bulkL, PV.bulk] at hl
 have hc0 := variables_c (l := args) (bound := bound) (L := L) hargs hb (by omega) h0 tl
 have hlK := Ex.rows_len kids
 have hv := varsL_len bound args
 have hF : freeEx bound (.mk op name n args kids) = varsL bound args ++ freeExs bound kids := by simp only [freeEx]
 rw [hF, ← List.append_assoc]
 have hl2 : (L ++ varsL bound args).length + PV.bulkR (Ex.rows kids) ≤ 1099511627776 := by rw [List.length_append]; omega
 generalize L ++ varsL bound args = L1 at hl2 hc0 ⊢
 simp only [Ex.cells]
 refine pcall_body (ow := fun _ => false) (wf := fun _ => false) Ty.mixed Try.func131 rfl Ty.hb_131 (by rw [Try.ntmps131]; simp) ?_
 rw [Try.ntmps131, Try.results131]
 repeat' (first | refine a_seq fun K hK => ?_ | (refine a_regionS ?_; simp (maxSteps := 2000000) only [Ty.w, simprocAttr]) | (refine hK _ _ ?_; clear hK; try simp only [pst0, simprocAttr]))
 refine owp_useL hc0 (by (try simp only [Ty.w, simprocAttr]); try rfl) ?_
 clear hc0 tl hF hv
 rintro r h1 hI
 simp (maxSteps := 2000000) only [Ty.w, simprocAttr, Ty.all]
 repeat' (first | refine a_seq fun K hK => ?_ | (refine a_block ?_) | (refine a_regionS ?_; simp (maxSteps := 2000000) only [Ty.w, simprocAttr, hlK]) | (refine hK _ _ ?_; clear hK; try simp only [pst0, simprocAttr]))
 refine a_loop (fun m S h' => S 2 = .imm 1 (strRows bound) ∧ S 15 = .imm 5 (Ex.rows kids) ∧ S 16 = .sc (.int .i64 kids.length) ∧ ∃ (k : Nat) (p : PV), S 17 = .sc (.int .i64 k) ∧ S 0 = p ∧ k ≤ kids.length ∧ m = kids.length - k ∧ VI h id0 (L1 ++ freeExs bound (kids.take k)) p h') kids.length ?_ ?_
 ·simp only [Ty.w, simprocAttr]
  exact ⟨0, r, rfl, rfl, by omega, rfl, by simpa [freeExs] using hI⟩
 ·clear hI
  rintro m S h' ⟨g2, g15, g16, k, p, g17, g0, hk, rfl, hI⟩
  by_cases hlt : k < kids.length
  ·have hd : decide ((k : Int) < (kids.length : Int)) = true := by simp; omega
   have w7 : IntKind.i64.wrap ((k : Int) + 1) = k + 1 := by rw [wrap64 (by omega) (by omega)]
   obtain ⟨x, hx⟩ : ∃ x, kids[k]? = some x := ⟨_, List.getElem?_eq_getElem hlt⟩
   have hr := Ex.rows_get hx
   have hmem := List.mem_of_getElem? hx
   have hT := freeExs_take (bound := bound) hx
   have hbx := bulk_memE hx
   have hfl := freeExs_len bound (kids.take k)
   have hlx : (L1 ++ freeExs bound (kids.take k)).length + PV.bulkL x.cells ≤ 1099511627776 := by rw [List.length_append]; omega
   have hT2 : L1 ++ freeExs bound (kids.take (k + 1)) = L1 ++ freeExs bound (kids.take k) ++ freeEx bound x := by rw [hT, List.append_assoc]
   have ihx := @ih x hmem (hks x hmem) bound (L1 ++ freeExs bound (kids.take k)) hb hlx p id0
   rw [← hT2] at ihx
   clear hT hT2 hlx hfl ih
   have h00 : id0 ≤ h'.next := Nat.le_trans h0 hI.le
   obtain ⟨xo, xn, xv, xa, xk⟩ := x
   simp only [Ex.cells] at hr ihx
   have hup : ∀ o2, (∀ j, j < h'.next → ((h'.new (.arr 5 [[.sc (.string ⟨#[]⟩), .sc (.string ⟨#[]⟩), .sc (.int .i64 0), .sc (.slice none 0 0), .sc (.slice none 0 0)]])).set h'.next o2).obj j = h'.obj j) := fun o2 j hj => by simp only [Heap.new, Heap.set]; rw [if_neg (by omega), if_neg (by omega)]
   have hI2 := fun o2 => hI.up (H := (h'.new (.arr 5 [[.sc (.string ⟨#[]⟩), .sc (.string ⟨#[]⟩), .sc (.int .i64 0), .sc (.slice none 0 0), .sc (.slice none 0 0)]])).set h'.next o2) h00 (by simp [Heap.new, Heap.set]) (hup o2)
   have hcx := fun o2 => @ihx ((h'.new (.arr 5 [[.sc (.string ⟨#[]⟩), .sc (.string ⟨#[]⟩), .sc (.int .i64 0), .sc (.slice none 0 0), .sc (.slice none 0 0)]])).set h'.next o2) (by simp only [Heap.new, Heap.set]; omega) (hI2 o2).tl
   repeat' (first | refine a_seq fun K hK => ?_ | ((first | refine a_regionS ?_ | refine a_region (fun K hK => ?_)); simp (maxSteps := 2000000) only [Ty.w, simprocAttr, g2, g15, g16, g17, g0, hd, hr, nsucc]) | (refine a_skip ?_; try simp only [pst0, simprocAttr]) | (refine a_cond _ (by (try simp (maxSteps := 2000000) only [Ty.w, simprocAttr, g2, g15, g16, g17, g0, hd, hr, nsucc]); rfl) (fun hb => ?_) (fun hb => ?_) <;> (try simp only [hb0, decide_eq_true_eq, decide_eq_false_iff_not, simprocAttr] at hb) <;> (try (exfalso; omega))) | (refine hK _ _ ?_; clear hK; try simp only [pst0, simprocAttr]))
   refine owp_useL (hcx _) (by (try simp only [Ty.w, simprocAttr, g2, g15, g16, g17, g0]); try rfl) ?_
   rintro r2 h2 hV
   simp (maxSteps := 2000000) only [Ty.w, simprocAttr, Ty.all]
   repeat' (first | (refine a_regionS ?_; simp (maxSteps := 2000000) only [Ty.w, simprocAttr, g2, g15, g16, g17, w7]) | (refine hK _ _ ?_; clear hK; try simp only [pst0, simprocAttr]))
   exact ⟨kids.length - (k + 1), by omega, k + 1, r2, by simp, rfl, by omega, rfl, VI.trans (hI2 _).le (hI2 _).old hV⟩
  ·have hd : decide ((k : Int) < (kids.length : Int)) = false := by simp; omega
   have hke : k = kids.length := by omega
   subst hke
   rw [List.take_length] at hI
   repeat' (first | refine a_seq fun K hK => ?_ | ((first | refine a_regionS ?_ | refine a_ret ?_); simp (maxSteps := 2000000) only [Ty.w, simprocAttr, g2, g15, g16, g17, g0, hd]) | (refine a_exit ?_; try simp only [pst0, simprocAttr]) | (refine a_cond _ (by (try simp (maxSteps := 2000000) only [Ty.w, simprocAttr, g2, g15, g16, g17, g0, hd]); rfl) (fun hb => ?_) (fun hb => ?_) <;> (try simp only [hb0, decide_eq_true_eq, decide_eq_false_iff_not, simprocAttr] at hb) <;> (try (exfalso; omega))) | ((first | refine hK _ _ ?_ | (clear hK; refine hK _ _ ?_)); clear hK; try simp only [pst0, simprocAttr]))
   exact hI
end Go.Proofs.Ytjlkapgpjamnkaa
namespace Go.Proofs.Ytjlkapgpjamnkaa
open Go.AM
set_option maxHeartbeats 4000000
set_option maxRecDepth 20000
mutual
theorem freeFm_len : ∀ (f : Fm) (bound : List ByteArray), (freeFm f bound).length ≤ PV.bulkL f.cells
 | .mk op name args params exprs kids, bound => by
  have h1 := varsL_len bound args
  have h2 := freeExs_len bound exprs
  have h3 := bulkR_strs args
  have h4 := freeFms_len kids (bound ++ params.map Pm.name)
  simp only [freeFm, List.length_append, Fm.cells, PV.bulkL, PV.bulk]
  omega
theorem freeFms_len : ∀ (l : List Fm) (bound : List ByteArray), (freeFms l bound).length ≤ PV.bulkR (Fm.rows l)
 | [], _ => by simp [freeFms]
 | k :: l, bound => by
  have h1 := freeFm_len k bound
  have h2 := freeFms_len l bound
  simp only [freeFms, List.length_append, Fm.rows, PV.bulkR]
  omega
end
theorem freeFms_append (bound : List ByteArray) : ∀ l m : List Fm, freeFms (l ++ m) bound = freeFms l bound ++ freeFms m bound
 | [], m => by simp [freeFms]
 | k :: l, m => by simp only [List.cons_append, freeFms, freeFms_append bound l m, List.append_assoc]
theorem freeFms_take {bound : List ByteArray} {l : List Fm} {k : Nat} {x : Fm} (h : l[k]? = some x) : freeFms (l.take (k + 1)) bound = freeFms (l.take k) bound ++ freeFm x bound := by
 rw [List.take_add_one, h, freeFms_append]; simp [freeFms]
theorem bulk_memF2 : ∀ {l : List Fm} {k : Nat} {x : Fm}, l[k]? = some x → PV.bulkR (Fm.rows (l.take k)) + PV.bulkL x.cells ≤ PV.bulkR (Fm.rows l)
 | [], k, x, h => by simp at h
 | a :: l, 0, x, h => by
  simp only [List.getElem?_cons_zero, Option.some.injEq] at h
  subst h
  simp only [List.take_zero, Fm.rows, PV.bulkR]; omega
 | a :: l, k + 1, x, h => by
  have := bulk_memF2 (l := l) (k := k) (x := x) (by simpa using h)
  simp only [List.take_succ_cons, Fm.rows, PV.bulkR]; omega
theorem free_c : ∀ f : Fm, f.ok → ∀ {bound L : List ByteArray}, bound.length + PV.bulkL f.cells ≤ 1099511627776 → L.length + PV.bulkL f.cells ≤ 1099511627776 → ∀ {o : PV} {id0 : Nat} {h : Heap}, id0 ≤ h.next → Tl h id0 1 o (strRows L) →
  PCall Try.prog 92 [o, .agg f.cells, .imm 1 (strRows bound)] h fun r h' => VI h id0 (L ++ freeFm f bound) r h' := by
 refine Fm.ind ?_
 intro op name args params exprs kids ih hok bound L hb hl o id0 h h0 tl
 simp only [Fm.ok] at hok
 obtain ⟨_, _, ⟨_, hargs⟩, _, ⟨_, hes⟩, _, hks⟩ := hok
 rw [Ex.oks_iff] at hes
 rw [Fm.oks_iff] at hks
 have hA := bulkR_strs args
 have hE := bulkR_exs exprs
 have hF := bulkR_fms kids
 have hP := bulkR_pms params
 simp only [Fm.cells, PV.bulkL, PV.bulk] at hl hb
 have hbb : bound.length ≤ bigN := by unfold bigN; omega
 have hc0 := variables_c (l := args) (bound := bound) (L := L) hargs hbb (by omega) h0 tl
 have hlE := Ex.rows_len exprs
 have hlK := Fm.rows_len kids
 have hv := varsL_len bound args
 have hFF : freeFm (.mk op name args params exprs kids) bound = varsL bound args ++ freeExs bound exprs ++ freeFms kids (bound ++ params.map Pm.name) := by simp only [freeFm]
 rw [hFF, ← List.append_assoc, ← List.append_assoc]
 have hl2 : (L ++ varsL bound args).length + PV.bulkR (Ex.rows exprs) + PV.bulkR (Fm.rows kids) ≤ 1099511627776 := by rw [List.length_append]; omega
 have hb2 : (bound ++ params.map Pm.name).length + PV.bulkR (Fm.rows kids) ≤ 1099511627776 := by simp only [List.length_append, List.length_map]; omega
 have hin := fun H => inner_c (op := op) (name := name) (args := args) (exprs := exprs) (kids := kids) (params := params) (bound := bound) (by omega) H
 generalize L ++ varsL bound args = L1 at hl2 hc0 ⊢
 generalize hB2 : bound ++ params.map Pm.name = bound2 at hb2 hin ⊢
 clear hFF tl hB2 hl hb
 simp only [Fm.cells] at hin ⊢
 refine pcall_body (ow := fun _ => false) (wf := fun _ => false) Ty.mixed Try.func92 rfl Ty.hb_92 (by rw [Try.ntmps92]; simp) ?_
 rw [Try.ntmps92, Try.results92]
 repeat' (first | refine a_seq fun K hK => ?_ | (refine a_regionS ?_; simp (maxSteps := 2000000) only [Ty.w, simprocAttr]) | (refine hK _ _ ?_; clear hK; try simp only [pst0, simprocAttr]))
 refine owp_useL hc0 (by (try simp only [Ty.w, simprocAttr]); try rfl) ?_
 clear hc0
 rintro r h1 hI
 simp (maxSteps := 2000000) only [Ty.w, simprocAttr, Ty.all]
 repeat' (first | refine a_seq fun K hK => ?_ | (refine a_block ?_) | (refine a_regionS ?_; simp (maxSteps := 2000000) only [Ty.w, simprocAttr, hlE]) | (refine hK _ _ ?_; clear hK; try simp only [pst0, simprocAttr]))
 refine a_loop (fun m S h' => S 2 = .imm 1 (strRows bound) ∧ S 4 = .cptr [sPV op, sPV name, .imm 1 (strRows args), .imm 2 (pmRows params), .imm 5 (Ex.rows exprs), .imm 6 (Fm.rows kids)] ∧ S 17 = .imm 5 (Ex.rows exprs) ∧ S 18 = .sc (.int .i64 exprs.length) ∧ ∃ (k : Nat) (p : PV), S 19 = .sc (.int .i64 k) ∧ S 0 = p ∧ k ≤ exprs.length ∧ m = exprs.length - k ∧ VI h id0 (L1 ++ freeExs bound (exprs.take k)) p h') exprs.length ?_ ?_
 ·simp only [Ty.w, simprocAttr]
  exact ⟨0, r, rfl, rfl, by omega, rfl, by simpa [freeExs] using hI⟩
 ·clear hI
  rintro m S h' ⟨g2, g4, g17, g18, k, p, g19, g0, hk, rfl, hI⟩
  by_cases hlt : k < exprs.length
  ·have hd : decide ((k : Int) < (exprs.length : Int)) = true := by simp; omega
   have w7 : IntKind.i64.wrap ((k : Int) + 1) = k + 1 := by rw [wrap64 (by omega) (by omega)]
   obtain ⟨x, hx⟩ : ∃ x, exprs[k]? = some x := ⟨_, List.getElem?_eq_getElem hlt⟩
   have hr := Ex.rows_get hx
   have hmem := List.mem_of_getElem? hx
   have hT := freeExs_take (bound := bound) hx
   have hbx := bulk_memE hx
   have hfl := freeExs_len bound (exprs.take k)
   have hlx : (L1 ++ freeExs bound (exprs.take k)).length + PV.bulkL x.cells ≤ 1099511627776 := by rw [List.length_append]; omega
   have hT2 : L1 ++ freeExs bound (exprs.take (k + 1)) = L1 ++ freeExs bound (exprs.take k) ++ freeEx bound x := by rw [hT]; simp only [List.append_assoc]
   have ihx := @freeE_c x (hes x hmem) bound (L1 ++ freeExs bound (exprs.take k)) hbb hlx p id0
   rw [← hT2] at ihx
   clear hT hT2 hlx hfl
   have h00 : id0 ≤ h'.next := Nat.le_trans h0 hI.le
   obtain ⟨xo, xn, xv, xa, xk⟩ := x
   simp only [Ex.cells] at hr ihx
   have hup : ∀ o2, (∀ j, j < h'.next → ((h'.new (.arr 5 [[.sc (.string ⟨#[]⟩), .sc (.string ⟨#[]⟩), .sc (.int .i64 0), .sc (.slice none 0 0), .sc (.slice none 0 0)]])).set h'.next o2).obj j = h'.obj j) := fun o2 j hj => by simp only [Heap.new, Heap.set]; rw [if_neg (by omega), if_neg (by omega)]
   have hI2 := fun o2 => hI.up (H := (h'.new (.arr 5 [[.sc (.string ⟨#[]⟩), .sc (.string ⟨#[]⟩), .sc (.int .i64 0), .sc (.slice none 0 0), .sc (.slice none 0 0)]])).set h'.next o2) h00 (by simp [Heap.new, Heap.set]) (hup o2)
   have hcx := fun o2 => @ihx ((h'.new (.arr 5 [[.sc (.string ⟨#[]⟩), .sc (.string ⟨#[]⟩), .sc (.int .i64 0), .sc (.slice none 0 0), .sc (.slice none 0 0)]])).set h'.next o2) (by simp only [Heap.new, Heap.set]; omega) (hI2 o2).tl
   repeat' (first | refine a_seq fun K hK => ?_ | ((first | refine a_regionS ?_ | refine a_region (fun K hK => ?_)); simp (maxSteps := 2000000) only [Ty.w, simprocAttr, g2, g4, g17, g18, g19, g0, hd, hr, nsucc]) | (refine a_skip ?_; try simp only [pst0, simprocAttr]) | (refine a_cond _ (by (try simp (maxSteps := 2000000) only [Ty.w, simprocAttr, g2, g4, g17, g18, g19, g0, hd, hr, nsucc]); rfl) (fun hb => ?_) (fun hb => ?_) <;> (try simp only [hb0, decide_eq_true_eq, decide_eq_false_iff_not, simprocAttr] at hb) <;> (try (exfalso; omega))) | (refine hK _ _ ?_; clear hK; try simp only [pst0, simprocAttr]))
   refine owp_useL (hcx _) (by (try simp only [Ty.w, simprocAttr, g2, g4, g17, g18, g19, g0]); try rfl) ?_
   rintro r2 h2 hV
   simp (maxSteps := 2000000) only [Ty.w, simprocAttr, Ty.all]
   repeat' (first | (refine a_regionS ?_; simp (maxSteps := 2000000) only [Ty.w, simprocAttr, g2, g4, g17, g18, g19, w7]) | (refine hK _ _ ?_; clear hK; try simp only [pst0, simprocAttr]))
   exact ⟨exprs.length - (k + 1), by omega, k + 1, r2, by simp, rfl, by omega, rfl, VI.trans (hI2 _).le (hI2 _).old hV⟩
  ·have hd : decide ((k : Int) < (exprs.length : Int)) = false := by simp; omega
   have hke : k = exprs.length := by omega
   subst hke
   rw [List.take_length] at hI
   have hfl := freeExs_len bound exprs
   have hl3 : (L1 ++ freeExs bound exprs).length + PV.bulkR (Fm.rows kids) ≤ 1099511627776 := by rw [List.length_append]; omega
   repeat' (first | refine a_seq fun K hK => ?_ | (refine a_regionS ?_; simp (maxSteps := 2000000) only [Ty.w, simprocAttr, g2, g4, g17, g18, g19, g0, hd]) | (refine a_exit ?_; try simp only [pst0, simprocAttr]) | (refine a_cond _ (by (try simp (maxSteps := 2000000) only [Ty.w, simprocAttr, g2, g4, g17, g18, g19, g0, hd]); rfl) (fun hb => ?_) (fun hb => ?_) <;> (try simp only [hb0, decide_eq_true_eq, decide_eq_false_iff_not, simprocAttr] at hb) <;> (try (exfalso; omega))) | ((first | refine hK _ _ ?_ | (clear hK; refine hK _ _ ?_)); clear hK; try simp only [pst0, simprocAttr]))
   refine owp_useQ (hin _) (by (try simp only [Ty.w, simprocAttr, g2, g4, g0]); try rfl) ?_; simp (maxSteps := 2000000) only [Ty.w, simprocAttr, g2, g4, g0]
   clear hin
   repeat' (first | refine a_seq fun K hK => ?_ | (refine a_block ?_) | (refine a_regionS ?_; simp (maxSteps := 2000000) only [Ty.w, simprocAttr, g4, g0, hlK]) | (refine hK _ _ ?_; clear hK; try simp only [pst0, simprocAttr]))
   refine a_loop (fun m S h' => S 2 = .imm 1 (strRows bound2) ∧ S 32 = .imm 6 (Fm.rows kids) ∧ S 33 = .sc (.int .i64 kids.length) ∧ ∃ (k : Nat) (p : PV), S 34 = .sc (.int .i64 k) ∧ S 0 = p ∧ k ≤ kids.length ∧ m = kids.length - k ∧ VI h id0 (L1 ++ freeExs bound exprs ++ freeFms (kids.take k) bound2) p h') kids.length ?_ ?_
   ·simp only [Ty.w, simprocAttr]
    exact ⟨0, p, rfl, g0, by omega, rfl, by simpa [freeFms] using hI⟩
   ·clear hI g0 g2 g4
    rintro m S h' ⟨g2, g32, g33, k, p, g34, g0, hk, rfl, hI⟩
    by_cases hlt : k < kids.length
    ·have hd : decide ((k : Int) < (kids.length : Int)) = true := by simp; omega
     have w7 : IntKind.i64.wrap ((k : Int) + 1) = k + 1 := by rw [wrap64 (by omega) (by omega)]
     obtain ⟨x, hx⟩ : ∃ x, kids[k]? = some x := ⟨_, List.getElem?_eq_getElem hlt⟩
     have hr := Fm.rows_get hx
     have hmem := List.mem_of_getElem? hx
     have hT := freeFms_take (bound := bound2) hx
     have hbx := bulk_memF2 hx
     have hfl := freeFms_len (kids.take k) bound2
     have hlx : (L1 ++ freeExs bound exprs ++ freeFms (kids.take k) bound2).length + PV.bulkL x.cells ≤ 1099511627776 := by rw [List.length_append]; omega
     have hT2 : L1 ++ freeExs bound exprs ++ freeFms (kids.take (k + 1)) bound2 = L1 ++ freeExs bound exprs ++ freeFms (kids.take k) bound2 ++ freeFm x bound2 := by rw [hT]; simp only [List.append_assoc]
     have ihx := @ih x hmem (hks x hmem) bound2 (L1 ++ freeExs bound exprs ++ freeFms (kids.take k) bound2) (by omega) hlx p id0
     rw [← hT2] at ihx
     clear hT hT2 hlx hfl ih
     have h00 : id0 ≤ h'.next := Nat.le_trans h0 hI.le
     obtain ⟨xo, xn, xa, xp, xe, xk⟩ := x
     simp only [Fm.cells] at hr ihx
     have hup : ∀ o2, (∀ j, j < h'.next → ((h'.new (.arr 6 [[.sc (.string ⟨#[]⟩), .sc (.string ⟨#[]⟩), .sc (.slice none 0 0), .sc (.slice none 0 0), .sc (.slice none 0 0), .sc (.slice none 0 0)]])).set h'.next o2).obj j = h'.obj j) := fun o2 j hj => by simp only [Heap.new, Heap.set]; rw [if_neg (by omega), if_neg (by omega)]
     have hI2 := fun o2 => hI.up (H := (h'.new (.arr 6 [[.sc (.string ⟨#[]⟩), .sc (.string ⟨#[]⟩), .sc (.slice none 0 0), .sc (.slice none 0 0), .sc (.slice none 0 0), .sc (.slice none 0 0)]])).set h'.next o2) h00 (by simp [Heap.new, Heap.set]) (hup o2)
     have hcx := fun o2 => @ihx ((h'.new (.arr 6 [[.sc (.string ⟨#[]⟩), .sc (.string ⟨#[]⟩), .sc (.slice none 0 0), .sc (.slice none 0 0), .sc (.slice none 0 0), .sc (.slice none 0 0)]])).set h'.next o2) (by simp only [Heap.new, Heap.set]; omega) (hI2 o2).tl
     repeat' (first | refine a_seq fun K hK => ?_ | ((first | refine a_regionS ?_ | refine a_region (fun K hK => ?_)); simp (maxSteps := 2000000) only [Ty.w, simprocAttr, g2, g32, g33, g34, g0, hd, hr, nsucc]) | (refine a_skip ?_; try simp only [pst0, simprocAttr]) | (refine a_cond _ (by (try simp (maxSteps := 2000000) only [Ty.w, simprocAttr, g2, g32, g33, g34, g0, hd, hr, nsucc]); rfl) (fun hb => ?_) (fun hb => ?_) <;> (try simp only [hb0, decide_eq_true_eq, decide_eq_false_iff_not, simprocAttr] at hb) <;> (try (exfalso; omega))) | (refine hK _ _ ?_; clear hK; try simp only [pst0, simprocAttr]))
     refine owp_useL (hcx _) (by (try simp only [Ty.w, simprocAttr, g2, g32, g33, g34, g0]); try rfl) ?_
     rintro r2 h2 hV
     simp (maxSteps := 2000000) only [Ty.w, simprocAttr, Ty.all]
     repeat' (first | (refine a_regionS ?_; simp (maxSteps := 2000000) only [Ty.w, simprocAttr, g2, g32, g33, g34, w7]) | (refine hK _ _ ?_; clear hK; try simp only [pst0, simprocAttr]))
     exact ⟨kids.length - (k + 1), by omega, k + 1, r2, by simp, rfl, by omega, rfl, VI.trans (hI2 _).le (hI2 _).old hV⟩
    ·have hd : decide ((k : Int) < (kids.length : Int)) = false := by simp; omega
     have hke : k = kids.length := by omega
     subst hke
     rw [List.take_length] at hI
     repeat' (first | refine a_seq fun K hK => ?_ | ((first | refine a_regionS ?_ | refine a_ret ?_); simp (maxSteps := 2000000) only [Ty.w, simprocAttr, g2, g32, g33, g34, g0, hd]) | (refine a_exit ?_; try simp only [pst0, simprocAttr]) | (refine a_cond _ (by (try simp (maxSteps := 2000000) only [Ty.w, simprocAttr, g2, g32, g33, g34, g0, hd]); rfl) (fun hb => ?_) (fun hb => ?_) <;> (try simp only [hb0, decide_eq_true_eq, decide_eq_false_iff_not, simprocAttr] at hb) <;> (try (exfalso; omega))) | ((first | refine hK _ _ ?_ | (clear hK; refine hK _ _ ?_)); clear hK; try simp only [pst0, simprocAttr]))
     exact hI
end Go.Proofs.Ytjlkapgpjamnkaa
namespace Go.Proofs.Ytjlkapgpjamnkaa
open Go.AM Go.Lib
theorem compactUpTo_asc {d : Array (List UInt8)} (hs : ∀ i j, i ≤ j → j < d.size → d[i]! ≤ d[j]!) : ∀ m, m ≤ d.size → (compactUpTo d m).Pairwise (· < ·) ∧ (∀ x ∈ compactUpTo d m, ∃ i, i < m ∧ x = d[i]!) ∧ ∀ i, i < m → d[i]! ∈ compactUpTo d m
 | 0, _ => by simp [compactUpTo]
 | m + 1, hm => by
  obtain ⟨h1, h2, h3⟩ := compactUpTo_asc hs m (by omega)
  rw [compactUpTo_succ]
  cases hk : keeps d m with
  | true =>
   simp only [if_true]
   refine ⟨?_, ?_, ?_⟩
   ·rw [List.pairwise_append]
    refine ⟨h1, by simp, fun x hx y hy => ?_⟩
    simp only [List.mem_singleton] at hy
    subst hy
    obtain ⟨i, hi, rfl⟩ := h2 x hx
    have hne : d[m]! ≠ d[m - 1]! := by
     simp only [keeps, decide_eq_true_eq] at hk
     rcases hk with e | e
     ·omega
     ·exact e
    have a1 := hs i (m - 1) (by omega) (by omega)
    have a2 := hs (m - 1) m (by omega) (by omega)
    rcases List.le_iff_lt_or_eq.1 a2 with a3 | a3
    ·rcases List.le_iff_lt_or_eq.1 a1 with a4 | a4
     ·exact List.lt_trans a4 a3
     ·rw [a4]; exact a3
    ·exact absurd a3.symm hne
   ·intro x hx
    rcases List.mem_append.1 hx with hx | hx
    ·obtain ⟨i, hi, e⟩ := h2 x hx; exact ⟨i, by omega, e⟩
    ·simp only [List.mem_singleton] at hx; exact ⟨m, by omega, hx⟩
   ·intro i hi
    by_cases e : i = m
    ·subst e; simp
    ·exact List.mem_append.2 (.inl (h3 i (by omega)))
  | false =>
   simp only [Bool.false_eq_true, if_false, List.append_nil]
   refine ⟨h1, fun x hx => ?_, fun i hi => ?_⟩
   ·obtain ⟨i, hi, e⟩ := h2 x hx; exact ⟨i, by omega, e⟩
   ·by_cases e : i = m
    ·subst e
     simp only [keeps, decide_eq_false_iff_not, not_or, Decidable.not_not] at hk
     rw [hk.2]; exact h3 (i - 1) (by omega)
    ·exact h3 i (by omega)
theorem sorted_compact (zs : List (List UInt8)) : (compact (zs.mergeSort fun x y => decide (x ≤ y))).Pairwise (· < ·) ∧ ∀ x, x ∈ compact (zs.mergeSort fun x y => decide (x ≤ y)) ↔ x ∈ zs := by
 have hp : (zs.mergeSort fun x y => decide (x ≤ y)).Pairwise fun a b => decide (a ≤ b) = true :=
  List.pairwise_mergeSort (fun a b c h1 h2 => by simp only [decide_eq_true_eq] at h1 h2 ⊢; exact List.le_trans h1 h2) (fun a b => by simp only [Bool.or_eq_true, decide_eq_true_eq]; exact List.le_total a b) zs
 have hm : ∀ x, x ∈ (zs.mergeSort fun x y => decide (x ≤ y)) ↔ x ∈ zs := fun x => (List.mergeSort_perm zs _).mem_iff
 generalize (zs.mergeSort fun x y => decide (x ≤ y)) = ys at hp hm
 have hs : ∀ i j, i ≤ j → j < ys.toArray.size → ys.toArray[i]! ≤ ys.toArray[j]! := by
  intro i j hij hj
  have hj' : j < ys.length := by simpa using hj
  rw [getElem!_pos ys.toArray i (by simp; omega), getElem!_pos ys.toArray j (by simpa using hj')]
  simp only [List.getElem_toArray]
  by_cases e : i = j
  ·subst e; exact List.le_refl _
  ·have := List.pairwise_iff_getElem.1 hp i j (by omega) hj' (by omega)
   simpa using this
 obtain ⟨h1, h2, h3⟩ := compactUpTo_asc hs ys.length (by simp)
 refine ⟨h1, fun x => ?_⟩
 rw [← hm]
 constructor
 ·intro hx
  obtain ⟨i, hi, rfl⟩ := h2 x hx
  rw [getElem!_pos ys.toArray i (by simpa using hi)]
  simp
 ·intro hx
  obtain ⟨i, hi, rfl⟩ := List.getElem_of_mem hx
  have := h3 i hi
  rw [getElem!_pos ys.toArray i (by simpa using hi)] at this
  simpa [compact] using this
end Go.Proofs.Ytjlkapgpjamnkaa
namespace Go.Proofs.Ytjlkapgpjamnkaa
open Go.AM Go.Lib
def freeL (f : Fm) : List (List UInt8) := if validF f = true then compact (((freeFm f []).map key).mergeSort fun x y => decide (x ≤ y)) else []
theorem freeL_asc (f : Fm) : (freeL f).Pairwise (· < ·) := by
 unfold freeL
 split
 ·exact (sorted_compact _).1
 ·simp
theorem freeL_mem {f : Fm} (h : validF f = true) (s : ByteArray) : key s ∈ freeL f ↔ f.occ varB s := by
 unfold freeL
 rw [if_pos h, (sorted_compact _).2]
 simp only [List.mem_map]
 constructor
 ·rintro ⟨y, hy, e⟩; rw [← key_inj e]; exact ((freeFm_mem f []).1 hy).1
 ·intro ho; exact ⟨s, (freeFm_mem f []).2 ⟨ho, by simp⟩, rfl⟩
theorem look_const {a : ByteArray} : ∀ {n : List ByteArray} {s : ByteArray}, lookR n (n.map fun _ => a) s = if memB n s = true then some a else none
 | [], s => by simp [lookR, memB]
 | x :: n, s => by
  simp only [List.map_cons, lookR]
  by_cases h : bEq s x = true
  ·rw [if_pos h, if_pos (memB_iff.2 (by rw [bEq_eq h]; simp))]
  ·rw [if_neg h, look_const (n := n)]
   have hne : s ≠ x := fun e => h (by rw [e]; simp [bEq])
   by_cases hm : memB n s = true
   ·rw [if_pos hm, if_pos (memB_iff.2 (by simp [memB_iff.1 hm]))]
   ·rw [if_neg hm, if_neg fun hh => hm (memB_iff.2 ((List.mem_cons.1 (memB_iff.1 hh)).resolve_left hne))]
theorem bound_free {f : Fm} (hv : validF f = true) {a : ByteArray} (ha : nameB a = true) (hav : varB a = false) {names rest : List ByteArray} (hs : ∀ s, key s ∈ freeL f ↔ s ∈ names ∨ s ∈ rest) (hd : ∀ s ∈ names, s ∉ rest) (hr : (rest.map key).Pairwise (· < ·)) :
  freeL (bindFm (toM names (names.map fun _ => a)) f []) = rest.map key := by
 have hto : ∀ s, toM names (names.map fun _ => a) s = if varB s = true ∧ memB names s = true then some a else none := fun s => by
  unfold toM
  rw [look_filt, look_const]
  by_cases h1 : varB s = true <;> by_cases h2 : memB names s = true <;> simp [h1, h2]
 have ht : ∀ s t, toM names (names.map fun _ => a) s = some t → t = a := fun s t h => by
  rw [hto] at h
  split at h
  ·simpa using h.symm
  ·simp at h
 have hvb := bindFm_valid (fun s t h => by rw [ht s t h]; simp [termB, ha]) hv []
 have hvar : ∀ (s : ByteArray), f.occ varB s → varB s = true := by
  have hs1 := (validF_iff.1 hv).1
  have : ∀ (g : Fm), ∀ s, g.occ varB s → varB s = true := by
   have hex : ∀ (e : Ex) (s : ByteArray), e.occ varB s → varB s = true := by
    refine Ex.ind ?_
    intro op name n args kids ih s h
    simp only [Ex.occ, Ex.occs_iff] at h
    rcases h with ⟨_, h⟩ | ⟨k, hk, h⟩
    ·exact h
    ·exact ih k hk s h
   refine Fm.ind ?_
   intro op name args params exprs kids ih s h
   simp only [Fm.occ, Ex.occs_iff, Fm.occs_iff] at h
   rcases h with ⟨_, h⟩ | ⟨e, _, h⟩ | ⟨⟨k, hk, h⟩, _⟩
   ·exact h
   ·exact hex e s h
   ·exact ih k hk s h
  exact this f
 refine asc_eq (freeL_asc _) hr fun x => ?_
 obtain ⟨s, rfl⟩ : ∃ s : ByteArray, key s = x := ⟨⟨x.toArray⟩, rfl⟩
 rw [freeL_mem hvb, bindFm_occ (fun s t h => by rw [ht s t h]; exact hav) f [], ← freeL_mem hv, hs, hto]
 simp only [List.mem_map, List.not_mem_nil, or_false]
 constructor
 ·rintro ⟨h1, h2⟩
  rcases h1 with h1 | h1
  ·have := hvar s ((freeL_mem hv s).1 ((hs s).2 (.inl h1)))
   rw [if_pos ⟨this, memB_iff.2 h1⟩] at h2; simp at h2
  ·exact ⟨s, h1, rfl⟩
 ·rintro ⟨y, hy, e⟩
  have := key_inj e
  subst this
  exact ⟨.inr hy, by rw [if_neg fun h => hd _ (memB_iff.1 h.2) hy]⟩
theorem normal_free {f : Fm} (hv : validF f = true) (hn : validF (normalM f true) = true) : freeL (normalM f true) = freeL f := by
 refine asc_eq (freeL_asc _) (freeL_asc _) fun x => ?_
 obtain ⟨s, rfl⟩ : ∃ s : ByteArray, key s = x := ⟨⟨x.toArray⟩, rfl⟩
 rw [freeL_mem hn, freeL_mem hv, normalM_occ f (validF_iff.1 hv).1]
end Go.Proofs.Ytjlkapgpjamnkaa
namespace Go.Proofs.Ytjlkapgpjamnkaa
open Go.AM Go.Shelf Go.Sort
set_option maxHeartbeats 4000000
set_option maxRecDepth 20000
def laysSort_ren : Ren := ⟨fun x => match x with | 190 => 93 | 125 => 133 | 258 => 132 | 128 => 149 | 129 => 150 | 302 => 140 | 303 => 141 | 304 => 142 | 305 => 143 | 306 => 144 | 307 => 145 | 308 => 146 | 309 => 147 | 310 => 148 | 333 => 156 | 329 => 157 | 330 => 158 | 334 => 159 | 335 => 160 | 336 => 161 | 344 => 165 | n => n, fun x => match x with | 31 => 24 | 9 => 9 | 3 => 3 | 46 => 116 | 0 => 0 | 51 => 33 | 53 => 157 | 4 => 4 | 183 => 148 | 182 => 147 | 131 => 153 | 5 => 5 | 218 => 162 | 222 => 114 | 228 => 167 | 229 => 168 | n => n, fun x => x⟩
theorem laysSort : Lays.n190 Try.prog laysSort_ren where
 mixed := by kernel_rfl
 f125 := Try.func133.trans (congrArg some (by kernel_rfl))
 f128 := Try.func149.trans (congrArg some (by kernel_rfl))
 f129 := Try.func150.trans (congrArg some (by kernel_rfl))
 f190 := Try.func93.trans (congrArg some (by kernel_rfl))
 f258 := Try.func132.trans (congrArg some (by kernel_rfl))
 f302 := Try.func140.trans (congrArg some (by kernel_rfl))
 f303 := Try.func141.trans (congrArg some (by kernel_rfl))
 f304 := Try.func142.trans (congrArg some (by kernel_rfl))
 f305 := Try.func143.trans (congrArg some (by kernel_rfl))
 f306 := Try.func144.trans (congrArg some (by kernel_rfl))
 f307 := Try.func145.trans (congrArg some (by kernel_rfl))
 f308 := Try.func146.trans (congrArg some (by kernel_rfl))
 f309 := Try.func147.trans (congrArg some (by kernel_rfl))
 f310 := Try.func148.trans (congrArg some (by kernel_rfl))
 f329 := Try.func157.trans (congrArg some (by kernel_rfl))
 f330 := Try.func158.trans (congrArg some (by kernel_rfl))
 f333 := Try.func156.trans (congrArg some (by kernel_rfl))
 f334 := Try.func159.trans (congrArg some (by kernel_rfl))
 f335 := Try.func160.trans (congrArg some (by kernel_rfl))
 f336 := Try.func161.trans (congrArg some (by kernel_rfl))
 f344 := Try.func165.trans (congrArg some (by kernel_rfl))
 t0 := Try.underlying0
 a0 := Try.isAgg0
 z0 := Try.sizeOf0
 v0 := Try.zeroValue0
 t3 := Try.underlying3
 a3 := Try.isAgg3
 z3 := Try.sizeOf3
 v3 := Try.zeroValue3
 t4 := Try.underlying4
 a4 := Try.isAgg4
 z4 := Try.sizeOf4
 v4 := Try.zeroValue4
 t5 := Try.underlying5
 a5 := Try.isAgg5
 z5 := Try.sizeOf5
 v5 := Try.zeroValue5
 t9 := Try.underlying9
 a9 := Try.isAgg9
 z9 := Try.sizeOf9
 v9 := Try.zeroValue9
 t31 := Try.underlying24
 a31 := Try.isAgg24
 z31 := Try.sizeOf24
 v31 := Try.zeroValue24
 t46 := Try.underlying116
 a46 := Try.isAgg116
 z46 := Try.sizeOf116
 v46 := Try.zeroValue116
 t51 := Try.underlying33
 a51 := Try.isAgg33
 z51 := Try.sizeOf33
 v51 := Try.zeroValue33
 t53 := Try.underlying157
 a53 := Try.isAgg157
 z53 := Try.sizeOf157
 v53 := Try.zeroValue157
 t131 := Try.underlying153
 a131 := Try.isAgg153
 z131 := Try.sizeOf153
 v131 := Try.zeroValue153
 t182 := Try.underlying147
 a182 := Try.isAgg147
 z182 := Try.sizeOf147
 v182 := Try.zeroValue147
 t183 := Try.underlying148
 a183 := Try.isAgg148
 z183 := Try.sizeOf148
 v183 := Try.zeroValue148
 t218 := Try.underlying162
 a218 := Try.isAgg162
 z218 := Try.sizeOf162
 v218 := Try.zeroValue162
 t222 := Try.underlying114
 a222 := Try.isAgg114
 z222 := Try.sizeOf114
 v222 := Try.zeroValue114
 t228 := Try.underlying167
 a228 := Try.isAgg167
 z228 := Try.sizeOf167
 v228 := Try.zeroValue167
 t229 := Try.underlying168
 a229 := Try.isAgg168
 z229 := Try.sizeOf168
 v229 := Try.zeroValue168
def laysCompact_ren : Ren := ⟨fun x => match x with | 194 => 94 | n => n, fun x => match x with | 31 => 24 | 9 => 9 | 3 => 3 | 4 => 4 | 0 => 0 | n => n, fun x => x⟩
theorem laysCompact : Lays.n194 Try.prog laysCompact_ren where
 mixed := by kernel_rfl
 f194 := Try.func94.trans (congrArg some (by kernel_rfl))
 t0 := Try.underlying0
 a0 := Try.isAgg0
 z0 := Try.sizeOf0
 v0 := Try.zeroValue0
 t3 := Try.underlying3
 a3 := Try.isAgg3
 z3 := Try.sizeOf3
 v3 := Try.zeroValue3
 t4 := Try.underlying4
 a4 := Try.isAgg4
 z4 := Try.sizeOf4
 v4 := Try.zeroValue4
 t9 := Try.underlying9
 a9 := Try.isAgg9
 z9 := Try.sizeOf9
 v9 := Try.zeroValue9
 t31 := Try.underlying24
 a31 := Try.isAgg24
 z31 := Try.sizeOf24
 v31 := Try.zeroValue24
def keyS (l : List UInt8) : ByteArray := ⟨l.toArray⟩
theorem key_keyS (l : List UInt8) : key (keyS l) = l := by simp [keyS, key]
section
variable {β : Env} {h : Heap} {w : World}
theorem putRow_at (w : World) (b o n : Nat) (D : List (List UInt8)) (os : Array Obj) {c : Array Value} {e : TypeId} {fr : Nat × Nat} (hw : w.heap[b]? = some (.cells c e fr)) :
  (grow (putRow encStr (Sort.ahead w n) b o D.toArray) os).heap[b]? = some (.cells (putCells encStr o D.toArray c) e fr) := by
 have hlt : b < w.heap.size := (Array.getElem?_eq_some_iff.1 hw).1
 simp only [grow, putRow, mapBlock, Sort.ahead]
 rw [Array.getElem?_append_left (by simpa using hlt), Array.getElem?_modify, if_pos rfl, hw]
 try rfl
theorem sim_putRow (sm : Sim β h w) {id b : Nat} {L : List ByteArray} (ho : h.obj id = some (.arr 1 (strRows L))) (hb : (β id).b = some b) (hL : L ≠ []) {D : List (List UInt8)} (hD : D.length = L.length) (n : Nat) (os : Array Obj) :
  Sim β (h.set id (.arr 1 (strRows (D.map keyS)))) (grow (putRow encStr (Sort.ahead w n) b (β id).o D.toArray) os) ∧ Ext β h w β (h.set id (.arr 1 (strRows (D.map keyS)))) (grow (putRow encStr (Sort.ahead w n) b (β id).o D.toArray) os) := by
 have hok := sm.ok id _ ho
 simp only [ObjOk] at hok
 obtain ⟨hz, hok⟩ := hok
 rcases hok with ⟨_, h2⟩ | ⟨b', c, e, fr, h5, h6, h7, h8, h9, h10⟩
 ·exact absurd (by simpa [strRows] using h2) hL
 rw [hb] at h5
 simp only [Option.some.injEq] at h5
 subst h5
 have hsz : (grow (putRow encStr (Sort.ahead w n) b (β id).o D.toArray) os).heap.size = w.heap.size + os.size := by
  simp [grow, putRow, mapBlock, Sort.ahead]
 have hpw := putRow_at w b (β id).o n D os h6
 refine Sim.step sm id (.arr 1 (strRows (D.map keyS))) rfl rfl rfl (by rw [hsz]; omega) (Nat.le_refl _) (fun _ _ => rfl) (by simp [Heap.set]) (sm.lt id (by rw [ho]; try rfl)) (fun id' hne => .inr (by simp [Heap.set, hne])) (fun b' hb' => .inr ⟨id, by rw [ho]; try rfl, hb', .inl rfl⟩) (fun b' hlt hb' => ?_) (fun m => ?_)
 ·have hne : b ≠ b' := fun e => hb' (by rw [← e]; exact hb)
  simp only [grow, putRow, mapBlock, Sort.ahead]
  rw [Array.getElem?_append_left (by simpa using hlt), Array.getElem?_modify, if_neg hne]
 ·simp only [ObjOk]
  have hcs : (putCells encStr (β id).o D.toArray c).size = c.size := by simp [putCells]
  refine ⟨hz, .inr ⟨b, _, e, fr, hb, hpw, by rw [hcs]; exact h7, ?_, by rw [hcs]; exact h9, ?_⟩⟩
  ·rw [strRows_len] at h8 ⊢
   simp only [List.length_map, hD]; exact h8
  ·rw [RepR_iff]
   intro i r hr
   have hi : i < D.length := by
    have := (List.getElem?_eq_some_iff.1 hr).1
    rw [strRows_len] at this
    simpa using this
   have hr2 : r = [sPV (keyS D[i])] := by
    have h1 : (D.map keyS)[i]? = some (keyS D[i]) := by simp [hi]
    rw [strRows_get h1] at hr
    exact (Option.some.injEq _ _ ▸ hr).symm
   subst hr2
   refine ⟨rfl, ?_⟩
   rw [strRows_len] at h8
   unfold RepS
   refine ⟨⟨.string (keyS D[i]), ?_, rfl, by simp only [Rep]⟩, by unfold RepS; trivial⟩
   rw [cell_of_row _ _ _ _ _ _ hpw]
   simp only [putCells, Array.getElem?_mapIdx, Nat.mul_one]
   have hlt : (β id).o + i < c.size := by rw [h7]; omega
   rw [Array.getElem?_eq_getElem hlt]
   simp only [Option.map_some, List.size_toArray]
   rw [if_pos ⟨by omega, by omega⟩, show (β id).o + i - (β id).o = i by omega]
   have : D.toArray[i]! = D[i] := by simp [hi]
   rw [this]
   try rfl
theorem sim_holds (sm : Sim β h w) {id b : Nat} {L : List ByteArray} (ho : h.obj id = some (.arr 1 (strRows L))) (hb : (β id).b = some b) (hL : L ≠ []) : Holds encStr w b (β id).o (L.map key).toArray ∧ b < w.heap.size := by
 have hok := sm.ok id _ ho
 simp only [ObjOk] at hok
 obtain ⟨hz, hok⟩ := hok
 rcases hok with ⟨_, h2⟩ | ⟨b', c, e, fr, h5, h6, h7, h8, h9, h10⟩
 ·exact absurd (by simpa [strRows] using h2) hL
 rw [hb] at h5
 simp only [Option.some.injEq] at h5
 subst h5
 refine ⟨fun j hj => ?_, (Array.getElem?_eq_some_iff.1 h6).1⟩
 have hj' : j < L.length := by simpa using hj
 rw [strRows_len] at h8
 have hr := (RepR_iff.1 h10) j [sPV L[j]] (strRows_get (by simp [hj']))
 have h1 := hr.2
 unfold RepS at h1
 obtain ⟨⟨v, c1, _, c3⟩, _⟩ := h1
 simp only [Rep] at c3
 subst c3
 rw [Nat.mul_one] at c1
 refine ⟨?_, ?_⟩
 ·rw [c1]
  have : (L.map key).toArray[j]! = key L[j] := by simp [hj']
  rw [this]
 ·simp only [World.frozen?, h6]
  have := h9 ((β id).o + j) (by rw [h7]; omega)
  simpa using this
end
theorem frz_strs {n : Nat} {H : Heap} : ∀ l : List ByteArray, FrzR n H (strRows l) (strRows l)
 | [] => by simp only [strRows, List.map_nil, FrzR]
 | s :: l => by
  have := frz_strs (n := n) (H := H) l
  simp only [strRows, List.map_cons] at this ⊢
  unfold FrzR
  exact ⟨by unfold FrzL; exact ⟨by simp only [FrzTo], by simp only [FrzL]⟩, this⟩
def sortK (L : List ByteArray) : List (List UInt8) := (L.map key).mergeSort fun x y => decide (x ≤ y)
theorem sortK_len (L : List ByteArray) : (sortK L).length = L.length := by simp [sortK]
theorem heap_same {h : Heap} {id : Nat} {o : AObj} (ho : h.obj id = some o) : h.set id o = h := by
 cases h with
 | mk n f =>
  simp only [Heap.set, Heap.mk.injEq, true_and]
  funext i
  by_cases e : i = id
  ·subst e; simp only [if_true]; exact ho.symm
  ·simp only [e, if_false]
theorem sort_own {L : List ByteArray} {id : Nat} {h : Heap} (ho : h.obj id = some (.arr 1 (strRows L))) (hl : L.length ≤ 1099511627776) :
  PCall Try.prog 93 [.own id 0 L.length] h fun r h' => r = .tup [] ∧ h' = h.set id (.arr 1 (strRows ((sortK L).map keyS))) := by
 intro β w vals sm hr
 obtain ⟨x, rfl⟩ : ∃ x, vals = [x] := by
  match vals, hr with
  | [x], _ => exact ⟨x, rfl⟩
 simp only [RepL, Rep, and_true] at hr
 obtain ⟨hid, a, cap, rfl, hc1, hc2, hc3⟩ := hr
 by_cases hL : L = []
 ·subst hL
  refine Or.inl ⟨Ty.hb_93, (Any.slices_Sort_string_none laysSort a cap w).mono ?_⟩
  rintro e w' ⟨rfl, rfl⟩
  refine ⟨.tup [], _, β, _, rfl, ⟨rfl, rfl⟩, ?_⟩
  have e1 : h.set id (.arr 1 (strRows ((sortK []).map keyS))) = h := heap_same (by rw [ho]; simp [sortK, strRows])
  rw [e1]
  exact ⟨sm, by simp only [RepH, Rep]; exact ⟨[], rfl, by simp only [RepL]⟩, Ext.refl⟩
 ·have hpos : 0 < L.length := List.length_pos_iff.2 hL
  rcases hc3 with hc3 | ⟨b, hb, rfl, _⟩
  ·omega
  obtain ⟨hH, hblt⟩ := sim_holds sm ho hb hL
  have hlen : (L.map key).length = L.length := by simp
  have hs := calls_of_every_depth fun D => AnyS.slices_Sort_string_alone laysSort D b (β id).o cap (L.map key) w hH hblt (by rw [hlen]; omega)
  rw [hlen] at hs
  simp only [Nat.zero_mul, Nat.add_zero]
  refine Or.inl ⟨Ty.hb_93, hs.mono ?_⟩
  rintro e w' ⟨rfl, n, os, rfl⟩
  obtain ⟨s1, s2⟩ := sim_putRow sm ho hb hL (D := sortK L) (sortK_len L) n os
  exact ⟨.tup [], _, β, _, rfl, ⟨rfl, rfl⟩, s1, by simp only [RepH, Rep]; exact ⟨[], rfl, by simp only [RepL]⟩, s2⟩
theorem sort_nil {p : PV} (hp : p = .emp ∨ p = .sc (.slice none 0 0)) {h : Heap} : PCall Try.prog 93 [p] h fun r h' => r = .tup [] ∧ h' = h := by
 intro β w vals sm hr
 obtain ⟨x, rfl⟩ : ∃ x, vals = [x] := by
  match vals, hr with
  | [x], _ => exact ⟨x, rfl⟩
 simp only [RepL, and_true] at hr
 obtain ⟨a, rfl⟩ : ∃ a, x = .slice a 0 0 := by
  rcases hp with rfl | rfl
  ·simp only [Rep] at hr; exact hr
  ·simp only [Rep] at hr; exact ⟨_, hr⟩
 refine Or.inl ⟨Ty.hb_93, (Any.slices_Sort_string_none laysSort a 0 w).mono ?_⟩
 rintro e w' ⟨rfl, rfl⟩
 exact ⟨.tup [], h, β, _, rfl, ⟨rfl, rfl⟩, sm, by simp only [RepH, Rep]; exact ⟨[], rfl, by simp only [RepL]⟩, Ext.refl⟩
theorem compact_nil {p : PV} (hp : p = .emp ∨ p = .sc (.slice none 0 0)) {h : Heap} : PCall Try.prog 94 [p] h fun r h' => r = p ∧ h' = h := by
 intro β w vals sm hr
 obtain ⟨x, rfl⟩ : ∃ x, vals = [x] := by
  match vals, hr with
  | [x], _ => exact ⟨x, rfl⟩
 simp only [RepL, and_true] at hr
 obtain ⟨a, rfl⟩ : ∃ a, x = .slice a 0 0 := by
  rcases hp with rfl | rfl
  ·simp only [Rep] at hr; exact hr
  ·simp only [Rep] at hr; exact ⟨_, hr⟩
 refine Or.inl ⟨Ty.hb_94, (Any.slices_Compact_string_empty laysCompact a 0 w).mono ?_⟩
 rintro e w' ⟨rfl, rfl⟩
 exact ⟨p, h, β, _, rfl, ⟨rfl, rfl⟩, sm, hr, Ext.refl⟩
theorem compact_len (D : List (List UInt8)) : (Lib.compact D).length ≤ D.length := by
 simp only [Lib.compact, Lib.compactUpTo, List.length_map]
 have := List.length_filter_le (Lib.keeps D.toArray) (List.range D.length)
 simpa using this
def compK (D : List (List UInt8)) : List (List UInt8) := Lib.compact D ++ List.replicate (D.length - (Lib.compact D).length) []
theorem compK_len (D : List (List UInt8)) : (compK D).length = D.length := by
 have := compact_len D
 simp only [compK, List.length_append, List.length_replicate]; omega
theorem compact_own {D : List (List UInt8)} {id : Nat} {h : Heap} (ho : h.obj id = some (.arr 1 (strRows (D.map keyS)))) (hl : D.length ≤ 1099511627776) :
  PCall Try.prog 94 [.own id 0 D.length] h fun r h' => r = .own id 0 (Lib.compact D).length ∧ h' = h.set id (.arr 1 (strRows ((compK D).map keyS))) := by
 intro β w vals sm hr
 obtain ⟨x, rfl⟩ : ∃ x, vals = [x] := by
  match vals, hr with
  | [x], _ => exact ⟨x, rfl⟩
 have hcl := compact_len D
 simp only [RepL, Rep, and_true] at hr
 obtain ⟨hid, a, cap, rfl, hc1, hc2, hc3⟩ := hr
 by_cases hL : D = []
 ·subst hL
  refine Or.inl ⟨Ty.hb_94, (Any.slices_Compact_string_empty laysCompact a cap w).mono ?_⟩
  rintro e w' ⟨rfl, rfl⟩
  refine ⟨.own id 0 0, _, β, _, rfl, ⟨rfl, rfl⟩, ?_⟩
  have e1 : h.set id (.arr 1 (strRows ((compK []).map keyS))) = h := heap_same (by rw [ho]; try rfl)
  rw [e1]
  exact ⟨sm, by simp only [RepH, Rep]; exact ⟨hid, a, cap, rfl, hc1, hc2, hc3⟩, Ext.refl⟩
 ·have hpos : 0 < D.length := List.length_pos_iff.2 hL
  have hL2 : D.map keyS ≠ [] := by simpa using hL
  have hlen2 : (D.map keyS).length = D.length := by simp
  rcases hc3 with hc3 | ⟨b, hb, rfl, hfit⟩
  ·omega
  obtain ⟨hH, hblt⟩ := sim_holds sm ho hb hL2
  have hk : (D.map keyS).map key = D := by rw [List.map_map]; simp [Function.comp_def, key_keyS]
  rw [hk] at hH
  have hs := Any.slices_Compact_string laysCompact b (β id).o cap D w hH (by omega) (by omega)
  simp only [Nat.zero_mul, Nat.add_zero]
  refine Or.inl ⟨Ty.hb_94, hs.mono ?_⟩
  rintro e w' ⟨rfl, n, rfl⟩
  obtain ⟨s1, s2⟩ := sim_putRow sm ho hb hL2 (D := compK D) (by rw [compK_len, hlen2]) n #[]
  rw [grow_empty] at s1 s2
  refine ⟨.own id 0 (Lib.compact D).length, _, β, _, rfl, ⟨rfl, rfl⟩, s1, ?_, s2⟩
  simp only [RepH, Rep]
  exact ⟨hid, _, cap, rfl, by omega, hc2, .inr ⟨b, hb, by simp, hfit⟩⟩
theorem freeNil_c {f : Fm} (hok : f.ok) (hb : PV.bulkL f.cells ≤ 1099511627776) (h : Heap) :
  PCall Try.prog 92 [.sc (.slice none 0 0), .agg f.cells, .sc (.slice none 0 0)] h fun r h' => VI h h.next (freeFm f []) r h' := by
 refine PCall.nil_imm (z := 1) (pre := [.sc (.slice none 0 0), .agg f.cells]) (post := []) ?_
 have := free_c f hok (bound := []) (L := []) (by simpa using hb) (by simpa using hb) (o := .sc (.slice none 0 0)) (id0 := h.next) (h := h) (Nat.le_refl _) Tl.nil
 simpa [sr_nil] using this
theorem Free_c {f : Fm} (hok : f.ok) (hsm : f.small) (hb : PV.bulkL f.cells ≤ 1099511627776) (h : Heap) :
  PCall Try.prog 51 [.agg f.cells] h fun r h' => r = .imm 1 (strRows ((freeL f).map keyS)) ∧ h' = h := by
 have hv := fun H => fvalid_c hok hsm H
 have hfr := freeNil_c hok hb h
 have hfl := freeFm_len f []
 refine PCall.frz Ty.hb_51 ?_
 cases q : validF f with
 | false =>
  rw [show freeL f = [] from if_neg (by rw [q]; simp)]
  rw [q] at hv
  obtain ⟨op, name, args, params, exprs, kids⟩ := f
  simp only [Fm.cells, List.map_nil, sr_nil] at hv ⊢
  refine pcall_body (ow := fun _ => false) (wf := fun g => g == 92 || g == 93 || g == 94) Ty.mixed Try.func51 rfl Ty.hb_51 (by rw [Try.ntmps51]; simp) ?_
  rw [Try.ntmps51, Try.results51]
  repeat' (first | refine a_seq fun K hK => ?_ | (refine a_regionS ?_; simp (maxSteps := 2000000) only [Ty.w, simprocAttr]) | (refine hK _ _ ?_; clear hK; try simp only [pst0, simprocAttr]))
  refine owp_useQ (hv _) (by (try simp only [Ty.w, simprocAttr, Bool.not_false]); try rfl) ?_; simp (maxSteps := 2000000) only [Ty.w, simprocAttr, Bool.not_false]
  repeat' (first | refine a_seq fun K hK => ?_ | ((first | refine a_regionS ?_ | refine a_ret ?_); simp (maxSteps := 2000000) only [Ty.w, simprocAttr, Bool.not_false]) | (refine hK _ _ ?_; clear hK; try simp only [pst0, simprocAttr]))
  exact ⟨frz_nilslice, Grow.refl _⟩
 | true =>
  have hL : freeL f = Lib.compact (sortK (freeFm f [])) := if_pos q
  rw [hL]
  clear hL
  rw [q] at hv
  generalize freeFm f [] = L at hfr hfl ⊢
  obtain ⟨op, name, args, params, exprs, kids⟩ := f
  simp only [Fm.cells] at hv hfr ⊢
  refine pcall_body (ow := fun _ => false) (wf := fun g => g == 92 || g == 93 || g == 94) Ty.mixed Try.func51 rfl Ty.hb_51 (by rw [Try.ntmps51]; simp) ?_
  rw [Try.ntmps51, Try.results51]
  repeat' (first | refine a_seq fun K hK => ?_ | (refine a_regionS ?_; simp (maxSteps := 2000000) only [Ty.w, simprocAttr]) | (refine hK _ _ ?_; clear hK; try simp only [pst0, simprocAttr]))
  refine owp_useQ (hv _) (by (try simp only [Ty.w, simprocAttr, Bool.not_true]); try rfl) ?_; simp (maxSteps := 2000000) only [Ty.w, simprocAttr, Bool.not_true]
  repeat' (first | refine a_seq fun K hK => ?_ | (refine a_regionS ?_; simp (maxSteps := 2000000) only [Ty.w, simprocAttr, Bool.not_true]) | (refine a_skip ?_; try simp only [pst0, simprocAttr]) | (refine a_cond _ (by (try simp (maxSteps := 2000000) only [Ty.w, simprocAttr, Bool.not_true]); rfl) (fun hb => ?_) (fun hb => ?_) <;> (try simp only [hb0, decide_eq_true_eq, decide_eq_false_iff_not, simprocAttr] at hb) <;> (try (exfalso; omega))) | (refine hK _ _ ?_; clear hK; try simp only [pst0, simprocAttr]))
  refine owp_useL hfr (by (try simp only [Ty.w, simprocAttr]); try rfl) ?_
  rintro r h1 hV
  simp (maxSteps := 2000000) only [Ty.w, simprocAttr, Ty.all]
  have hgr : Grow h h1 := ⟨hV.le, hV.old⟩
  rcases hV.tl with ⟨hn, hp⟩ | ⟨id, i1, i2, rfl, i4⟩
  ·have hLn : L = [] := by simpa [strRows] using hn
   subst hLn
   have hp' : r = .emp ∨ r = .sc (.slice none 0 0) := hp.symm
   have c1 := fun H : Heap => sort_nil hp' (h := H)
   have c2 := fun H : Heap => compact_nil hp' (h := H)
   repeat' (first | refine a_seq fun K hK => ?_ | (refine a_regionS ?_; simp (maxSteps := 2000000) only [Ty.w, simprocAttr]) | (refine hK _ _ ?_; clear hK; try simp only [pst0, simprocAttr]))
   refine owp_useH (c1 _) (by (try simp only [Ty.w, simprocAttr, reduceCtorEq]); try rfl) ?_; simp (maxSteps := 2000000) only [Ty.w, simprocAttr, reduceCtorEq]
   repeat' (first | refine a_seq fun K hK => ?_ | (refine a_regionS ?_; simp (maxSteps := 2000000) only [Ty.w, simprocAttr]) | (refine hK _ _ ?_; clear hK; try simp only [pst0, simprocAttr]))
   refine owp_useQ (c2 _) (by (try simp only [Ty.w, simprocAttr, reduceCtorEq]); try rfl) ?_; simp (maxSteps := 2000000) only [Ty.w, simprocAttr, reduceCtorEq]
   repeat' (first | (refine a_ret ?_; simp (maxSteps := 2000000) only [Ty.w, simprocAttr]) | (refine hK _ _ ?_; clear hK; try simp only [pst0, simprocAttr]))
   refine ⟨?_, hgr⟩
   unfold FrzTo
   exact .inr (.inl ⟨by simp [sortK, Lib.compact, Lib.compactUpTo, strRows], hp'⟩)
  ·rw [strRows_len] at *
   have c1 := sort_own i4 (by omega)
   have c2 := compact_own (D := sortK L) (id := id) (h := h1.set id (.arr 1 (strRows ((sortK L).map keyS)))) (by simp [Heap.set]) (by rw [sortK_len]; omega)
   rw [sortK_len] at c2
   have hcl := compact_len (sortK L)
   rw [sortK_len] at hcl
   repeat' (first | refine a_seq fun K hK => ?_ | (refine a_regionS ?_; simp (maxSteps := 2000000) only [Ty.w, simprocAttr]) | (refine hK _ _ ?_; clear hK; try simp only [pst0, simprocAttr]))
   refine owp_useH (c1) (by (try simp only [Ty.w, simprocAttr, reduceCtorEq]); try rfl) ?_; simp (maxSteps := 2000000) only [Ty.w, simprocAttr, reduceCtorEq]
   repeat' (first | refine a_seq fun K hK => ?_ | (refine a_regionS ?_; simp (maxSteps := 2000000) only [Ty.w, simprocAttr]) | (refine hK _ _ ?_; clear hK; try simp only [pst0, simprocAttr]))
   refine owp_useH (c2) (by (try simp only [Ty.w, simprocAttr, reduceCtorEq]); try rfl) ?_; simp (maxSteps := 2000000) only [Ty.w, simprocAttr, reduceCtorEq]
   repeat' (first | (refine a_ret ?_; simp (maxSteps := 2000000) only [Ty.w, simprocAttr]) | (refine hK _ _ ?_; clear hK; try simp only [pst0, simprocAttr]))
   refine ⟨?_, (hgr.set i1 _).set i1 _⟩
   unfold FrzTo
   refine .inr (.inr ⟨id, 0, _, strRows ((compK (sortK L)).map keyS), rfl, i1, by simp only [Heap.set, if_true], ?_, ?_⟩)
   ·rw [strRows_len]; simp only [List.length_map, compK_len, sortK_len]; omega
   ·rw [List.drop_zero]
    have e1 : (strRows ((compK (sortK L)).map keyS)).take (Lib.compact (sortK L)).length = strRows ((Lib.compact (sortK L)).map keyS) := by
     simp [strRows, compK, List.take_append]
    rw [e1]
    exact frz_strs _
end Go.Proofs.Ytjlkapgpjamnkaa
namespace Go.Proofs.Ytjlkapgpjamnkaa
open Go.AM
set_option maxHeartbeats 2000000
set_option maxRecDepth 20000
theorem rsizeE_c : ∀ (e : Ex), e.ok → ∀ h : Heap, PCall Try.prog 39 [.agg e.cells] h fun r h' => r = .sc (.int .i64 e.size) ∧ h' = h := by
 refine Ex.ind ?_
 intro op name n args kids ih hok h
 simp only [Ex.ok] at hok
 obtain ⟨_, _, _, _, hk, hks⟩ := hok
 rw [Ex.oks_iff] at hks
 have hlen := Ex.rows_len kids
 simp only [Ex.cells, Ex.size]
 refine pcall_body (ow := fun _ => false) (wf := fun _ => false) Ty.mixed Try.func39 rfl Ty.hb_39 (by rw [Try.ntmps39]; simp) ?_
 rw [Try.ntmps39, Try.results39]
 repeat' (first | refine a_seq fun K hK => ?_ | (refine a_block ?_) | (refine a_regionS ?_; simp (maxSteps := 2000000) only [Ty.w, simprocAttr, hlen]) | (refine hK _ _ ?_; clear hK; try simp only [pst0, simprocAttr]))
 refine a_loop (fun m S h' => h' = h ∧ S 1 = .cptr (Ex.mk op name n args kids).cells ∧ ∃ k : Nat, S 4 = .sc (.int .i64 k) ∧ k ≤ kids.length ∧ m = kids.length - k ∧ S 3 = .sc (.int .i64 (Ex.sizes 1 (kids.take k)))) kids.length ?_ ?_
 ·simp only [Ty.w, simprocAttr]
  exact ⟨rfl, 0, rfl, by omega, rfl, by simp [Ex.sizes]⟩
 ·rintro m S h' ⟨rfl, g1, k, g4, hkl, rfl, g3⟩
  simp only [Ex.cells] at g1
  by_cases hlt : k < kids.length
  ·have hd : decide ((k : Int) < (kids.length : Int)) = true := by simp; omega
   have w7 : IntKind.i64.wrap ((k : Int) + 1) = k + 1 := by unfold bigN at hk; rw [wrap64 (by omega) (by omega)]
   obtain ⟨e, hx⟩ : ∃ e, kids[k]? = some e := ⟨_, List.getElem?_eq_getElem hlt⟩
   have hmem := List.mem_of_getElem? hx
   have hc := ih e hmem (hks e hmem)
   have hsz := Ex.sizes_take 1 hx
   have hr := Ex.rows_get hx
   obtain ⟨op2, name2, n2, args2, kids2⟩ := e
   simp only [Ex.cells] at hr hc
   repeat' (first | refine a_seq fun K hK => ?_ | (refine a_block ?_) | ((first | refine a_regionS ?_ | refine a_region (fun K hK => ?_)); simp (maxSteps := 2000000) only [Ty.w, simprocAttr, g1, g3, g4, hlen, hd, hr, w7]) | (refine a_skip ?_; try simp only [pst0, simprocAttr]) | (refine a_cond _ (by (try simp (maxSteps := 2000000) only [Ty.w, simprocAttr, g1, g3, g4, hlen, hd, hr, w7]); rfl) (fun hb => ?_) (fun hb => ?_) <;> (try simp only [hb0, decide_eq_true_eq, decide_eq_false_iff_not, simprocAttr] at hb) <;> (try (exfalso; omega))) | (refine hK _ _ ?_; clear hK; try simp only [pst0, simprocAttr]))
   refine owp_useQ (hc _) (by (try simp only [Ty.w, simprocAttr, g1, g3, g4, hlen, hd, hr]); try rfl) ?_; simp (maxSteps := 2000000) only [Ty.w, simprocAttr, g1, g3, g4, hlen, hd, hr]
   repeat' (first | (refine a_regionS ?_; simp (maxSteps := 2000000) only [Ty.w, simprocAttr, g1, g3, g4, w7]) | (refine hK _ _ ?_; clear hK; try simp only [pst0, simprocAttr]))
   exact ⟨kids.length - (k + 1), by omega, rfl, k + 1, by simp, by omega, rfl, by rw [hsz]⟩
  ·have hd : decide ((k : Int) < (kids.length : Int)) = false := by simp; omega
   have hke : k = kids.length := by omega
   subst hke
   rw [List.take_length] at g3
   repeat' (first | refine a_seq fun K hK => ?_ | ((first | refine a_regionS ?_ | refine a_ret ?_); simp (maxSteps := 2000000) only [Ty.w, simprocAttr, g1, g3, g4, hlen, hd]) | (refine a_exit ?_; try simp only [pst0, simprocAttr]) | (refine a_cond _ (by (try simp (maxSteps := 2000000) only [Ty.w, simprocAttr, g1, g3, g4, hlen, hd]); rfl) (fun hb => ?_) (fun hb => ?_) <;> (try simp only [hb0, decide_eq_true_eq, decide_eq_false_iff_not, simprocAttr] at hb) <;> (try (exfalso; omega))) | ((first | refine hK _ _ ?_ | (clear hK; refine hK _ _ ?_)); clear hK; try simp only [pst0, simprocAttr]))
theorem rsize_c : ∀ (f : Fm), f.ok → ∀ h : Heap, PCall Try.prog 24 [.agg f.cells] h fun r h' => r = .sc (.int .i64 f.size) ∧ h' = h := by
 refine Fm.ind ?_
 intro op name args params exprs kids ih hok h
 simp only [Fm.ok] at hok
 obtain ⟨_, _, _, _, ⟨he, hes⟩, hk, hks⟩ := hok
 rw [Ex.oks_iff] at hes
 rw [Fm.oks_iff] at hks
 have hlen := Fm.rows_len kids
 have hlene := Ex.rows_len exprs
 simp only [Fm.cells, Fm.size]
 refine pcall_body (ow := fun _ => false) (wf := fun _ => false) Ty.mixed Try.func24 rfl Ty.hb_24 (by rw [Try.ntmps24]; simp) ?_
 rw [Try.ntmps24, Try.results24]
 repeat' (first | refine a_seq fun K hK => ?_ | (refine a_block ?_) | (refine a_regionS ?_; simp (maxSteps := 2000000) only [Ty.w, simprocAttr, hlen]) | (refine hK _ _ ?_; clear hK; try simp only [pst0, simprocAttr]))
 refine a_loop (fun m S h' => h' = h ∧ S 1 = .cptr (Fm.mk op name args params exprs kids).cells ∧ ∃ k : Nat, S 4 = .sc (.int .i64 k) ∧ k ≤ exprs.length ∧ m = exprs.length - k ∧ S 3 = .sc (.int .i64 (Ex.sizes 1 (exprs.take k)))) exprs.length ?_ ?_
 ·simp only [Ty.w, simprocAttr]
  exact ⟨rfl, 0, rfl, by omega, rfl, by simp [Ex.sizes]⟩
 ·rintro m S h' ⟨rfl, g1, k, g4, hkl, rfl, g3⟩
  simp only [Fm.cells] at g1
  by_cases hlt : k < exprs.length
  ·have hd : decide ((k : Int) < (exprs.length : Int)) = true := by simp; omega
   have w7 : IntKind.i64.wrap ((k : Int) + 1) = k + 1 := by unfold bigN at he; rw [wrap64 (by omega) (by omega)]
   obtain ⟨e, hx⟩ : ∃ e, exprs[k]? = some e := ⟨_, List.getElem?_eq_getElem hlt⟩
   have hmem := List.mem_of_getElem? hx
   have hc := rsizeE_c e (hes e hmem)
   have hsz := Ex.sizes_take 1 hx
   have hr := Ex.rows_get hx
   obtain ⟨op2, name2, n2, args2, kids2⟩ := e
   simp only [Ex.cells] at hr hc
   repeat' (first | refine a_seq fun K hK => ?_ | (refine a_block ?_) | ((first | refine a_regionS ?_ | refine a_region (fun K hK => ?_)); simp (maxSteps := 2000000) only [Ty.w, simprocAttr, g1, g3, g4, hlene, hd, hr, w7]) | (refine a_skip ?_; try simp only [pst0, simprocAttr]) | (refine a_cond _ (by (try simp (maxSteps := 2000000) only [Ty.w, simprocAttr, g1, g3, g4, hlene, hd, hr, w7]); rfl) (fun hb => ?_) (fun hb => ?_) <;> (try simp only [hb0, decide_eq_true_eq, decide_eq_false_iff_not, simprocAttr] at hb) <;> (try (exfalso; omega))) | (refine hK _ _ ?_; clear hK; try simp only [pst0, simprocAttr]))
   refine owp_useQ (hc _) (by (try simp only [Ty.w, simprocAttr, g1, g3, g4, hlene, hd, hr]); try rfl) ?_; simp (maxSteps := 2000000) only [Ty.w, simprocAttr, g1, g3, g4, hlene, hd, hr]
   repeat' (first | (refine a_regionS ?_; simp (maxSteps := 2000000) only [Ty.w, simprocAttr, g1, g3, g4, w7]) | (refine hK _ _ ?_; clear hK; try simp only [pst0, simprocAttr]))
   exact ⟨exprs.length - (k + 1), by omega, by simp only [Fm.cells], k + 1, by simp, by omega, rfl, by rw [hsz]⟩
  ·have hd : decide ((k : Int) < (exprs.length : Int)) = false := by simp; omega
   have hke : k = exprs.length := by omega
   subst hke
   rw [List.take_length] at g3
   repeat' (first | refine a_seq fun K hK => ?_ | (refine a_block ?_) | (refine a_regionS ?_; simp (maxSteps := 2000000) only [Ty.w, simprocAttr, g1, g3, g4, hlene, hd]) | (refine a_exit ?_; try simp only [pst0, simprocAttr]) | (refine a_cond _ (by (try simp (maxSteps := 2000000) only [Ty.w, simprocAttr, g1, g3, g4, hlene, hd]); rfl) (fun hb => ?_) (fun hb => ?_) <;> (try simp only [hb0, decide_eq_true_eq, decide_eq_false_iff_not, simprocAttr] at hb) <;> (try (exfalso; omega))) | ((first | refine hK _ _ ?_ | (clear hK; refine hK _ _ ?_)); clear hK; try simp only [pst0, simprocAttr]))
   refine a_loop (fun m S h2 => h2 = h' ∧ S 1 = .cptr (Fm.mk op name args params exprs kids).cells ∧ ∃ k : Nat, S 5 = .sc (.int .i64 k) ∧ k ≤ kids.length ∧ m = kids.length - k ∧ S 3 = .sc (.int .i64 (Fm.sizes (Ex.sizes 1 exprs) (kids.take k)))) kids.length ?_ ?_
   ·simp only [Ty.w, simprocAttr, g1, g3]
    exact ⟨by simp only [Fm.cells], 0, rfl, by omega, rfl, by simp [Fm.sizes]⟩
   ·clear g1 g3 g4
    rintro m S h' ⟨rfl, g1, k, g5, hkl, rfl, g3⟩
    simp only [Fm.cells] at g1
    by_cases hlt : k < kids.length
    ·have hd : decide ((k : Int) < (kids.length : Int)) = true := by simp; omega
     have w7 : IntKind.i64.wrap ((k : Int) + 1) = k + 1 := by unfold bigN at hk; rw [wrap64 (by omega) (by omega)]
     obtain ⟨e, hx⟩ : ∃ e, kids[k]? = some e := ⟨_, List.getElem?_eq_getElem hlt⟩
     have hmem := List.mem_of_getElem? hx
     have hc := ih e hmem (hks e hmem)
     have hsz := Fm.sizes_take (Ex.sizes 1 exprs) hx
     have hr := Fm.rows_get hx
     obtain ⟨op2, name2, args2, params2, exprs2, kids2⟩ := e
     simp only [Fm.cells] at hr hc
     repeat' (first | refine a_seq fun K hK => ?_ | (refine a_block ?_) | ((first | refine a_regionS ?_ | refine a_region (fun K hK => ?_)); simp (maxSteps := 2000000) only [Ty.w, simprocAttr, g1, g3, g5, hlen, hd, hr, w7]) | (refine a_skip ?_; try simp only [pst0, simprocAttr]) | (refine a_cond _ (by (try simp (maxSteps := 2000000) only [Ty.w, simprocAttr, g1, g3, g5, hlen, hd, hr, w7]); rfl) (fun hb => ?_) (fun hb => ?_) <;> (try simp only [hb0, decide_eq_true_eq, decide_eq_false_iff_not, simprocAttr] at hb) <;> (try (exfalso; omega))) | (refine hK _ _ ?_; clear hK; try simp only [pst0, simprocAttr]))
     refine owp_useQ (hc _) (by (try simp only [Ty.w, simprocAttr, g1, g3, g5, hlen, hd, hr]); try rfl) ?_; simp (maxSteps := 2000000) only [Ty.w, simprocAttr, g1, g3, g5, hlen, hd, hr]
     repeat' (first | (refine a_regionS ?_; simp (maxSteps := 2000000) only [Ty.w, simprocAttr, g1, g3, g5, w7]) | (refine hK _ _ ?_; clear hK; try simp only [pst0, simprocAttr]))
     exact ⟨kids.length - (k + 1), by omega, by simp only [Fm.cells], k + 1, by simp, by omega, rfl, by rw [hsz]⟩
    ·have hd : decide ((k : Int) < (kids.length : Int)) = false := by simp; omega
     have hke : k = kids.length := by omega
     subst hke
     rw [List.take_length] at g3
     repeat' (first | refine a_seq fun K hK => ?_ | ((first | refine a_regionS ?_ | refine a_ret ?_); simp (maxSteps := 2000000) only [Ty.w, simprocAttr, g1, g3, g5, hlen, hd]) | (refine a_exit ?_; try simp only [pst0, simprocAttr]) | (refine a_cond _ (by (try simp (maxSteps := 2000000) only [Ty.w, simprocAttr, g1, g3, g5, hlen, hd]); rfl) (fun hb => ?_) (fun hb => ?_) <;> (try simp only [hb0, decide_eq_true_eq, decide_eq_false_iff_not, simprocAttr] at hb) <;> (try (exfalso; omega))) | ((first | refine hK _ _ ?_ | (clear hK; refine hK _ _ ?_)); clear hK; try simp only [pst0, simprocAttr]))
theorem large_c {f : Fm} (hf : f.ok) (h : Heap) : PCall Try.prog 19 [.agg f.cells] h fun r h' => r = .sc (.bool (decide (f.size > 5000))) ∧ h' = h := by
 have hc := rsize_c f hf
 obtain ⟨op, name, args, params, exprs, kids⟩ := f
 simp only [Fm.cells] at hc ⊢
 refine pcall_body (ow := fun _ => false) (wf := fun _ => false) Ty.mixed Try.func19 rfl Ty.hb_19 (by rw [Try.ntmps19]; simp) ?_
 rw [Try.ntmps19, Try.results19]
 repeat' (first | refine a_seq fun K hK => ?_ | (refine a_regionS ?_; simp (maxSteps := 2000000) only [Ty.w, simprocAttr]) | (refine hK _ _ ?_; clear hK; try simp only [pst0, simprocAttr]))
 refine owp_useQ (hc _) (by (try simp only [Ty.w, simprocAttr, ]); try rfl) ?_; simp (maxSteps := 2000000) only [Ty.w, simprocAttr, ]
 repeat' (first | (refine a_ret ?_; simp (maxSteps := 2000000) only [Ty.w, simprocAttr]) | (refine hK _ _ ?_; clear hK; try simp only [pst0, simprocAttr]))
end Go.Proofs.Ytjlkapgpjamnkaa
namespace Go.Proofs.Ytjlkapgpjamnkaa
open Go.AM
set_option maxHeartbeats 4000000
set_option maxRecDepth 20000
theorem texts_c {A B : List ByteArray} {p q : PV} {h : Heap} (hp : Sl h 1 p (strRows A)) (hq : Sl h 1 q (strRows B)) (hA : A.length ≤ 1099511627776) (hB : B.length ≤ 1099511627776) :
  PCall Try.prog 52 [p, q] h fun r h' => r = .sc (.bool (bsEq A B)) ∧ h' = h := by
 refine pcall_wf Ty.hb_52 fun hwf => ?_
 have hlA : ∀ H, lenP H p = some A.length := fun H => by rw [lenP_sl hp H, strRows_len]
 have hlB : ∀ H, lenP H q = some B.length := fun H => by rw [lenP_sl hq H, strRows_len]
 have hkA := hp.lk
 have hkB := hq.lk
 by_cases hl : A.length = B.length
 rotate_left
 ·have e1 : ((A.length : Int) == (B.length : Int)) = false := by simpa using (by omega : ¬ (A.length : Int) = B.length)
  have e2 : ((A.length : Int) = (B.length : Int)) = False := by simp; omega
  have hf : bsEq A B = false := by
   cases hb : bsEq A B with
   | false => rfl
   | true =>
    exfalso
    have : ∀ (l m : List ByteArray), bsEq l m = true → l.length = m.length := by
     intro l
     induction l with
     | nil => intro m hm; cases m with
      | nil => rfl
      | cons a m => simp [bsEq] at hm
     | cons a l ih => intro m hm; cases m with
      | nil => simp [bsEq] at hm
      | cons b m => simp only [bsEq, Bool.and_eq_true] at hm; simp only [List.length_cons, ih m hm.2]
    exact hl (this A B hb)
  rw [hf]
  refine pcall_body (ow := fun _ => false) (wf := fun _ => false) Ty.mixed Try.func52 rfl Ty.hb_52 (by rw [Try.ntmps52]; simp) ?_
  rw [Try.ntmps52, Try.results52]
  repeat' (first | refine a_seq fun K hK => ?_ | ((first | refine a_regionS ?_ | refine a_ret ?_); simp (maxSteps := 2000000) only [Ty.w, simprocAttr, hlA, hlB, hkA, hkB, e1, e2, bne, Bool.not_false]) | (refine hK _ _ ?_; clear hK; try simp only [pst0, simprocAttr]))
 ·have e1 : ((A.length : Int) == (B.length : Int)) = true := by simpa using (by omega : (A.length : Int) = B.length)
  have e2 : ((A.length : Int) = (B.length : Int)) = True := by simp; omega
  generalize hR : bsEq A B = R
  refine pcall_body (ow := fun _ => false) (wf := fun _ => false) Ty.mixed Try.func52 rfl Ty.hb_52 (by rw [Try.ntmps52]; simp) ?_
  rw [Try.ntmps52, Try.results52]
  repeat' (first | refine a_seq fun K hK => ?_ | (refine a_block ?_) | (refine a_regionS ?_; simp (maxSteps := 2000000) only [Ty.w, simprocAttr, hlA, hlB, hkA, hkB, e1, e2, bne, Bool.not_true]) | (refine a_skip ?_; try simp only [pst0, simprocAttr]) | (refine a_cond _ (by (try simp (maxSteps := 2000000) only [Ty.w, simprocAttr, hlA, hlB, hkA, hkB, e1, e2, bne, Bool.not_true]); rfl) (fun hb => ?_) (fun hb => ?_) <;> (try simp only [hb0, decide_eq_true_eq, decide_eq_false_iff_not, simprocAttr] at hb) <;> (try (exfalso; omega))) | (refine hK _ _ ?_; clear hK; try simp only [pst0, simprocAttr]))
  refine a_loop (fun c S h' => S 0 = p ∧ S 1 = q ∧ S 12 = .sc (.int .i64 A.length) ∧ ∃ k : Nat, S 13 = .sc (.int .i64 k) ∧ k ≤ A.length ∧ c = A.length - k ∧ h' = h ∧ R = bsEq (A.drop k) (B.drop k)) A.length ?_ ?_
  ·simp only [Ty.w, simprocAttr]
   exact ⟨0, rfl, by omega, rfl, by rw [List.drop_zero, List.drop_zero]; exact hR.symm⟩
  ·rintro c S h' ⟨g0, g1, g12, k, g13, hk, rfl, rfl, hinv⟩
   by_cases hlt : k < A.length
   ·have hd : decide ((k : Int) < (A.length : Int)) = true := by simp; omega
    have w7 : IntKind.i64.wrap ((k : Int) + 1) = k + 1 := by rw [wrap64 (by omega) (by omega)]
    obtain ⟨s, hx⟩ : ∃ s, A[k]? = some s := ⟨_, List.getElem?_eq_getElem hlt⟩
    obtain ⟨t, hy⟩ : ∃ t, B[k]? = some t := ⟨_, List.getElem?_eq_getElem (by omega)⟩
    rw [drop_get hx, drop_get hy] at hinv
    simp only [bsEq] at hinv
    obtain ⟨px, hpx, hrx⟩ := hp.get _ _ (strRows_get hx)
    obtain ⟨py, hpy, hry⟩ := hq.get _ _ (strRows_get hy)
    cases q1 : (s.data.toList == t.data.toList) with
    | true =>
     rw [show bEq s t = true from q1, Bool.true_and] at hinv
     repeat' (first | refine a_seq fun K hK => ?_ | (refine a_block ?_) | ((first | refine a_regionS ?_ | refine a_drawS (by decide +kernel) ?_); simp (maxSteps := 2000000) only [Ty.w, simprocAttr, g0, g1, g12, g13, hd, hpx, hrx, hpy, hry, q1, w7, Bool.not_true]) | (refine a_skip ?_; try simp only [pst0, simprocAttr]) | (refine a_cond _ (by (try simp (maxSteps := 2000000) only [Ty.w, simprocAttr, g0, g1, g12, g13, hd, hpx, hrx, hpy, hry, q1, w7, Bool.not_true]); rfl) (fun hb => ?_) (fun hb => ?_) <;> (try simp only [hb0, decide_eq_true_eq, decide_eq_false_iff_not, simprocAttr] at hb) <;> (try (exfalso; omega))) | (refine hK _ _ ?_; clear hK; try simp only [pst0, simprocAttr]))
     exact ⟨A.length - (k + 1), by omega, k + 1, by simp, by omega, rfl, hinv⟩
    | false =>
     rw [show bEq s t = false from q1, Bool.false_and] at hinv
     subst hinv
     repeat' (first | refine a_seq fun K hK => ?_ | ((first | refine a_regionS ?_ | refine a_drawS (by decide +kernel) ?_ | refine a_ret ?_); simp (maxSteps := 2000000) only [Ty.w, simprocAttr, g0, g1, g12, g13, hd, hpx, hrx, hpy, hry, q1, Bool.not_false]) | (refine a_skip ?_; try simp only [pst0, simprocAttr]) | (refine a_cond _ (by (try simp (maxSteps := 2000000) only [Ty.w, simprocAttr, g0, g1, g12, g13, hd, hpx, hrx, hpy, hry, q1, Bool.not_false]); rfl) (fun hb => ?_) (fun hb => ?_) <;> (try simp only [hb0, decide_eq_true_eq, decide_eq_false_iff_not, simprocAttr] at hb) <;> (try (exfalso; omega))) | (refine hK _ _ ?_; clear hK; try simp only [pst0, simprocAttr]))
   ·have hd : decide ((k : Int) < (A.length : Int)) = false := by simp; omega
    rw [List.drop_eq_nil_of_le (by omega), List.drop_eq_nil_of_le (by omega)] at hinv
    simp only [bsEq] at hinv
    subst hinv
    repeat' (first | refine a_seq fun K hK => ?_ | ((first | refine a_regionS ?_ | refine a_ret ?_); simp (maxSteps := 2000000) only [Ty.w, simprocAttr, g0, g1, g12, g13, hd]) | (refine a_exit ?_; try simp only [pst0, simprocAttr]) | (refine a_cond _ (by (try simp (maxSteps := 2000000) only [Ty.w, simprocAttr, g0, g1, g12, g13, hd]); rfl) (fun hb => ?_) (fun hb => ?_) <;> (try simp only [hb0, decide_eq_true_eq, decide_eq_false_iff_not, simprocAttr] at hb) <;> (try (exfalso; omega))) | ((first | refine hK _ _ ?_ | (clear hK; refine hK _ _ ?_)); clear hK; try simp only [pst0, simprocAttr]))
structure B3 (h0 : Heap) (a b c : PV) (A B C : List ByteArray) (h : Heap) : Prop where
 grow : Grow h0 h
 ca : Tl h h0.next 1 a (strRows A)
 cb : Tl h h0.next 1 b (strRows B)
 cc : Tl h h0.next 1 c (strRows C)
 ab : ∀ i m n, a = .own i 0 m → b = .own i 0 n → False
 ac : ∀ i m n, a = .own i 0 m → c = .own i 0 n → False
 bc : ∀ i m n, b = .own i 0 m → c = .own i 0 n → False
theorem B3.swapAB {h0 h : Heap} {a b c : PV} {A B C : List ByteArray} (i : B3 h0 a b c A B C h) : B3 h0 b a c B A C h := ⟨i.grow, i.cb, i.ca, i.cc, fun j m n e f => i.ab j n m f e, i.bc, i.ac⟩
theorem B3.swapAC {h0 h : Heap} {a b c : PV} {A B C : List ByteArray} (i : B3 h0 a b c A B C h) : B3 h0 c b a C B A h := ⟨i.grow, i.cc, i.cb, i.ca, fun j m n e f => i.bc j n m f e, fun j m n e f => i.ac j n m f e, fun j m n e f => i.ab j n m f e⟩
theorem tl_id_lt {h : Heap} {id0 z : Nat} {p : PV} {rows : List (List PV)} (t : Tl h id0 z p rows) {i m : Nat} (e : p = .own i 0 m) : i < h.next := by
 rcases t with ⟨_, rfl | rfl⟩ | ⟨id, _, h2, rfl, _⟩
 ·simp at e
 ·simp at e
 ·simp only [PV.own.injEq] at e; omega
theorem B3.app {h0 h : Heap} {a b c : PV} {A B C : List ByteArray} (i : B3 h0 a b c A B C h) : ∃ H, isTail h a = some (H, strRows A) ∧ zOk h 1 a = true ∧ H.next = h.next ∧
  ∀ (s : ByteArray) (m : Nat) (R : List (List PV)), m = A.length + 1 → R = strRows A ++ [[sPV s]] → B3 h0 (.own h.next 0 m) b c (A ++ [s]) B C (H.new (.arr 1 R)) := by
 have hR : ∀ s, strRows (A ++ [s]) = strRows A ++ [[sPV s]] := fun s => by simp [strRows]
 rcases i.ca with ⟨hn, hp⟩ | ⟨id, h1, h2, rfl, h3⟩
 ·refine ⟨h, ?_, ?_, rfl, ?_⟩
  ·rw [hn]; rcases hp with rfl | rfl <;> rfl
  ·rcases hp with rfl | rfl <;> rfl
  ·rintro s m R rfl rfl
   refine ⟨i.grow.new _, ?_, i.cb.up (by simp [Heap.new]) fun j _ hj => ?_, i.cc.up (by simp [Heap.new]) fun j _ hj => ?_, fun j m n e f => ?_, fun j m n e f => ?_, i.bc⟩
   ·rw [← hR]; exact Tl.grow i.grow.le (by rw [strRows_len]; simp)
   ·simp only [Heap.new]; rw [if_neg (by omega)]
   ·simp only [Heap.new]; rw [if_neg (by omega)]
   ·simp only [PV.own.injEq] at e; have := tl_id_lt i.cb f; omega
   ·simp only [PV.own.injEq] at e; have := tl_id_lt i.cc f; omega
 ·have hb : ∀ {p : PV} {rows : List (List PV)} (s : ByteArray), Tl h h0.next 1 p rows → (∀ m n, PV.own id 0 (strRows A).length = .own id 0 m → p = .own id 0 n → False) → Tl ((h.kill id).new (.arr 1 (strRows A ++ [[sPV s]]))) h0.next 1 p rows := fun {p rows} s t hne => by
   rcases t with ht | ⟨k, k1, k2, rfl, k3⟩
   ·exact .inl ht
   ·have hki : ¬ k = id := fun e => by subst e; exact hne _ _ rfl rfl
    refine .inr ⟨k, k1, by simp [Heap.new, Heap.kill]; omega, rfl, ?_⟩
    rw [new_obj, if_neg (by rw [kill_next]; omega), kill_obj, if_neg hki]; exact k3
  refine ⟨h.kill id, ?_, ?_, rfl, ?_⟩
  ·simp only [isTail, h3, Nat.zero_add, Nat.le_refl, if_true, List.drop_zero, List.take_length]
  ·simp only [zOk, h3, beq_self_eq_true]
  ·rintro s m R rfl rfl
   refine ⟨(i.grow.kill h1).new _, ?_, hb s i.cb fun m n e f => i.ab id _ _ rfl f, hb s i.cc fun m n e f => i.ac id _ _ rfl f, fun j m n e f => ?_, fun j m n e f => ?_, i.bc⟩
   ·rw [← hR]
    exact Tl.grow (H := h.kill id) (id0 := h0.next) (z := 1) (len := A.length + 1) (rows := strRows (A ++ [s])) i.grow.le (by rw [strRows_len]; simp)
   ·simp only [PV.own.injEq] at e; have := tl_id_lt i.cb f; omega
   ·simp only [PV.own.injEq] at e; have := tl_id_lt i.cc f; omega
def selB (w : Int) (k : Nat) : Bool := andK .u8 (w.fdiv (2 ^ (min ((k : Int).tmod 8).toNat 8))) 1 == 1
def selL (p : Nat → Bool) : List ByteArray → Nat → List ByteArray
 | [], _ => []
 | s :: l, i => if p i = true then s :: selL p l (i + 1) else selL p l (i + 1)
theorem selL_snoc (p : Nat → Bool) (s : ByteArray) : ∀ (l : List ByteArray) (i : Nat), selL p (l ++ [s]) i = selL p l i ++ (if p (i + l.length) = true then [s] else [])
 | [], i => by simp only [List.nil_append, selL, List.length_nil, Nat.add_zero]
 | a :: l, i => by
  have ih := selL_snoc p s l (i + 1)
  simp only [List.cons_append, selL, ih, List.length_cons]
  rw [show i + 1 + l.length = i + (l.length + 1) by omega]
  split <;> simp
theorem selL_take {p : Nat → Bool} {l : List ByteArray} {k : Nat} {s : ByteArray} (h : l[k]? = some s) : selL p (l.take (k + 1)) 0 = selL p (l.take k) 0 ++ (if p k = true then [s] else []) := by
 have hk : k < l.length := (List.getElem?_eq_some_iff.1 h).1
 rw [List.take_add_one, h, Option.toList_some, selL_snoc, List.length_take, Nat.min_eq_left (by omega), Nat.zero_add]
theorem selL_len (p : Nat → Bool) : ∀ (l : List ByteArray) (i : Nat), (selL p l i).length ≤ l.length
 | [], _ => by simp [selL]
 | a :: l, i => by
  have := selL_len p l (i + 1)
  simp only [selL]
  split <;> simp only [List.length_cons] <;> omega
theorem selL_mem {p : Nat → Bool} {s : ByteArray} : ∀ {l : List ByteArray} {i : Nat}, s ∈ selL p l i → s ∈ l
 | [], _, h => by simp [selL] at h
 | a :: l, i, h => by
  simp only [selL] at h
  split at h
  ·rcases List.mem_cons.1 h with rfl | h
   ·simp
   ·exact List.mem_cons.2 (.inr (selL_mem h))
  ·exact List.mem_cons.2 (.inr (selL_mem h))
theorem selL_or {p : Nat → Bool} {s : ByteArray} : ∀ {l : List ByteArray} {i : Nat}, s ∈ l → s ∈ selL p l i ∨ s ∈ selL (fun i => !p i) l i
 | [], _, h => by simp at h
 | a :: l, i, h => by
  by_cases hp : p i = true
  ·have e1 : selL p (a :: l) i = a :: selL p l (i + 1) := by simp only [selL, hp, if_true]
   have e2 : selL (fun i => !p i) (a :: l) i = selL (fun i => !p i) l (i + 1) := by simp only [selL, hp, Bool.not_true, Bool.false_eq_true, if_false]
   rw [e1, e2]
   rcases List.mem_cons.1 h with rfl | h
   ·left; simp
   ·rcases selL_or (p := p) (i := i + 1) h with h | h
    ·left; simp [h]
    ·right; exact h
  ·have hq : p i = false := by simpa using hp
   have e1 : selL p (a :: l) i = selL p l (i + 1) := by simp only [selL, hq, Bool.false_eq_true, if_false]
   have e2 : selL (fun i => !p i) (a :: l) i = a :: selL (fun i => !p i) l (i + 1) := by simp only [selL, hq, Bool.not_false, if_true]
   rw [e1, e2]
   rcases List.mem_cons.1 h with rfl | h
   ·right; simp
   ·rcases selL_or (p := p) (i := i + 1) h with h | h
    ·left; exact h
    ·right; simp [h]
theorem selL_asc (p : Nat → Bool) : ∀ {l : List ByteArray} {i : Nat}, (l.map key).Pairwise (· < ·) → ((selL p l i).map key).Pairwise (· < ·)
 | [], _, _ => by simp [selL]
 | a :: l, i, h => by
  simp only [List.map_cons, List.pairwise_cons] at h
  have ih := selL_asc p (l := l) (i := i + 1) h.2
  simp only [selL]
  split
  ·simp only [List.map_cons, List.pairwise_cons]
   refine ⟨fun x hx => ?_, ih⟩
   obtain ⟨y, hy, rfl⟩ := List.mem_map.1 hx
   exact h.1 _ (List.mem_map.2 ⟨y, selL_mem hy, rfl⟩)
  ·exact ih
theorem selL_disj {p : Nat → Bool} {s : ByteArray} : ∀ {l : List ByteArray} {i : Nat}, (l.map key).Pairwise (· < ·) → s ∈ selL p l i → s ∈ selL (fun i => !p i) l i → False
 | [], _, _, h, _ => by simp [selL] at h
 | a :: l, i, hp, h1, h2 => by
  simp only [List.map_cons, List.pairwise_cons] at hp
  have hna : a ∉ l := fun hm => absurd (hp.1 _ (List.mem_map.2 ⟨a, hm, rfl⟩)) (List.lt_irrefl _)
  simp only [selL] at h1 h2
  cases hq : p i
  ·simp only [hq, Bool.false_eq_true, if_false, Bool.not_false, if_true] at h1 h2
   rcases List.mem_cons.1 h2 with rfl | h2
   ·exact hna (selL_mem h1)
   ·exact selL_disj hp.2 h1 h2
  ·simp only [hq, if_true, Bool.not_true, Bool.false_eq_true, if_false] at h1 h2
   rcases List.mem_cons.1 h1 with rfl | h1
   ·exact hna (selL_mem h2)
   ·exact selL_disj hp.2 h1 h2
def freeS (f : Fm) : List ByteArray := (freeL f).map keyS
theorem freeS_key (f : Fm) : (freeS f).map key = freeL f := by
 unfold freeS
 rw [List.map_map]
 simp [Function.comp_def, key_keyS]
theorem freeS_len {f : Fm} : (freeS f).length ≤ PV.bulkL f.cells := by
 unfold freeS freeL
 rw [List.length_map]
 split
 ·have h1 := compact_len (((freeFm f []).map key).mergeSort fun x y => decide (x ≤ y))
  have h2 := freeFm_len f []
  simp only [List.length_mergeSort, List.length_map] at h1
  omega
 ·simp
theorem freeS_mem {f : Fm} (hv : validF f = true) {s : ByteArray} : s ∈ freeS f ↔ key s ∈ freeL f := by
 rw [← freeS_key, List.mem_map]
 constructor
 ·intro h; exact ⟨s, h, rfl⟩
 ·rintro ⟨x, hx, e⟩; rw [← key_inj e]; exact hx
theorem strS_eq {A B : List ByteArray} (h : A.map key = B.map key) : A = B := by
 induction A generalizing B with
 | nil => cases B with
  | nil => rfl
  | cons b B => simp at h
 | cons a A ih => cases B with
  | nil => simp at h
  | cons b B =>
   simp only [List.map_cons, List.cons.injEq] at h
   rw [key_inj h.1, ih h.2]
theorem bsEq_self : ∀ l : List ByteArray, bsEq l l = true
 | [] => rfl
 | a :: l => by simp [bsEq, bEq, bsEq_self l]
theorem bound_law {f : Fm} (p : Nat → Bool) :
  bsEq (freeS (if termsNA (selL p (freeS f) 0) ((selL p (freeS f) 0).map fun _ => ⟨#[97]⟩) = true ∧ validF f = true then bindFm (toM (selL p (freeS f) 0) ((selL p (freeS f) 0).map fun _ => ⟨#[97]⟩)) f [] else zeroFm)) (selL (fun i => !p i) (freeS f) 0) = true := by
 cases hv : validF f with
 | false =>
  rw [if_neg (by simp)]
  have h0 : freeS f = [] := by unfold freeS freeL; rw [if_neg (by rw [hv]; simp)]; rfl
  have hz : freeS zeroFm = [] := by
   unfold freeS freeL
   rw [if_neg (by
    have : validF zeroFm = false := rfl
    rw [this]; simp)]
   try rfl
  rw [h0, hz]; try rfl
 | true =>
  have ht : termsNA (selL p (freeS f) 0) ((selL p (freeS f) 0).map fun _ => ⟨#[97]⟩) = true := by
   unfold termsNA
   rw [List.all_eq_true]
   intro x hx
   obtain ⟨_, _, rfl⟩ := List.mem_map.1 (List.mem_of_mem_take hx)
   rfl
  rw [if_pos ⟨ht, rfl⟩]
  have hasc : ((freeS f).map key).Pairwise (· < ·) := by rw [freeS_key]; exact freeL_asc f
  have hb := bound_free hv (a := ⟨#[97]⟩) rfl rfl (names := selL p (freeS f) 0) (rest := selL (fun i => !p i) (freeS f) 0) (fun s => by
   rw [← freeS_mem hv]
   constructor
   ·exact selL_or
   ·rintro (h | h) <;> exact selL_mem h) (fun s h1 h2 => selL_disj hasc h1 h2) (selL_asc _ hasc)
  have : freeS (bindFm (toM (selL p (freeS f) 0) ((selL p (freeS f) 0).map fun _ => ⟨#[97]⟩)) f []) = selL (fun i => !p i) (freeS f) 0 := strS_eq (by rw [freeS_key, hb])
  rw [this]
  exact bsEq_self _
end Go.Proofs.Ytjlkapgpjamnkaa
namespace Go.Proofs.Ytjlkapgpjamnkaa
open Go.AM
set_option maxHeartbeats 4000000
set_option maxRecDepth 20000
section
variable {to : ByteArray → Option ByteArray}
theorem repl_size (hts : ∀ s t, to s = some t → t.size ≤ s.size) (bound : List ByteArray) (s : ByteArray) : (replS to bound s).size ≤ s.size := by
 unfold replS
 split
 ·rename_i t h
  split
  ·omega
  ·exact hts _ _ h
 ·omega
theorem repls_bulk (hts : ∀ s t, to s = some t → t.size ≤ s.size) (bound : List ByteArray) : ∀ l : List ByteArray, PV.bulkR (strRows (l.map (replS to bound))) ≤ PV.bulkR (strRows l)
 | [] => by simp
 | s :: l => by
  have h1 := repl_size hts bound s
  have h2 := repls_bulk hts bound l
  simp only [strRows, List.map_cons, PV.bulkR, PV.bulkL, PV.bulk] at h2 ⊢
  omega
theorem repls_ok (hts : ∀ s t, to s = some t → t.size ≤ s.size) (bound : List ByteArray) {l : List ByteArray} (h : ∀ a ∈ l, a.size ≤ bigN) : ∀ a ∈ l.map (replS to bound), a.size ≤ bigN := by
 intro a ha
 obtain ⟨s, hs, rfl⟩ := List.mem_map.1 ha
 exact Nat.le_trans (repl_size hts bound s) (h s hs)
mutual
theorem bindEx_fit (hts : ∀ s t, to s = some t → t.size ≤ s.size) (bound : List ByteArray) : ∀ e : Ex, PV.bulkL (bindEx to bound e).cells ≤ PV.bulkL e.cells ∧ (e.ok → (bindEx to bound e).ok) ∧ (e.small → (bindEx to bound e).small)
 | .mk op name n args kids => by
  obtain ⟨h1, h2, h3⟩ := bindExs_fit hts bound kids
  have h4 := repls_bulk hts bound args
  have h5 : (bindExs to bound kids).length = kids.length := by rw [bindExs_map, List.length_map]
  refine ⟨?_, fun h => ?_, fun h => ?_⟩
  ·simp only [bindEx, Ex.cells, PV.bulkL, PV.bulk]; omega
  ·simp only [bindEx, Ex.ok] at h ⊢
   obtain ⟨a1, a2, a3, ⟨a4, a5⟩, a6, a7⟩ := h
   exact ⟨a1, a2, a3, ⟨by rw [List.length_map]; exact a4, repls_ok hts bound a5⟩, by rw [h5]; exact a6, h2 a7⟩
  ·simp only [bindEx, Ex.small] at h ⊢
   exact ⟨by rw [List.length_map]; exact h.1, h3 h.2⟩
theorem bindExs_fit (hts : ∀ s t, to s = some t → t.size ≤ s.size) (bound : List ByteArray) : ∀ l : List Ex, PV.bulkR (Ex.rows (bindExs to bound l)) ≤ PV.bulkR (Ex.rows l) ∧ (Ex.oks l → Ex.oks (bindExs to bound l)) ∧ (Ex.smalls l → Ex.smalls (bindExs to bound l))
 | [] => by simp [bindExs]
 | k :: l => by
  obtain ⟨h1, h2, h3⟩ := bindEx_fit hts bound k
  obtain ⟨g1, g2, g3⟩ := bindExs_fit hts bound l
  refine ⟨?_, fun h => ?_, fun h => ?_⟩
  ·simp only [bindExs, Ex.rows, PV.bulkR]; omega
  ·simp only [bindExs, Ex.oks] at h ⊢; exact ⟨h2 h.1, g2 h.2⟩
  ·simp only [bindExs, Ex.smalls] at h ⊢; exact ⟨h3 h.1, g3 h.2⟩
end
mutual
theorem bindFm_fit (hts : ∀ s t, to s = some t → t.size ≤ s.size) : ∀ (f : Fm) (bound : List ByteArray), PV.bulkL (bindFm to f bound).cells ≤ PV.bulkL f.cells ∧ (f.ok → (bindFm to f bound).ok) ∧ (f.small → (bindFm to f bound).small)
 | .mk op name args params exprs kids, bound => by
  obtain ⟨h1, h2, h3⟩ := bindFms_fit hts kids (bound ++ params.map Pm.name)
  obtain ⟨g1, g2, g3⟩ := bindExs_fit hts bound exprs
  have h4 := repls_bulk hts bound args
  have h5 : (bindExs to bound exprs).length = exprs.length := by rw [bindExs_map, List.length_map]
  have h6 : (bindFms to kids (bound ++ params.map Pm.name)).length = kids.length := by rw [bindFms_map, List.length_map]
  refine ⟨?_, fun h => ?_, fun h => ?_⟩
  ·simp only [bindFm, Fm.cells, PV.bulkL, PV.bulk]; omega
  ·simp only [bindFm, Fm.ok] at h ⊢
   obtain ⟨a1, a2, ⟨a3, a4⟩, a5, ⟨a6, a7⟩, a8, a9⟩ := h
   exact ⟨a1, a2, ⟨by rw [List.length_map]; exact a3, repls_ok hts bound a4⟩, a5, ⟨by rw [h5]; exact a6, g2 a7⟩, by rw [h6]; exact a8, h2 a9⟩
  ·simp only [bindFm, Fm.small] at h ⊢
   obtain ⟨a1, a2, a3, a4, a5⟩ := h
   exact ⟨by rw [List.length_map]; exact a1, a2, g3 a3, by rw [h6]; exact a4, h3 a5⟩
theorem bindFms_fit (hts : ∀ s t, to s = some t → t.size ≤ s.size) : ∀ (l : List Fm) (bound : List ByteArray), PV.bulkR (Fm.rows (bindFms to l bound)) ≤ PV.bulkR (Fm.rows l) ∧ (Fm.oks l → Fm.oks (bindFms to l bound)) ∧ (Fm.smalls l → Fm.smalls (bindFms to l bound))
 | [], _ => by simp [bindFms]
 | k :: l, bound => by
  obtain ⟨h1, h2, h3⟩ := bindFm_fit hts k bound
  obtain ⟨g1, g2, g3⟩ := bindFms_fit hts l bound
  refine ⟨?_, fun h => ?_, fun h => ?_⟩
  ·simp only [bindFms, Fm.rows, PV.bulkR]; omega
  ·simp only [bindFms, Fm.oks] at h ⊢; exact ⟨h2 h.1, g2 h.2⟩
  ·simp only [bindFms, Fm.smalls] at h ⊢; exact ⟨h3 h.1, g3 h.2⟩
end
end
theorem toM_a {names : List ByteArray} {s t : ByteArray} (h : toM names (names.map fun _ => ⟨#[97]⟩) s = some t) : t.size ≤ s.size := by
 unfold toM at h
 rw [look_filt, look_const] at h
 split at h
 ·rename_i hv
  split at h
  ·simp only [Option.some.injEq] at h
   subst h
   have : 1 < s.size := by
    simp only [varB, Bool.and_eq_true, decide_eq_true_eq] at hv
    omega
   show 1 ≤ s.size
   omega
  ·simp at h
 ·simp at h
theorem freeS_ok {f : Fm} (hok : f.ok) : ∀ s ∈ freeS f, s.size ≤ bigN := by
 have hE : ∀ (e : Ex) (s : ByteArray), e.ok → e.occ varB s → s.size ≤ bigN := by
  intro e
  induction e using Ex.ind with
  | hC op name n args kids ih =>
   intro s ho h
   simp only [Ex.ok] at ho
   simp only [Ex.occ] at h
   rcases h with h | h
   ·exact ho.2.2.2.1.2 s h.1
   ·obtain ⟨k, hk, hs⟩ := Ex.occs_iff.1 h
    exact ih k hk s (Ex.oks_iff.1 ho.2.2.2.2.2 k hk) hs
 have hF : ∀ (f : Fm) (s : ByteArray), f.ok → f.occ varB s → s.size ≤ bigN := by
  intro f
  induction f using Fm.ind with
  | hC op name args params exprs kids ih =>
   intro s ho h
   simp only [Fm.ok] at ho
   simp only [Fm.occ] at h
   rcases h with h | h | h
   ·exact ho.2.2.1.2 s h.1
   ·obtain ⟨k, hk, hs⟩ := Ex.occs_iff.1 h
    exact hE k s (Ex.oks_iff.1 ho.2.2.2.2.1.2 k hk) hs
   ·obtain ⟨k, hk, hs⟩ := Fm.occs_iff.1 h.1
    exact ih k hk s (Fm.oks_iff.1 ho.2.2.2.2.2.2 k hk) hs
 intro s hs
 cases hv : validF f with
 | false =>
  have h0 : freeS f = [] := by unfold freeS freeL; rw [if_neg (by rw [hv]; simp)]; rfl
  rw [h0] at hs; simp at hs
 | true => exact hF f s hok ((freeL_mem hv s).1 ((freeS_mem hv).1 hs))
end Go.Proofs.Ytjlkapgpjamnkaa
namespace Go.Proofs.Ytjlkapgpjamnkaa
open Go.AM
set_option maxHeartbeats 4000000
set_option maxRecDepth 20000
theorem formulaBound_c {f : Fm} (hok : f.ok) (hb : PV.bulkL f.cells ≤ 1048576) {w : Int} :
  PCall Try.prog 12 [.agg f.cells, .sc (.int .u8 w)] Heap.nil fun r _ => r = .sc (.bool true) := by
 have hsm := Fm.small_bulk f hb
 have cl := large_c hok
 have cf : ∀ H : Heap, PCall Try.prog 51 [.agg f.cells] H fun r h' => r = .imm 1 (strRows (freeS f)) ∧ h' = H := fun H => Free_c hok hsm (by omega) H
 have hl : (freeS f).length ≤ 1048576 := Nat.le_trans freeS_len hb
 have hsz := freeS_ok hok
 have hlaw := bound_law (f := f) (selB w)
 have hNl := selL_len (selB w) (freeS f) 0
 have hRl := selL_len (fun i => !selB w i) (freeS f) 0
 have hNs : ∀ s ∈ selL (selB w) (freeS f) 0, s.size ≤ bigN := fun s hs => hsz s (selL_mem hs)
 have hfit := fun (to : ByteArray → Option ByteArray) (hts : ∀ s t, to s = some t → t.size ≤ s.size) => bindFm_fit hts f []
 have hgz : zeroFm.ok ∧ zeroFm.small ∧ PV.bulkL zeroFm.cells ≤ 1048576 := by
  refine ⟨?_, ?_, ?_⟩
  ·simp only [zeroFm, Fm.ok, Ex.oks, Fm.oks]
   exact ⟨by decide, by decide, ⟨by decide, fun a h => by simp at h⟩, ⟨by decide, fun a h => by simp at h⟩, ⟨by decide, trivial⟩, by decide, trivial⟩
  ·simp [zeroFm, Fm.small, Ex.smalls, Fm.smalls]
  ·decide
 obtain ⟨g, hg⟩ : ∃ g, (if termsNA (selL (selB w) (freeS f) 0) ((selL (selB w) (freeS f) 0).map fun _ => ⟨#[97]⟩) = true ∧ validF f = true then bindFm (toM (selL (selB w) (freeS f) 0) ((selL (selB w) (freeS f) 0).map fun _ => ⟨#[97]⟩)) f [] else zeroFm) = g := ⟨_, rfl⟩
 have hgo : g.ok ∧ g.small ∧ PV.bulkL g.cells ≤ 1048576 := by
  rw [← hg]
  split
  ·obtain ⟨a1, a2, a3⟩ := hfit (toM (selL (selB w) (freeS f) 0) ((selL (selB w) (freeS f) 0).map fun _ => ⟨#[97]⟩)) fun s t h => toM_a h
   exact ⟨a2 hok, a3 hsm, by omega⟩
  ·exact hgz
 obtain ⟨go1, go2, go3⟩ := hgo
 rw [hg] at hlaw
 have cB : ∀ {pN pA : PV} {H : Heap}, Sl H 1 pN (strRows (selL (selB w) (freeS f) 0)) → Sl H 1 pA (strRows ((selL (selB w) (freeS f) 0).map fun _ => ⟨#[97]⟩)) → PCall Try.prog 45 [.agg f.cells, pN, pA] H fun r h' => r = .agg g.cells ∧ h' = H := fun h1 h2 => by
  rw [← hg]
  exact Bind_c h1 h2 hok hsm (by omega) (by omega) (by rw [List.length_map]; omega) hNs fun s hs => by
   obtain ⟨_, _, rfl⟩ := List.mem_map.1 hs
   decide
 have cf2 : ∀ H : Heap, PCall Try.prog 51 [.agg g.cells] H fun r h' => r = .imm 1 (strRows (freeS g)) ∧ h' = H := fun H => Free_c go1 go2 (by omega) H
 have hgl : (freeS g).length ≤ 1048576 := Nat.le_trans freeS_len go3
 have cT : ∀ {q : PV} {H : Heap}, Sl H 1 q (strRows (selL (fun i => !selB w i) (freeS f) 0)) → PCall Try.prog 52 [.imm 1 (strRows (freeS g)), q] H fun r h' => r = .sc (.bool true) ∧ h' = H := fun h2 => by
  have := texts_c (Sl.imm (strRows (freeS g))) h2 (by omega) (by omega)
  rw [hlaw] at this
  exact this
 clear hg hfit hgz hlaw hNs hsz hsm hok go1 go2 go3
 generalize freeS f = l at *
 generalize freeS g = lg at *
 generalize f.size = fs at cl
 obtain ⟨op, name, args, params, exprs, kids⟩ := f
 obtain ⟨gop, gname, gargs, gparams, gexprs, gkids⟩ := g
 simp only [Fm.cells] at cl cf cB cf2 ⊢
 have hlen := strRows_len l
 refine pcall_body (ow := fun _ => false) (wf := fun _ => false) Ty.mixed Try.func12 rfl Ty.hb_12 (by rw [Try.ntmps12]; simp) ?_
 rw [Try.ntmps12, Try.results12]
 cases l1 : decide (fs > 5000) with
 | true =>
  repeat' (first | refine a_seq fun K hK => ?_ | (refine a_regionS ?_; simp (maxSteps := 2000000) only [Ty.w, simprocAttr]) | (refine hK _ _ ?_; clear hK; try simp only [pst0, simprocAttr]))
  refine owp_useQ (cl _) (by (try simp only [Ty.w, simprocAttr, l1]); try rfl) ?_; simp (maxSteps := 2000000) only [Ty.w, simprocAttr, l1]
  repeat' (first | refine a_seq fun K hK => ?_ | (refine a_regionS ?_; simp (maxSteps := 2000000) only [Ty.w, simprocAttr, l1]) | (refine hK _ _ ?_; clear hK; try simp only [pst0, simprocAttr]))
  refine owp_useQ (awake_c) (by (try simp only [Ty.w, simprocAttr, ]); try rfl) ?_; simp (maxSteps := 2000000) only [Ty.w, simprocAttr, ]
  repeat' (first | (refine a_ret ?_; simp (maxSteps := 2000000) only [Ty.w, simprocAttr]) | (refine hK _ _ ?_; clear hK; try simp only [pst0, simprocAttr]))
 | false =>
  repeat' (first | refine a_seq fun K hK => ?_ | (refine a_regionS ?_; simp (maxSteps := 2000000) only [Ty.w, simprocAttr]) | (refine hK _ _ ?_; clear hK; try simp only [pst0, simprocAttr]))
  refine owp_useQ (cl _) (by (try simp only [Ty.w, simprocAttr, l1]); try rfl) ?_; simp (maxSteps := 2000000) only [Ty.w, simprocAttr, l1]
  skip
  refine owp_useQ (awake_c) (by (try simp only [Ty.w, simprocAttr, Bool.not_true]); try rfl) ?_; simp (maxSteps := 2000000) only [Ty.w, simprocAttr, Bool.not_true]
  repeat' (first | refine a_seq fun K hK => ?_ | (refine a_regionS ?_; simp (maxSteps := 2000000) only [Ty.w, simprocAttr, Bool.not_true]) | (refine a_skip ?_; try simp only [pst0, simprocAttr]) | (refine a_cond _ (by (try simp (maxSteps := 2000000) only [Ty.w, simprocAttr, Bool.not_true]); rfl) (fun hb => ?_) (fun hb => ?_) <;> (try simp only [hb0, decide_eq_true_eq, decide_eq_false_iff_not, simprocAttr] at hb) <;> (try (exfalso; omega))) | (refine hK _ _ ?_; clear hK; try simp only [pst0, simprocAttr]))
  refine owp_useQ (cf _) (by (try simp only [Ty.w, simprocAttr, Bool.not_true]); try rfl) ?_; simp (maxSteps := 2000000) only [Ty.w, simprocAttr, Bool.not_true]
  repeat' (first | refine a_seq fun K hK => ?_ | (refine a_block ?_) | (refine a_regionS ?_; simp (maxSteps := 2000000) only [Ty.w, simprocAttr]) | (refine hK _ _ ?_; clear hK; try simp only [pst0, simprocAttr]))
  refine a_loop (fun c S h' => S 1 = .sc (.int .u8 w) ∧ S 2 = .cptr [sPV op, sPV name, .imm 1 (strRows args), .imm 2 (pmRows params), .imm 5 (Ex.rows exprs), .imm 6 (Fm.rows kids)] ∧ S 8 = .imm 1 (strRows l) ∧ ∃ (k : Nat) (pa pb pc : PV), S 9 = .sc (.int .i64 k) ∧ S 5 = pa ∧ S 6 = pb ∧ S 7 = pc ∧ k ≤ l.length ∧ c = l.length - k ∧
   B3 Heap.nil pa pb pc (selL (selB w) (l.take k) 0) ((selL (selB w) (l.take k) 0).map fun _ => ⟨#[97]⟩) (selL (fun i => !selB w i) (l.take k) 0) h') l.length ?_ ?_
  ·simp only [Ty.w, simprocAttr]
   refine ⟨0, _, _, _, rfl, rfl, rfl, rfl, by omega, rfl, Grow.refl _, Tl.nil, Tl.nil, Tl.nil, ?_, ?_, ?_⟩
   ·intro i m n e; simp at e
   ·intro i m n e; simp at e
   ·intro i m n e; simp at e
  ·rintro c S h' ⟨g1, g2, g8, k, pa, pb, pc, g9, g5, g6, g7, hk, rfl, hI⟩
   by_cases hlt : k < l.length
   ·have hd : decide ((k : Int) < (l.length : Int)) = true := by simp; omega
    have w7 : IntKind.i64.wrap ((k : Int) + 1) = k + 1 := by rw [wrap64 (by omega) (by omega)]
    have e80 : ((8 : Int) = 0) = False := by simp
    have hm0 : ((k : Int).tmod 8 < 0) = False := by
     have := Int.tmod_nonneg (a := (k : Int)) 8 (by omega)
     simp; omega
    obtain ⟨s, hx⟩ : ∃ s, l[k]? = some s := ⟨_, List.getElem?_eq_getElem hlt⟩
    have hr := strRows_get hx
    have hT1 := selL_take (p := selB w) hx
    have hT2 := selL_take (p := fun i => !selB w i) hx
    have hL1 := selL_len (selB w) (l.take k) 0
    have hL2 := selL_len (fun i => !selB w i) (l.take k) 0
    have hlk : (l.take k).length = k := by rw [List.length_take]; omega
    obtain ⟨H1, a1, a2, a3, a4⟩ := hI.app
    have hI2 := a4 s _ _ rfl rfl
    obtain ⟨H2, b1, b2, b3, b4⟩ := hI2.swapAB.app
    have hI3 := (b4 ⟨#[97]⟩ _ _ rfl rfl).swapAB
    rw [List.length_map] at hI3
    obtain ⟨H3, c1, c2, c3, c4⟩ := hI.swapAC.app
    have hJ3 := (c4 s _ _ rfl rfl).swapAC
    have hpr1 := strRows_len (selL (selB w) (l.take k) 0)
    have hpr2 := strRows_len ((selL (selB w) (l.take k) 0).map fun _ => (⟨#[97]⟩ : ByteArray))
    rw [List.length_map] at hpr2
    have hpr3 := strRows_len (selL (fun i => !selB w i) (l.take k) 0)
    have hbb : ((selL (selB w) (l.take k) 0).length + 1) * 16 ≤ 140737488355328 := by omega
    have hbc : ((selL (fun i => !selB w i) (l.take k) 0).length + 1) * 16 ≤ 140737488355328 := by omega
    repeat' (first | refine a_seq fun K hK => ?_ | ((first | refine a_regionS ?_ | refine a_region (fun K hK => ?_)); simp (maxSteps := 2000000) only [Ty.w, simprocAttr, g1, g2, g5, g6, g7, g8, g9, hlen, hd, hr, e80, hm0, a1, a2, b1, b2, c1, c2, hpr1, hpr2, hpr3, hbb, hbc, w7]) | (refine a_skip ?_; try simp only [pst0, simprocAttr]) | (refine a_cond _ (by (try simp (maxSteps := 2000000) only [Ty.w, simprocAttr, g1, g2, g5, g6, g7, g8, g9, hlen, hd, hr, e80, hm0, a1, a2, b1, b2, c1, c2, hpr1, hpr2, hpr3, hbb, hbc, w7]); rfl) (fun hb => ?_) (fun hb => ?_) <;> (try simp only [hb0, decide_eq_true_eq, decide_eq_false_iff_not, simprocAttr] at hb) <;> (try (exfalso; omega))) | (refine hK _ _ ?_; clear hK; try simp only [pst0, simprocAttr]))
    ·have q : selB w k = true := beq_iff_eq.2 hb
     simp only [q, if_true, Bool.not_true, Bool.false_eq_true, if_false, List.append_nil] at hT1 hT2
     have e1 : (selL (selB w) (l.take k) 0).map (fun _ => (⟨#[97]⟩ : ByteArray)) ++ [⟨#[97]⟩] = (selL (selB w) (l.take (k + 1)) 0).map fun _ => ⟨#[97]⟩ := by rw [hT1]; simp
     rw [← hT1, e1, ← hT2] at hI3
     exact ⟨l.length - (k + 1), by omega, k + 1, _, _, _, by simp, rfl, rfl, rfl, by omega, rfl, hI3⟩
    ·have q : selB w k = false := beq_eq_false_iff_ne.2 hb
     simp only [q, if_true, Bool.not_false, Bool.false_eq_true, if_false, List.append_nil] at hT1 hT2
     rw [← hT1, ← hT2] at hJ3
     exact ⟨l.length - (k + 1), by omega, k + 1, _, _, _, by simp, rfl, rfl, rfl, by omega, rfl, hJ3⟩
   ·have hd : decide ((k : Int) < (l.length : Int)) = false := by simp; omega
    have hke : k = l.length := by omega
    subst hke
    rw [List.take_length] at hI
    have cB := cB hI.ca.sl hI.cb.sl
    have cT := cT hI.cc.sl
    repeat' (first | refine a_seq fun K hK => ?_ | (refine a_regionS ?_; simp (maxSteps := 2000000) only [Ty.w, simprocAttr, g1, g2, g5, g6, g7, g8, g9, hlen, hd]) | (refine a_exit ?_; try simp only [pst0, simprocAttr]) | (refine a_cond _ (by (try simp (maxSteps := 2000000) only [Ty.w, simprocAttr, g1, g2, g5, g6, g7, g8, g9, hlen, hd]); rfl) (fun hb => ?_) (fun hb => ?_) <;> (try simp only [hb0, decide_eq_true_eq, decide_eq_false_iff_not, simprocAttr] at hb) <;> (try (exfalso; omega))) | ((first | refine hK _ _ ?_ | (clear hK; refine hK _ _ ?_)); clear hK; try simp only [pst0, simprocAttr]))
    refine owp_useQ (cB) (by (try simp only [Ty.w, simprocAttr, g1, g2, g5, g6, g7]); try rfl) ?_; simp (maxSteps := 2000000) only [Ty.w, simprocAttr, g1, g2, g5, g6, g7]
    skip
    refine owp_useQ (cf2 _) (by (try simp only [Ty.w, simprocAttr, g7]); try rfl) ?_; simp (maxSteps := 2000000) only [Ty.w, simprocAttr, g7]
    skip
    refine owp_useQ (cT) (by (try simp only [Ty.w, simprocAttr, g7]); try rfl) ?_; simp (maxSteps := 2000000) only [Ty.w, simprocAttr, g7]
    repeat' (first | (refine a_ret ?_; simp (maxSteps := 2000000) only [Ty.w, simprocAttr]) | (refine hK _ _ ?_; clear hK; try simp only [pst0, simprocAttr]))
end Go.Proofs.Ytjlkapgpjamnkaa
namespace Go.AM
open Go.ChangeShapes Go.WideShapes
section
variable {P : Program} {c : Nat} {t e : TypeId} {ps : List PV} {a : PV}
theorem Arg_int {k : IntKind} (hu : P.underlying t = some (.int k)) (h : Arg P (c + 1) t ps) : ∃ n, (Lit.int k n).wf = true ∧ ps = [.sc (.int k n)] := by
  unfold Arg at h; rw [hu] at h; exact h
theorem Arg_slice (hu : P.underlying t = some (.slice e)) (h : Arg P (c + 1) t ps) : ∃ rows, ps = [.imm (P.cellsOf e) rows] ∧ rows.length * P.bytesOf e ≤ reachBytes ∧ rows.length ≤ maxLen ∧ ∀ r ∈ rows, r.length = P.cellsOf e ∧ Arg P c e r := by
  unfold Arg at h; rw [hu] at h; exact h
theorem Arg_struct {fs : Array Field} (hu : P.underlying t = some (.struct fs)) (h : Arg P (c + 1) t ps) : ps.length = P.cellsOf t ∧ ∀ p ∈ partsT P t, Arg P c p.2 ((ps.drop p.1).take (P.cellsOf p.2)) := by
  unfold Arg at h; rw [hu] at h; exact h
theorem rows_map {α : Type} {Q : α → Prop} {f : α → List PV} : (rows : List (List PV)) → (∀ r ∈ rows, ∃ x, Q x ∧ r = f x) → ∃ xs : List α, rows = xs.map f ∧ ∀ x ∈ xs, Q x
  | [], _ => ⟨[], rfl, by simp⟩
  | r :: rows, h => by
    obtain ⟨xs, h1, h2⟩ := rows_map rows (fun q hq => h q (by simp [hq]))
    obtain ⟨x, h3, h4⟩ := h r (by simp)
    refine ⟨x :: xs, by simp [h1, h4], fun y hy => ?_⟩
    rcases List.mem_cons.1 hy with rfl | hy
    · exact h3
    · exact h2 y hy
theorem argV_int {k : IntKind} (hu : P.underlying t = some (.int k)) (h : ArgV P (c + 1) t a) : ∃ n, (Lit.int k n).wf = true ∧ a = .sc (.int k n) := by
  unfold ArgV at h; rw [hu] at h
  obtain ⟨n, h1, h2⟩ := Arg_int hu h
  simp at h2
  exact ⟨n, h1, h2⟩
theorem i64_in {n : Int} (h : (Lit.int .i64 n).wf = true) : -9223372036854775808 ≤ n ∧ n ≤ 9223372036854775807 := by
  simp [Lit.wf, IntKind.min, IntKind.max, IntKind.bits, IntKind.signed] at h
  omega
end
end Go.AM
namespace Go.Proofs.Ytjlkapgpjamnkaa
open Go.AM
set_option maxHeartbeats 1000000
set_option maxRecDepth 20000
def recTs : List TypeId := [29, 57, 99, 9, 3, 24, 25, 26, 27]
theorem parts57 : partsT Try.prog 57 = [(0, 9), (1, 9), (2, 3), (3, 24), (4, 26)] := by kernel_rfl
theorem parts29 : partsT Try.prog 29 = [(0, 9), (1, 9), (2, 24), (3, 25), (4, 26), (5, 27)] := by kernel_rfl
theorem parts99 : partsT Try.prog 99 = [(0, 9), (1, 9)] := by kernel_rfl
theorem co9 : Try.prog.cellsOf 9 = 1 := by kernel_rfl
theorem co3 : Try.prog.cellsOf 3 = 1 := by kernel_rfl
theorem co24 : Try.prog.cellsOf 24 = 1 := by kernel_rfl
theorem co25 : Try.prog.cellsOf 25 = 1 := by kernel_rfl
theorem co26 : Try.prog.cellsOf 26 = 1 := by kernel_rfl
theorem co27 : Try.prog.cellsOf 27 = 1 := by kernel_rfl
theorem co57 : Try.prog.cellsOf 57 = 5 := by kernel_rfl
theorem co29 : Try.prog.cellsOf 29 = 6 := by kernel_rfl
theorem co99 : Try.prog.cellsOf 99 = 2 := by kernel_rfl
theorem by9 : 0 < Try.prog.bytesOf 9 := by rw [show Try.prog.bytesOf 9 = 16 by kernel_rfl]; omega
theorem by99 : 0 < Try.prog.bytesOf 99 := by rw [show Try.prog.bytesOf 99 = 32 by kernel_rfl]; omega
theorem by57 : 0 < Try.prog.bytesOf 57 := by rw [show Try.prog.bytesOf 57 = 88 by kernel_rfl]; omega
theorem by29 : 0 < Try.prog.bytesOf 29 := by rw [show Try.prog.bytesOf 29 = 128 by kernel_rfl]; omega
theorem len_le {n b : Nat} (h : n * b ≤ reachBytes) (hb : 0 < b) : n ≤ bigN := by
 have := Nat.le_mul_of_pos_right n hb
 unfold reachBytes at h
 unfold bigN
 omega
theorem arg_str {c : Nat} {ps : List PV} (h : Arg Try.prog c 9 ps) : ∃ s : ByteArray, s.size ≤ bigN ∧ ps = [sPV s] := by
 cases c with
 | zero => simp [Arg] at h
 | succ c =>
  unfold Arg at h
  rw [Try.underlying9] at h
  obtain ⟨s, h1, h2⟩ := h
  exact ⟨s, by unfold reachBytes at h1; unfold bigN; omega, h2⟩
theorem arg_i64 {c : Nat} {ps : List PV} (h : Arg Try.prog c 3 ps) : ∃ n : Int, (-9223372036854775808 ≤ n ∧ n ≤ 9223372036854775807) ∧ ps = [.sc (.int .i64 n)] := by
 cases c with
 | zero => simp [Arg] at h
 | succ c =>
  obtain ⟨n, h1, h2⟩ := Arg_int Try.underlying3 h
  exact ⟨n, i64_in h1, h2⟩
theorem arg_strs {c : Nat} {ps : List PV} (h : Arg Try.prog c 24 ps) : ∃ l : List ByteArray, (l.length ≤ bigN ∧ ∀ a ∈ l, a.size ≤ bigN) ∧ ps = [.imm 1 (strRows l)] := by
 cases c with
 | zero => simp [Arg] at h
 | succ c =>
  obtain ⟨rows, rfl, h1, _, h2⟩ := Arg_slice Try.underlying24 h
  obtain ⟨xs, rfl, h3⟩ := rows_map (Q := fun s : ByteArray => s.size ≤ bigN) (f := fun s => [sPV s]) rows (fun r hr => arg_str (h2 r hr).2)
  refine ⟨xs, ⟨len_le (by simpa using h1) by9, h3⟩, ?_⟩
  rw [co9]; try rfl
theorem arg_pm {c : Nat} {ps : List PV} (h : Arg Try.prog c 99 ps) : ∃ p : Pm, p.ok ∧ ps = pmRow p := by
 cases c with
 | zero => simp [Arg] at h
 | succ c =>
  obtain ⟨h1, h2⟩ := Arg_struct Try.underlying99 h
  rw [co99] at h1
  rw [parts99] at h2
  match ps, h1, h2 with
  | [p0, p1], _, h2 =>
   have a0 := h2 (0, 9) (by simp)
   have a1 := h2 (1, 9) (by simp)
   simp only [co9, List.drop_zero, List.drop_succ_cons, List.take_succ_cons, List.take_zero] at a0 a1
   obtain ⟨s, hs, e1⟩ := arg_str a0
   obtain ⟨t, ht, e2⟩ := arg_str a1
   simp at e1 e2
   exact ⟨⟨s, t⟩, ⟨hs, ht⟩, by simp [pmRow, e1, e2]⟩
theorem arg_pms {c : Nat} {ps : List PV} (h : Arg Try.prog c 25 ps) : ∃ l : List Pm, (l.length ≤ bigN ∧ ∀ a ∈ l, a.ok) ∧ ps = [.imm 2 (pmRows l)] := by
 cases c with
 | zero => simp [Arg] at h
 | succ c =>
  obtain ⟨rows, rfl, h1, _, h2⟩ := Arg_slice Try.underlying25 h
  obtain ⟨xs, rfl, h3⟩ := rows_map (Q := Pm.ok) (f := pmRow) rows (fun r hr => arg_pm (h2 r hr).2)
  refine ⟨xs, ⟨len_le (by simpa using h1) by99, h3⟩, ?_⟩
  rw [co99]; try rfl
theorem arg_ex : ∀ (c : Nat) {ps : List PV}, Arg Try.prog c 57 ps → ∃ e : Ex, e.ok ∧ ps = e.cells := by
 intro c
 induction c using Nat.strongRecOn with
 | _ c ih =>
  intro ps h
  cases c with
  | zero => simp [Arg] at h
  | succ c =>
   obtain ⟨h1, h2⟩ := Arg_struct Try.underlying57 h
   rw [co57] at h1
   rw [parts57] at h2
   match ps, h1, h2 with
   | [p0, p1, p2, p3, p4], _, h2 =>
    have a0 := h2 (0, 9) (by simp)
    have a1 := h2 (1, 9) (by simp)
    have a2 := h2 (2, 3) (by simp)
    have a3 := h2 (3, 24) (by simp)
    have a4 := h2 (4, 26) (by simp)
    simp only [co9, co3, co24, co26, List.drop_zero, List.drop_succ_cons, List.take_succ_cons, List.take_zero] at a0 a1 a2 a3 a4
    obtain ⟨op, hop, e0⟩ := arg_str a0
    obtain ⟨name, hname, e1⟩ := arg_str a1
    obtain ⟨n, hn, e2⟩ := arg_i64 a2
    obtain ⟨args, hargs, e3⟩ := arg_strs a3
    cases c with
    | zero => simp [Arg] at a4
    | succ c =>
     obtain ⟨rows, e4, h3, _, h4⟩ := Arg_slice Try.underlying26 a4
     obtain ⟨xs, rfl, h5⟩ := rows_map (Q := Ex.ok) (f := Ex.cells) rows (fun r hr => ih c (by omega) (h4 r hr).2)
     rw [co57] at e4
     simp at e0 e1 e2 e3 e4
     refine ⟨.mk op name n args xs, ?_, ?_⟩
     ·simp only [Ex.ok]
      exact ⟨hop, hname, hn, hargs, len_le (by simpa using h3) by57, Ex.oks_iff.2 h5⟩
     ·simp only [Ex.cells, e0, e1, e2, e3, e4, Ex.rows_map]
theorem arg_exs {c : Nat} {ps : List PV} (h : Arg Try.prog c 26 ps) : ∃ l : List Ex, (l.length ≤ bigN ∧ Ex.oks l) ∧ ps = [.imm 5 (Ex.rows l)] := by
 cases c with
 | zero => simp [Arg] at h
 | succ c =>
  obtain ⟨rows, rfl, h1, _, h2⟩ := Arg_slice Try.underlying26 h
  obtain ⟨xs, rfl, h3⟩ := rows_map (Q := Ex.ok) (f := Ex.cells) rows (fun r hr => arg_ex c (h2 r hr).2)
  refine ⟨xs, ⟨len_le (by simpa using h1) by57, Ex.oks_iff.2 h3⟩, ?_⟩
  rw [co57, Ex.rows_map]
theorem arg_fm : ∀ (c : Nat) {ps : List PV}, Arg Try.prog c 29 ps → ∃ f : Fm, f.ok ∧ ps = f.cells := by
 intro c
 induction c using Nat.strongRecOn with
 | _ c ih =>
  intro ps h
  cases c with
  | zero => simp [Arg] at h
  | succ c =>
   obtain ⟨h1, h2⟩ := Arg_struct Try.underlying29 h
   rw [co29] at h1
   rw [parts29] at h2
   match ps, h1, h2 with
   | [p0, p1, p2, p3, p4, p5], _, h2 =>
    have a0 := h2 (0, 9) (by simp)
    have a1 := h2 (1, 9) (by simp)
    have a2 := h2 (2, 24) (by simp)
    have a3 := h2 (3, 25) (by simp)
    have a4 := h2 (4, 26) (by simp)
    have a5 := h2 (5, 27) (by simp)
    simp only [co9, co24, co25, co26, co27, List.drop_zero, List.drop_succ_cons, List.take_succ_cons, List.take_zero] at a0 a1 a2 a3 a4 a5
    obtain ⟨op, hop, e0⟩ := arg_str a0
    obtain ⟨name, hname, e1⟩ := arg_str a1
    obtain ⟨args, hargs, e2⟩ := arg_strs a2
    obtain ⟨params, hparams, e3⟩ := arg_pms a3
    obtain ⟨exprs, hexprs, e4⟩ := arg_exs a4
    cases c with
    | zero => simp [Arg] at a5
    | succ c =>
     obtain ⟨rows, e5, h3, _, h4⟩ := Arg_slice Try.underlying27 a5
     obtain ⟨xs, rfl, h5⟩ := rows_map (Q := Fm.ok) (f := Fm.cells) rows (fun r hr => ih c (by omega) (h4 r hr).2)
     rw [co29] at e5
     simp at e0 e1 e2 e3 e4 e5
     refine ⟨.mk op name args params exprs xs, ?_, ?_⟩
     ·simp only [Fm.ok]
      exact ⟨hop, hname, hargs, hparams, hexprs, len_le (by simpa using h3) by29, Fm.oks_iff.2 h5⟩
     ·simp only [Fm.cells, e0, e1, e2, e3, e4, e5, Fm.rows_map]
end Go.Proofs.Ytjlkapgpjamnkaa
namespace Go.Proofs.Ytjlkapgpjamnkaa
open Go.AM
set_option maxHeartbeats 4000000
set_option maxRecDepth 20000
theorem lnormal_c : ∀ f : Fm, f.ok → nnfB f = true → ∀ h : Heap, PCall Try.prog 53 [.agg f.cells] h fun r h' => r = .sc (.bool true) ∧ h' = h := by
 refine Fm.ind ?_
 intro op name args params exprs kids ih hok hnf h
 simp only [Fm.ok] at hok
 obtain ⟨_, _, _, _, _, hkl, hks⟩ := hok
 rw [Fm.oks_iff] at hks
 unfold bigN at hkl
 have hlK := Fm.rows_len kids
 simp only [nnfB, Bool.and_eq_true] at hnf
 obtain ⟨⟨n1, n2⟩, n3⟩ := hnf
 rw [nnfBs_iff] at n3
 have k1 : (op.data.toList == (#[105, 109, 112, 108, 121] : Array UInt8).toList) = false := by
  cases q : bEq op opImp with
  | false => exact q
  | true => rw [q] at n1; simp at n1
 have ihk : ∀ k ∈ kids, ∀ h : Heap, PCall Try.prog 53 [.agg k.cells] h fun r h' => r = .sc (.bool true) ∧ h' = h := fun k hk => ih k hk (hks k hk) (n3 k hk).1
 clear ih hks n1
 refine PCall.quiet Ty.hb_53 ?_
 simp only [Fm.cells]
 refine pcall_body (ow := fun _ => false) (wf := fun _ => false) Ty.mixed Try.func53 rfl Ty.hb_53 (by rw [Try.ntmps53]; simp) ?_
 rw [Try.ntmps53, Try.results53]
 repeat' (first | (with_reducible refine a_hold 1 ?_) | refine a_seq fun K hK => ?_ | (refine a_regionS ?_; simp (maxSteps := 2000000) only [Ty.w, simprocAttr, nsucc]) | (refine hK _ _ ?_; clear hK; try simp only [pst0, simprocAttr]))
 refine ⟨?_⟩
 refine a_cut (fun S h' => h' = h ∧ S 1 = .cptr [sPV op, sPV name, .imm 1 (strRows args), .imm 2 (pmRows params), .imm 5 (Ex.rows exprs), .imm 6 (Fm.rows kids)]) ?_ ?_
 ·cases k2 : (op.data.toList == (#[110, 111, 116] : Array UInt8).toList) with
  | false =>
   repeat' (first | refine a_seq fun K hK => ?_ | (refine a_regionS ?_; simp (maxSteps := 2000000) only [Ty.w, simprocAttr, k1, k2]) | (refine a_skip ?_; try simp only [pst0, simprocAttr]) | (refine a_cond _ (by (try simp (maxSteps := 2000000) only [Ty.w, simprocAttr, k1, k2]); rfl) (fun hb => ?_) (fun hb => ?_) <;> (try simp only [hb0, decide_eq_true_eq, decide_eq_false_iff_not, simprocAttr] at hb) <;> (try (exfalso; omega))) | (refine hK _ _ ?_; clear hK; try simp only [pst0, simprocAttr]))
   simp (maxSteps := 2000000) only [Ty.w, simprocAttr, Ty.all]
  | true =>
   obtain ⟨ko, kn, ka, kp, ke, kk, rfl, hko⟩ : ∃ ko kn ka kp ke kk, kids = [.mk ko kn ka kp ke kk] ∧ (bEq ko opAtom || bEq ko opSame) = true := by
    rw [show bEq op opNot = true from k2] at n2
    match kids, n2 with
    | [.mk o _ _ _ _ _], n2 => exact ⟨o, _, _, _, _, _, rfl, by simpa using n2⟩
   have u1 : ((1 : Nat) : Int) = 1 := rfl
   simp only [Fm.rows, Fm.cells]
   cases k3 : (ko.data.toList == (#[97, 116, 111, 109] : Array UInt8).toList) with
   | true =>
    repeat' (first | refine a_seq fun K hK => ?_ | (refine a_regionS ?_; simp (maxSteps := 2000000) only [Ty.w, simprocAttr, k1, k2, k3, u1, bne, Bool.not_true, Bool.not_false, beq_self_eq_true]) | (refine a_skip ?_; try simp only [pst0, simprocAttr]) | (refine a_cond _ (by (try simp (maxSteps := 2000000) only [Ty.w, simprocAttr, k1, k2, k3, u1, bne, Bool.not_true, Bool.not_false, beq_self_eq_true]); rfl) (fun hb => ?_) (fun hb => ?_) <;> (try simp only [hb0, decide_eq_true_eq, decide_eq_false_iff_not, simprocAttr] at hb) <;> (try (exfalso; omega))) | (refine hK _ _ ?_; clear hK; try simp only [pst0, simprocAttr]))
    simp (maxSteps := 2000000) only [Ty.w, simprocAttr, Ty.all]
   | false =>
    have k4 : (ko.data.toList == (#[115, 97, 109, 101] : Array UInt8).toList) = true := by
     rw [show bEq ko opAtom = false from k3, Bool.false_or] at hko
     exact hko
    repeat' (first | refine a_seq fun K hK => ?_ | (refine a_regionS ?_; simp (maxSteps := 2000000) only [Ty.w, simprocAttr, k1, k2, k3, k4, u1, bne, Bool.not_true, Bool.not_false, beq_self_eq_true]) | (refine a_skip ?_; try simp only [pst0, simprocAttr]) | (refine a_cond _ (by (try simp (maxSteps := 2000000) only [Ty.w, simprocAttr, k1, k2, k3, k4, u1, bne, Bool.not_true, Bool.not_false, beq_self_eq_true]); rfl) (fun hb => ?_) (fun hb => ?_) <;> (try simp only [hb0, decide_eq_true_eq, decide_eq_false_iff_not, simprocAttr] at hb) <;> (try (exfalso; omega))) | (refine hK _ _ ?_; clear hK; try simp only [pst0, simprocAttr]))
    simp (maxSteps := 2000000) only [Ty.w, simprocAttr, Ty.all]
 ·rintro S h1 ⟨rfl, g1⟩
  repeat' (first | refine a_seq fun K hK => ?_ | (refine a_block ?_) | (refine a_regionS ?_; simp (maxSteps := 2000000) only [Ty.w, simprocAttr, g1]) | (refine hK _ _ ?_; clear hK; try simp only [pst0, simprocAttr]))
  refine a_loop (fun c S h' => S 1 = .cptr [sPV op, sPV name, .imm 1 (strRows args), .imm 2 (pmRows params), .imm 5 (Ex.rows exprs), .imm 6 (Fm.rows kids)] ∧ ∃ k : Nat, S 3 = .sc (.int .i64 k) ∧ k ≤ kids.length ∧ c = kids.length - k ∧ h' = h1) kids.length ?_ ?_
  ·simp only [Ty.w, simprocAttr, g1]
   exact ⟨0, rfl, by omega, rfl⟩
  ·clear g1
   rintro c S h' ⟨g1, k, g3, hk, rfl, rfl⟩
   by_cases hlt : k < kids.length
   ·have hd : decide ((k : Int) < (kids.length : Int)) = true := by simp; omega
    have w7 : IntKind.i64.wrap ((k : Int) + 1) = k + 1 := by rw [wrap64 (by omega) (by omega)]
    obtain ⟨x, hx⟩ : ∃ x, kids[k]? = some x := ⟨_, List.getElem?_eq_getElem hlt⟩
    have hr := Fm.rows_get hx
    have hmem := List.mem_of_getElem? hx
    have hc := ihk x hmem
    have hn := (n3 x hmem).2
    clear ihk n3 n2
    obtain ⟨xo, xn, xa, xp, xe, xk⟩ := x
    simp only [Fm.cells] at hr hc
    simp only [opOf] at hn
    cases q1 : (xo.data.toList == op.data.toList) with
    | false =>
     repeat' (first | refine a_seq fun K hK => ?_ | ((first | refine a_regionS ?_ | refine a_drawS (by decide +kernel) ?_); simp (maxSteps := 2000000) only [Ty.w, simprocAttr, g1, g3, hlK, hd, hr]) | (refine a_skip ?_; try simp only [pst0, simprocAttr]) | (refine a_cond _ (by (try simp (maxSteps := 2000000) only [Ty.w, simprocAttr, g1, g3, hlK, hd, hr]); rfl) (fun hb => ?_) (fun hb => ?_) <;> (try simp only [hb0, decide_eq_true_eq, decide_eq_false_iff_not, simprocAttr] at hb) <;> (try (exfalso; omega))) | (refine hK _ _ ?_; clear hK; try simp only [pst0, simprocAttr]))
     (first | refine a_dcall0 (hc _) (by (try simp only [Ty.w, simprocAttr, g1, g3, hr, q1, Bool.not_true]); try rfl) ?_ | refine a_dcallA (hc _) (by (try simp only [Ty.w, simprocAttr, g1, g3, hr, q1, Bool.not_true]); try rfl) (by simp only [Ty.w, simprocAttr, g1, g3, hr, q1, Bool.not_true]; try trivial) ?_); simp (maxSteps := 2000000) only [Ty.w, simprocAttr, Option.getD_some, g1, g3, hr, q1, Bool.not_true]
     repeat' (first | (refine a_block ?_) | (refine a_regionS ?_; simp (maxSteps := 2000000) only [Ty.w, simprocAttr, g1, g3, hr, q1, w7, Bool.not_true]) | (refine a_skip ?_; try simp only [pst0, simprocAttr]) | (refine hK _ _ ?_; clear hK; try simp only [pst0, simprocAttr]))
     exact ⟨kids.length - (k + 1), by omega, k + 1, by simp, by omega, rfl⟩
    | true =>
     have q2 : (op.data.toList == (#[97, 110, 100] : Array UInt8).toList) = false := by
      cases q : bEq op opAnd with
      | false => exact q
      | true => exact absurd ⟨q1, .inl q⟩ hn
     have q3 : (op.data.toList == (#[111, 114] : Array UInt8).toList) = false := by
      cases q : bEq op opOr with
      | false => exact q
      | true => exact absurd ⟨q1, .inr q⟩ hn
     repeat' (first | refine a_seq fun K hK => ?_ | ((first | refine a_regionS ?_ | refine a_drawS (by decide +kernel) ?_); simp (maxSteps := 2000000) only [Ty.w, simprocAttr, g1, g3, hlK, hd, hr]) | (refine a_skip ?_; try simp only [pst0, simprocAttr]) | (refine a_cond _ (by (try simp (maxSteps := 2000000) only [Ty.w, simprocAttr, g1, g3, hlK, hd, hr]); rfl) (fun hb => ?_) (fun hb => ?_) <;> (try simp only [hb0, decide_eq_true_eq, decide_eq_false_iff_not, simprocAttr] at hb) <;> (try (exfalso; omega))) | (refine hK _ _ ?_; clear hK; try simp only [pst0, simprocAttr]))
     (first | refine a_dcall0 (hc _) (by (try simp only [Ty.w, simprocAttr, g1, g3, hr, q1, q2, q3, Bool.not_true]); try rfl) ?_ | refine a_dcallA (hc _) (by (try simp only [Ty.w, simprocAttr, g1, g3, hr, q1, q2, q3, Bool.not_true]); try rfl) (by simp only [Ty.w, simprocAttr, g1, g3, hr, q1, q2, q3, Bool.not_true]; try trivial) ?_); simp (maxSteps := 2000000) only [Ty.w, simprocAttr, Option.getD_some, g1, g3, hr, q1, q2, q3, Bool.not_true]
     repeat' (first | (refine a_block ?_) | (refine a_regionS ?_; simp (maxSteps := 2000000) only [Ty.w, simprocAttr, g1, g3, hr, q1, q2, q3, w7, Bool.not_true]) | (refine a_skip ?_; try simp only [pst0, simprocAttr]) | (refine hK _ _ ?_; clear hK; try simp only [pst0, simprocAttr]))
     exact ⟨kids.length - (k + 1), by omega, k + 1, by simp, by omega, rfl⟩
   ·have hd : decide ((k : Int) < (kids.length : Int)) = false := by simp; omega
    repeat' (first | refine a_seq fun K hK => ?_ | ((first | refine a_regionS ?_ | refine a_ret ?_); simp (maxSteps := 2000000) only [Ty.w, simprocAttr, g1, g3, hlK, hd]) | (refine a_exit ?_; try simp only [pst0, simprocAttr]) | (refine a_cond _ (by (try simp (maxSteps := 2000000) only [Ty.w, simprocAttr, g1, g3, hlK, hd]); rfl) (fun hb => ?_) (fun hb => ?_) <;> (try simp only [hb0, decide_eq_true_eq, decide_eq_false_iff_not, simprocAttr] at hb) <;> (try (exfalso; omega))) | ((first | refine hK _ _ ?_ | (clear hK; refine hK _ _ ?_)); clear hK; try simp only [pst0, simprocAttr]))
    exact Grow.refl _
end Go.Proofs.Ytjlkapgpjamnkaa
