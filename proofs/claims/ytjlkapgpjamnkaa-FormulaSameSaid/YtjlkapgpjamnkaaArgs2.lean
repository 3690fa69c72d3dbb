/- What came in, as abstract values: for every type made of bools, integers, strings, slices, structs and arrays. -/
import Derived.Test.YtjlkapgpjamnkaaAmTac
import Derived.OpenShut
import Derived.ChangeShapes
import Derived.SizedLaws
set_option linter.unusedVariables false
set_option linter.unusedSimpArgs false
set_option linter.unusedSectionVars false
namespace Go.AM
open Go.ChangeShapes Go.WideShapes

/-- the parts of a struct or an array: where each begins, and its type -/
def partsT (P : Program) (t : TypeId) : List (Nat × TypeId) := match P.underlying t with
  | some (.struct fs) => fs.toList.map fun f => (f.offset, f.type)
  | some (.array n e) => (List.range n).map fun i => (i * P.cellsOf e, e)
  | _ => []
/-- do the parts lie one behind the other, from o on to e? -/
def inRow (P : Program) (e : Nat) : Nat → List (Nat × TypeId) → Bool
  | o, [] => o == e
  | o, p :: l => p.1 == o && inRow P e (o + P.cellsOf p.2) l
/-- is the type made of bools, integers, strings, slices, structs and arrays? -/
def covB (P : Program) : Nat → TypeId → Bool
  | 0, _ => false
  | f + 1, t => match P.underlying t with
    | some .bool => true
    | some (.int _) => true
    | some .string => true
    | some (.slice e) => decide (0 < P.cellsOf e) && covB P f e
    | some (.struct _) => inRow P (P.cellsOf t) 0 (partsT P t) && (partsT P t).all fun p => covB P f p.2
    | some (.array _ _) => inRow P (P.cellsOf t) 0 (partsT P t) && (partsT P t).all fun p => covB P f p.2
    | _ => false
/-- the cells of a value of a type that came in -/
def Arg (P : Program) : Nat → TypeId → List PV → Prop
  | 0, _, _ => False
  | f + 1, t, ps => match P.underlying t with
    | some .bool => ∃ b, ps = [.sc (.bool b)]
    | some (.int k) => ∃ n, (Lit.int k n).wf = true ∧ ps = [.sc (.int k n)]
    | some .string => ∃ s : ByteArray, s.size ≤ reachBytes ∧ ps = [.sc (.string s)]
    | some (.slice e) => ∃ rows, ps = [.imm (P.cellsOf e) rows] ∧ rows.length * P.bytesOf e ≤ reachBytes ∧ rows.length ≤ maxLen ∧ ∀ r ∈ rows, r.length = P.cellsOf e ∧ Arg P f e r
    | some (.struct _) => ps.length = P.cellsOf t ∧ ∀ p ∈ partsT P t, Arg P f p.2 ((ps.drop p.1).take (P.cellsOf p.2))
    | some (.array _ _) => ps.length = P.cellsOf t ∧ ∀ p ∈ partsT P t, Arg P f p.2 ((ps.drop p.1).take (P.cellsOf p.2))
    | _ => False

section
variable {H : Type} {enc : TypeId × Value → H} {P : Program} {w : World} {sp : Nat → Bool} {held : Bool}
/-- the cells cs stand for ps, in any heap -/
def RA (w : World) (ps : List PV) (cs : List Value) : Prop := (∀ v ∈ cs, v.oneCell' = true) ∧ ∀ β n, RepL β n (fun b => b < w.heap.size) w ps cs
theorem RA.len {ps : List PV} {cs : List Value} (h : RA w ps cs) : ps.length = cs.length := (h.2 (fun _ => ⟨none, 0, 0, 0⟩) 0).len
theorem RA.append {ps ps' : List PV} {cs cs' : List Value} (h : RA w ps cs) (k : RA w ps' cs') : RA w (ps ++ ps') (cs ++ cs') :=
  ⟨fun v hv => by exact (List.mem_append.1 hv).elim (h.1 v) (k.1 v), fun β n => (h.2 β n).append (k.2 β n)⟩
theorem inRow_le {e : Nat} : (l : List (Nat × TypeId)) → (o : Nat) → inRow P e o l = true → o ≤ e ∧ ∀ p ∈ l, o ≤ p.1 ∧ p.1 + P.cellsOf p.2 ≤ e
  | [], o, h => by simp [inRow] at h; simp [h]
  | p :: l, o, h => by
    simp only [inRow, Bool.and_eq_true, beq_iff_eq] at h
    obtain ⟨h1, h2⟩ := inRow_le l _ h.2
    refine ⟨by omega, fun q hq => ?_⟩
    rcases List.mem_cons.1 hq with rfl | hq
    · omega
    · have := h2 q hq; omega
theorem parts_rep {c : Nat} {cs : List Value} : (l : List (Nat × TypeId)) → (o : Nat) → inRow P cs.length o l = true →
    (∀ p ∈ l, ∃ ps, Arg P c p.2 ps ∧ RA w ps ((cs.drop p.1).take (P.cellsOf p.2))) →
    ∃ ps, RA w ps (cs.drop o) ∧ ∀ p ∈ l, Arg P c p.2 ((ps.drop (p.1 - o)).take (P.cellsOf p.2))
  | [], o, h, _ => by
    simp [inRow] at h
    refine ⟨[], ⟨?_, fun β n => ?_⟩, by simp⟩
    · rw [List.drop_of_length_le (by omega)]; simp
    · rw [List.drop_of_length_le (by omega)]; simp [RepL]
  | p :: l, o, h, hp => by
    have hle := (inRow_le (p :: l) o h).2 p (by simp)
    simp only [inRow, Bool.and_eq_true, beq_iff_eq] at h
    obtain ⟨ps, h1, h2⟩ := parts_rep l _ h.2 (fun q hq => hp q (by simp [hq]))
    obtain ⟨ps0, h3, h4⟩ := hp p (by simp)
    have hl2 := (inRow_le l _ h.2).2
    have e0 : p.1 = o := h.1
    have l0 : ps0.length = P.cellsOf p.2 := by rw [h4.len, List.length_take, List.length_drop]; omega
    refine ⟨ps0 ++ ps, ?_, fun q hq => ?_⟩
    · have : cs.drop o = (cs.drop p.1).take (P.cellsOf p.2) ++ cs.drop (o + P.cellsOf p.2) := by
        rw [e0, ← List.drop_drop, List.take_append_drop]
      rw [this]
      exact h4.append h1
    · rcases List.mem_cons.1 hq with rfl | hq
      · rw [e0, Nat.sub_self, List.drop_zero, List.take_append_of_le_length (by omega), List.take_of_length_le (by omega)]
        exact h3
      · have h5 := hl2 q hq
        have : q.1 - o = ps0.length + (q.1 - (o + P.cellsOf p.2)) := by omega
        rw [this, ← List.drop_drop, List.drop_left]
        exact h2 q hq
theorem exists_list {α : Type} {R : Nat → α → Prop} : (n : Nat) → (∀ i, i < n → ∃ x, R i x) → ∃ l : List α, l.length = n ∧ ∀ i x, l[i]? = some x → R i x
  | 0, _ => ⟨[], rfl, by simp⟩
  | n + 1, h => by
    obtain ⟨l, h1, h2⟩ := exists_list n (fun i hi => h i (by omega))
    obtain ⟨x, hx⟩ := h n (by omega)
    refine ⟨l ++ [x], by simp [h1], fun i y hy => ?_⟩
    rw [List.getElem?_append] at hy
    split at hy
    · exact h2 i y hy
    · rename_i hi
      have : i = n := by
        have := (List.getElem?_eq_some_iff.1 hy).1
        simp at this; omega
      subst this
      rw [h1] at hy
      simp at hy
      subst hy; exact hx
theorem weightsAll_mem {e : TypeId} {n : Nat} : {ds : List (DataW H)} → {i : Nat} → {d : DataW H} → ds[i]? = some d → n ∈ d.weights P e → n ∈ DataW.weightsAll P e ds
  | [], _, _, h, _ => by simp at h
  | d0 :: ds, 0, d, h, hn => by
    simp at h; subst h
    simp only [DataW.weightsAll, List.mem_append]; exact .inl hn
  | d0 :: ds, i + 1, d, h, hn => by
    simp at h
    simp only [DataW.weightsAll, List.mem_append]; exact .inr (weightsAll_mem h hn)
theorem sc_RA {v : Value} (h : v.oneCell' = true) : RA w [.sc v] [v] :=
  ⟨fun u hu => by simp at hu; subst hu; exact h, fun β n => by simp only [RepL, Rep]; exact ⟨trivial, trivial⟩⟩
theorem arg_of : ∀ (c : Nat) (t : TypeId), covB P c t = true → ∀ (fuel : Nat) (cs : List Value) (x : DataW H × List MemPlace), DataW.trod enc P w 0 sp held fuel t cs = some x → (∀ n ∈ x.1.weights P t, n ≤ reachBytes) →
    ∃ ps, Arg P c t ps ∧ RA w ps cs
  | 0, _, h, _, _, _, _, _ => by simp [covB] at h
  | c + 1, t, h, fuel, cs, x, hx, hw => by
    unfold covB at h
    split at h
    · rename_i hu
      obtain ⟨b, rfl, rfl⟩ := DataW.trod_bool hu hx
      refine ⟨[.sc (.bool b)], ?_, sc_RA rfl⟩
      unfold Arg; rw [hu]; exact ⟨b, rfl⟩
    · rename_i k hu
      obtain ⟨n, rfl, rfl, hwf⟩ := DataW.trod_int hu hx
      refine ⟨[.sc (.int k n)], ?_, sc_RA rfl⟩
      unfold Arg; rw [hu]; exact ⟨n, hwf, rfl⟩
    · rename_i hu
      obtain ⟨s, rfl, rfl, hs⟩ := DataW.trod_string hu hx
      refine ⟨[.sc (.string s)], ?_, sc_RA rfl⟩
      unfold Arg; rw [hu]
      refine ⟨s, ?_, rfl⟩
      have := hw s.data.toList.length (by simp [DataW.weights])
      simpa using this
    · rename_i e hu
      simp only [Bool.and_eq_true, decide_eq_true_eq] at h
      obtain ⟨hpos, hcov⟩ := h
      rcases DataW.trod_slice hu hx with ⟨rfl, rfl⟩ | ⟨a, len, cap, elems, rest, n, rfl, rfl, rfl, hb, hl, hm, hlen, hel, hsp, hns⟩
      · refine ⟨[.imm (P.cellsOf e) []], ?_, fun v hv => ?_, fun β n => ?_⟩
        · unfold Arg; rw [hu]; exact ⟨[], rfl, by simp, by simp, by simp⟩
        · simp at hv; subst hv; rfl
        · simp only [RepL, Rep]
          exact ⟨⟨none, 0, rfl, Nat.le_refl _, Nat.zero_le _, .inl (by trivial)⟩, trivial⟩
      · have each : ∀ i, i < len → ∃ r : List PV, (r.length = P.cellsOf e ∧ Arg P c e r) ∧ ∃ ci, RA w r ci ∧ ci.length = P.cellsOf e ∧ ∀ j, j < P.cellsOf e → w.cell? ((a.add (i * P.cellsOf e)).add j) = ci[j]? := by
          intro i hi
          have h1 := hel i hi
          have h2 : elems[i]? = some (elems[i]'(by omega)) := List.getElem?_eq_getElem _
          rw [h2, Option.bind_eq_some_iff] at h1
          obtain ⟨ci, h3, h4⟩ := h1
          obtain ⟨_, h5, h6⟩ := World.cells?_some h3
          obtain ⟨r, h7, h8⟩ := arg_of c e hcov n ci _ h4 (fun m hm => hw m (by
            simp only [DataW.weights, hu, List.mem_cons, List.mem_append]
            exact .inr (.inl (weightsAll_mem (i := i) (by rw [List.getElem?_map, h2]; rfl) hm))))
          exact ⟨r, ⟨by rw [h8.len, h5], h7⟩, ci, h8, h5, h6⟩
        obtain ⟨rows, hrl, hrows⟩ := exists_list len each
        refine ⟨[.imm (P.cellsOf e) rows], ?_, fun v hv => ?_, fun β m => ?_⟩
        · unfold Arg; rw [hu]
          refine ⟨rows, rfl, ?_, by omega, fun r hr => ?_⟩
          · have := hw ((elems.map (·.1)).length * P.bytesOf e + (rest.map (·.1)).length * P.bytesOf e) (by
              simp only [DataW.weights, hu, List.mem_cons, Nat.add_mul, true_or])
            have h9 : rows.length = (elems.map (·.1)).length := by simp [hrl, hlen]
            rw [h9]
            exact Nat.le_trans (Nat.le_add_right _ _) this
          · obtain ⟨i, hi⟩ := List.getElem?_of_mem hr
            exact (hrows i r hi).1
        · simp at hv; subst hv; rfl
        · simp only [RepL, Rep]
          refine ⟨⟨some a, cap, by rw [hrl], by omega, hm, ?_⟩, trivial⟩
          by_cases h0 : len = 0
          · left; exact List.length_eq_zero_iff.1 (by omega)
          · right
            obtain ⟨_, _, c0, _, hc0, hcell0⟩ := each 0 (by omega)
            have h10 := hcell0 0 hpos
            rw [List.getElem?_eq_getElem (by omega)] at h10
            simp only [Nat.zero_mul, Addr.add, if_true] at h10
            have hs : a.spot = none := by
              unfold World.cell? at h10
              split at h10
              · split at h10
                · simp at h10
                · rename_i hsp; simpa using hsp
              · simp at h10
            have hblk : a.block < w.heap.size := by
              unfold World.cell? at h10
              split at h10
              · rename_i hh; exact (Array.getElem?_eq_some_iff.1 hh).1
              · simp at h10
            refine ⟨a.block, a.off, hblk, by cases a; simp only at hs; subst hs; rfl, ?_⟩
            rw [RepR_iff]
            intro i r hr
            obtain ⟨⟨g1, _⟩, ci, g2, g3, g4⟩ := hrows i r hr
            refine ⟨g1, ?_⟩
            rw [RepS_iff]
            intro j p hp
            obtain ⟨v, hv, hrep⟩ := (g2.2 β m).get hp
            have hj : j < P.cellsOf e := by rw [← g3]; exact (List.getElem?_eq_some_iff.1 hv).1
            refine ⟨v, ?_, g2.1 v (List.mem_of_getElem? hv), hrep⟩
            rw [← hv, ← g4 j hj]
            congr 1
            cases a
            simp only at hs; subst hs
            simp only [Addr.add]
            split <;> split <;> simp_all <;> omega
    · rename_i fs hu
      simp only [Bool.and_eq_true, List.all_eq_true] at h
      obtain ⟨xs, n, rfl, rfl, hcl, hxl, hp⟩ := DataW.trod_struct hu hx
      have hpt : partsT P t = fs.toList.map fun f => (f.offset, f.type) := by unfold partsT; rw [hu]
      obtain ⟨ps, h1, h2⟩ := parts_rep (w := w) (c := c) (cs := cs) (partsT P t) 0 (by rw [hcl]; exact h.1) (fun p hpm => by
        have hcv := h.2 p hpm
        rw [hpt] at hpm
        obtain ⟨i, hi⟩ := List.getElem?_of_mem hpm
        rw [List.getElem?_map, Option.map_eq_some_iff] at hi
        obtain ⟨f, hf, rfl⟩ := hi
        have hf' : fs[i]? = some f := by simpa using hf
        have hi' : i < xs.length := by
          rw [hxl]
          exact (Array.getElem?_eq_some_iff.1 hf').1
        have h3 := hp i f hf'
        rw [List.getElem?_eq_getElem hi'] at h3
        exact arg_of c f.type hcv n _ _ h3 (fun m hm => hw m (by
          simp only [DataW.weights, hu]
          exact DataW.weights_mem_each (j := i) (t := f.type) (d := xs[i].1) (by rw [List.getElem?_map, hf]; rfl) (by rw [List.getElem?_map, List.getElem?_eq_getElem hi']; rfl) m hm)))
      refine ⟨ps, ?_, by simpa using h1⟩
      unfold Arg; rw [hu]
      exact ⟨by rw [h1.len, List.drop_zero, hcl], fun p hpm => by simpa using h2 p hpm⟩
    · rename_i k e hu
      simp only [Bool.and_eq_true, List.all_eq_true] at h
      obtain ⟨xs, n, rfl, rfl, hcl, hxl, hp⟩ := DataW.trod_array hu hx
      have hpt : partsT P t = (List.range k).map fun i => (i * P.cellsOf e, e) := by unfold partsT; rw [hu]
      obtain ⟨ps, h1, h2⟩ := parts_rep (w := w) (c := c) (cs := cs) (partsT P t) 0 (by rw [hcl]; exact h.1) (fun p hpm => by
        have hcv := h.2 p hpm
        rw [hpt] at hpm
        obtain ⟨i, hi, rfl⟩ := List.mem_map.1 hpm
        have hi' : i < xs.length := by rw [hxl]; simpa using hi
        have h3 := hp i (by simpa using hi)
        rw [List.getElem?_eq_getElem hi'] at h3
        exact arg_of c e hcv n _ _ h3 (fun m hm => hw m (by
          simp only [DataW.weights, hu]
          exact weightsAll_mem (i := i) (d := xs[i].1) (by rw [List.getElem?_map, List.getElem?_eq_getElem hi']; rfl) hm)))
      refine ⟨ps, ?_, by simpa using h1⟩
      unfold Arg; rw [hu]
      exact ⟨by rw [h1.len, List.drop_zero, hcl], fun p hpm => by simpa using h2 p hpm⟩
    · simp at h

/-- the value itself -/
def ArgV (P : Program) (c : Nat) (t : TypeId) (p : PV) : Prop := match P.underlying t with
  | some (.struct _) => ∃ ps, p = .agg ps ∧ Arg P c t ps
  | some (.array _ _) => ∃ ps, p = .agg ps ∧ Arg P c t ps
  | _ => Arg P c t [p]
theorem arg_value {c : Nat} {t : TypeId} (hc : covB P c t = true) {v : Value} {d : DataW H} {pl : List MemPlace} (h : DataW.Trod enc P w 0 sp held t v d pl) (hv : ∃ base, Value.okWide P w .any base t v)
    (hw : ∀ n ∈ d.weights P t, n ≤ reachBytes) : ∃ p, ArgV P c t p ∧ ∀ β n, Rep β n (fun b => b < w.heap.size) w p v := by
  obtain ⟨fuel, hf⟩ := h
  obtain ⟨ps, h1, h2⟩ := arg_of c t hc fuel _ _ hf hw
  obtain ⟨base, hv⟩ := hv
  unfold Value.okWide at hv
  cases c with
  | zero => simp [covB] at hc
  | succ c =>
    unfold covB at hc
    unfold ArgV
    have one : (∃ q, ps = [q]) → (∃ u, v.cells.toList = [u] ∧ v = u) → ∃ p, Arg P (c + 1) t [p] ∧ ∀ β n, Rep β n (fun b => b < w.heap.size) w p v := by
      rintro ⟨q, rfl⟩ ⟨u, hu, rfl⟩
      refine ⟨q, h1, fun β n => ?_⟩
      have := h2.2 β n
      rw [hu] at this
      simp only [RepL] at this
      exact this.1
    have agg : (∃ cs, v = .agg cs) → ∃ p, (∃ ps, p = .agg ps ∧ Arg P (c + 1) t ps) ∧ ∀ β n, Rep β n (fun b => b < w.heap.size) w p v := by
      rintro ⟨cs, rfl⟩
      refine ⟨.agg ps, ⟨ps, rfl, h1⟩, fun β n => ?_⟩
      simp only [Rep]
      exact ⟨cs.toList, by simp, h2.1, h2.2 β n⟩
    split at hc
    · rename_i hu
      obtain ⟨b, hb, _⟩ := DataW.trod_bool hu hf
      simp only [hu] at hv ⊢
      refine one ?_ ⟨_, hb, ?_⟩
      · unfold Arg at h1; rw [hu] at h1; obtain ⟨b, rfl⟩ := h1; exact ⟨_, rfl⟩
      · obtain ⟨b', rfl⟩ := okWide_bool hu (r := .any) (base := base) (v := v) (w := w) (by unfold Value.okWide; rw [hu]; exact hv)
        simpa [Value.cells] using hb
    · rename_i k hu
      obtain ⟨n, hb, _⟩ := DataW.trod_int hu hf
      simp only [hu] at hv ⊢
      refine one ?_ ⟨_, hb, ?_⟩
      · unfold Arg at h1; rw [hu] at h1; obtain ⟨n, _, rfl⟩ := h1; exact ⟨_, rfl⟩
      · obtain ⟨b', rfl⟩ := okWide_int hu (r := .any) (base := base) (v := v) (w := w) (by unfold Value.okWide; rw [hu]; exact hv)
        simpa [Value.cells] using hb
    · rename_i hu
      obtain ⟨n, hb, _⟩ := DataW.trod_string hu hf
      simp only [hu] at hv ⊢
      refine one ?_ ⟨_, hb, ?_⟩
      · unfold Arg at h1; rw [hu] at h1; obtain ⟨n, _, rfl⟩ := h1; exact ⟨_, rfl⟩
      · obtain ⟨b', rfl⟩ := okWide_string hu (r := .any) (base := base) (v := v) (w := w) (by unfold Value.okWide; rw [hu]; exact hv)
        simpa [Value.cells] using hb
    · rename_i e hu
      simp only [hu] at hv ⊢
      obtain ⟨a, len, cap, rfl⟩ := okWide_slice hu (r := .any) (base := base) (v := v) (w := w) (by unfold Value.okWide; rw [hu]; exact hv)
      refine one ?_ ⟨_, rfl, rfl⟩
      unfold Arg at h1; rw [hu] at h1; obtain ⟨n, rfl, _⟩ := h1; exact ⟨_, rfl⟩
    · rename_i fs hu
      simp only [hu] at hv ⊢
      obtain ⟨cs, rfl, _⟩ := hv
      exact agg ⟨_, rfl⟩
    · rename_i n e hu
      simp only [hu] at hv ⊢
      obtain ⟨cs, rfl, _⟩ := hv
      exact agg ⟨_, rfl⟩
    · simp at hc
end
end Go.AM
