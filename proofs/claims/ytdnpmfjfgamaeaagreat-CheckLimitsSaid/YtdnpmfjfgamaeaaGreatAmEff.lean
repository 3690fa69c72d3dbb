/- Each operation of the abstract machine is what the model's operation does. -/
import Derived.Test.YtdnpmfjfgamaeaaGreatAmLem
set_option linter.unusedVariables false
set_option linter.unusedSimpArgs false
set_option linter.unusedSectionVars false
namespace Go.AM
section
variable {P : Program} {β β' : Env} {h h' : Heap} {w w' : World} {s : Slots} {a : Act}

theorem pev_rep (hs : ∀ t, RepH β h w (s t) (a.tmps.getD t undef)) (x : Operand) : RepH β h w (pev s x) (a.eval x) := by
  cases x with
  | tmp t => exact hs t
  | const v =>
    simp only [pev, Act.eval]
    cases v <;> simp only [constPV] <;> try simp only [Rep]
    split
    · rename_i cs hc
      simp only [Rep]
      exact ⟨cs.toList, by simp, List.all_eq_true.1 hc, RepL.sc _⟩
    · simp only [Rep]
  | global g => simp only [pev, Act.eval, Rep]
  | func f => simp only [pev, Act.eval, Rep]

theorem szT_info {t n : Nat} (hz : szT P t = some n) : ∃ d i, P.underlying t = some d ∧ P.info? t = some i ∧ i.size = n := by
  unfold szT at hz
  split at hz
  · rename_i d hd
    cases hi : P.info? t with
    | none => simp [hi] at hz
    | some i => simp [hi] at hz; exact ⟨d, i, hd, rfl, hz⟩
  · simp at hz
theorem run_sizeOf {t n : Nat} (hz : szT P t = some n) (w : World) : (sizeOf t).run P w = .ok n w := by
  obtain ⟨d, i, hd, hi, rfl⟩ := szT_info hz
  simp [sizeOf, typeInfo, hi]
theorem run_isAgg {t : Nat} {d : TypeDesc} (hd : P.underlying t = some d) (w : World) : (isAgg t).run P w = .ok (aggB P t) w := by
  simp only [isAgg, Sem.run_bind, run_underlying hd, Result.andThen_ok, aggB, kT, hd]
  cases d <;> simp
theorem kT_some {t : Nat} (hk : kT P t ≠ 0) : ∃ d, P.underlying t = some d := by
  cases hd : P.underlying t with
  | none => simp [kT, hd] at hk
  | some d => exact ⟨d, rfl⟩
theorem elT_info {t : Nat} {zb : Nat × Nat} (hz : elT P t = some zb) : ∃ e i zv, P.underlying t = some (.slice e) ∧ P.info? e = some i ∧ i.size = zb.1 ∧ i.bytes = zb.2 ∧ i.zero = some zv ∧ zv.cells.size = zb.1 := by
  unfold elT at hz
  split at hz
  · rename_i e hd
    cases hi : P.info? e with
    | none => simp [hi] at hz
    | some i =>
      cases hv : i.zero with
      | none => simp [hi, hv] at hz
      | some zv =>
        simp only [hi, hv, Option.bind_some] at hz
        split at hz
        · rename_i hsz
          simp at hz
          subst hz
          exact ⟨e, i, zv, hd, hi, rfl, rfl, hv, hsz⟩
        · simp at hz
  · simp at hz
theorem arT_info {t : Nat} {na : Nat × Nat} (hz : arT P t = some na) : ∃ e i, P.underlying t = some (.array na.1 e) ∧ P.info? e = some i ∧ i.size = na.2 := by
  unfold arT at hz
  split at hz
  · rename_i n e hd
    cases hi : P.info? e with
    | none => simp [hi] at hz
    | some i => simp [hi] at hz; exact ⟨e, i, by rw [hd, ← hz], hi, by rw [← hz]⟩
  · simp at hz
theorem zeroT_info {t : Nat} {z : List Value} (hz : zeroT P t = some z) : ∃ i v, P.info? t = some i ∧ i.zero = some v ∧ v.cells.toList = z ∧ ∀ x ∈ z, x.oneCell' = true := by
  unfold zeroT at hz
  cases hi : P.info? t with
  | none => simp [hi] at hz
  | some i =>
    cases hv : i.zero with
    | none => simp [hi, hv] at hz
    | some v =>
      simp only [hi, hv, Option.bind_some] at hz
      split at hz
      · rename_i ha
        simp at hz
        subst hz
        exact ⟨i, v, rfl, hv, rfl, List.all_eq_true.1 ha⟩
      · simp at hz
theorem elZ_info {t : Nat} {z : List Value} (hz : elZ P t = some z) : ∃ e i v, P.underlying t = some (.slice e) ∧ P.info? e = some i ∧ i.zero = some v ∧ v.cells.toList = z ∧ ∀ x ∈ z, x.oneCell' = true := by
  unfold elZ at hz
  split at hz
  · rename_i e hd
    obtain ⟨i, v, h1, h2, h3, h4⟩ := zeroT_info hz
    exact ⟨e, i, v, hd, h1, h2, h3, h4⟩
  · simp at hz
theorem fldT_info {t f : Nat} {o : Nat × Nat × Bool} (ho : fldT P t f = some o) : ∃ fs fd, P.underlying t = some (.struct fs) ∧ fs[f]? = some fd ∧ szT P fd.type = some o.2.1 ∧ fd.offset = o.1 ∧ aggB P fd.type = o.2.2 := by
  unfold fldT at ho
  split at ho
  · rename_i fs hd
    cases hf : fs[f]? with
    | none => simp [hf] at ho
    | some fd =>
      cases hz : szT P fd.type with
      | none => simp [hf, hz] at ho
      | some n => simp [hf, hz] at ho; subst ho; exact ⟨fs, fd, hd, hf, hz, rfl, rfl⟩
  · simp at ho

/-- what lies behind an address -/
theorem rd_sound (sm : Sim β h w) {p : PV} {x : Value} {cs : List PV} (hr : rd h p = some cs) (hx : RepH β h w p x) :
    ∃ b o, x = .pointer (some ⟨b, o, none⟩) ∧ RepS β h.next (Fz β h w) w cs b o := by
  cases p with
  | ptr id i f =>
    simp only [rd] at hr
    split at hr
    · rename_i z rows hob
      cases hri : rows[i]? with
      | none => simp [hri] at hr
      | some r =>
        simp [hri] at hr
        subst hr
        have hok := sm.ok id _ hob
        simp only [ObjOk] at hok
        simp only [RepH, Rep] at hx
        obtain ⟨_, b, hb, rfl⟩ := hx
        rcases hok.2 with ⟨_, h2⟩ | ⟨b', c, t, fr, h5, h6, h7, h8, h9, h10⟩
        · subst h2; simp at hri
        · rw [hb] at h5; simp at h5; subst h5
          refine ⟨b, _, rfl, ?_⟩
          rw [hok.1]
          exact ((RepR_iff.1 h10) i r hri).2.drop f
    · simp at hr
  | cptr l =>
    simp only [rd, Option.some.injEq] at hr
    subst hr
    simp only [RepH, Rep] at hx
    obtain ⟨b, o, _, rfl, h3⟩ := hx
    exact ⟨b, o, rfl, h3⟩
  | sc v =>
    unfold rd at hr
    split at hr <;> (try (rename_i hv; cases hv)) <;> (try (simp at hr; done))
    rename_i g
    split at hr
    · rename_i g' lo hi hob
      split at hr
      · rename_i hg
        subst hg
        simp at hr; subst hr
        simp only [RepH, Rep] at hx
        subst hx
        have hok := sm.ok _ _ hob
        simp only [ObjOk] at hok
        obtain ⟨_, _, i, h1, h2, h3⟩ := hok
        exact ⟨g', 0, rfl, by simp only [RepS]; exact ⟨⟨_, h3, rfl, by simp only [Rep]; exact ⟨i, h1, h2, by simp, rfl⟩⟩, trivial⟩⟩
      · simp at hr
    · simp at hr
  | _ => simp [rd] at hr

theorem loadCells_sound {cs : List PV} {b o : Nat} {n : Nat} {F : Nat → Prop} (hc : RepS β n F w cs b o) :
    ∃ xs : List Value, (loadCells ⟨b, o, none⟩ cs.length).run P w = .ok xs.toArray w ∧ RepL β n F w cs xs ∧ ∀ v ∈ xs, v.oneCell' = true := by
  obtain ⟨xs, h1, h2, h3, h4⟩ := hc.vals
  refine ⟨xs, ?_, h2, h3⟩
  rw [← h1]
  exact run_loadCells_list w ⟨b, o, none⟩ xs (fun j v hv => by rw [Addr.add_lit]; exact h4 j v hv)

theorem loadVar_sound {t n : Nat} {cs : List PV} {v : PV} {b o m : Nat} {F : Nat → Prop} (hz : szT P t = some n) (hv : mkV (aggB P t) n cs = some v) (hc : RepS β m F w cs b o) :
    ∃ xv, (loadVar t ⟨b, o, none⟩).run P w = .ok xv w ∧ Rep β m F w v xv := by
  obtain ⟨d, i, hd, hi, hn⟩ := szT_info hz
  unfold mkV at hv
  by_cases ha : aggB P t = true
  · rw [ha] at hv
    simp only [if_true] at hv
    split at hv
    · rename_i hle
      simp only [Option.some.injEq] at hv
      subst hv
      obtain ⟨xs, h1, h2, h3⟩ := loadCells_sound (P := P) (hc.take n)
      have hl : (cs.take n).length = n := by simp; omega
      rw [hl] at h1
      refine ⟨.agg xs.toArray, ?_, ?_⟩
      · simp [loadVar, run_isAgg hd, ha, run_sizeOf hz, h1]
      · simp only [Rep]; exact ⟨xs, rfl, h3, h2⟩
    · simp at hv
  · simp only [ha] at hv
    simp only [Bool.false_eq_true, if_false] at hv
    cases cs with
    | nil => simp at hv
    | cons c cs =>
      simp at hv
      subst hv
      simp only [RepS] at hc
      obtain ⟨⟨xv, h1, h2, h3⟩, _⟩ := hc
      refine ⟨xv, ?_, h3⟩
      have ha' : aggB P t = false := by simpa using ha
      simp [loadVar, run_isAgg hd, ha', h1]

/-- the block of an object lies in memory -/
theorem Sim.blk_lt (sm : Sim β h w) {id b : Nat} {o : AObj} (ho : h.obj id = some o) (hb : (β id).b = some b) : b < w.heap.size := by
  have hin := sm.ok id o ho
  cases o with
  | arr z rows =>
    simp only [ObjOk] at hin
    rcases hin.2 with ⟨h5, _⟩ | ⟨b', c, t, fr, h5, h6, _⟩
    · rw [h5] at hb; simp at hb
    · rw [h5] at hb; simp at hb; subst hb; exact (Array.getElem?_eq_some_iff.1 h6).1
  | map es =>
    simp only [ObjOk] at hin
    obtain ⟨b', fs, cl, h5, h6, _⟩ := hin
    rw [h5] at hb; simp at hb; subst hb; exact (Array.getElem?_eq_some_iff.1 h6).1
  | glb g lo hi =>
    simp only [ObjOk] at hin
    rw [hin.1] at hb; simp at hb
/-- a new block that is no object's -/
theorem Sim.junk (sm : Sim β h w) (o : Obj) : Sim β h (w.alloc o) ∧ Ext β h w β h (w.alloc o) ∧ Fz β h (w.alloc o) w.heap.size := by
  have e : Ext β h w β h (w.alloc o) := ⟨rfl, rfl, rfl, by simp, Nat.le_refl _, fun _ _ => rfl, rfl, fun b _ hl => heap_alloc_old w _ hl, fun b hb => ⟨⟨by have := hb.1; simp; omega, hb.2⟩, heap_alloc_old w _ hb.1⟩⟩
  refine ⟨⟨sm.lt, fun id o' ho => ObjOk.mv e.mv (fun b hbb => heap_alloc_old w _ (sm.blk_lt ho hbb)) (sm.ok id o' ho), sm.inj, fun b hb => by have := sm.xs b hb; simp; omega, sm.nx⟩, e, ⟨by simp, fun id hid hbb => ?_, fun hx => by have := sm.xs _ hx; omega⟩⟩
  have := sm.blk_lt (Option.eq_some_of_isSome hid) hbb
  omega
/-- elements as they lie in a row of cells -/
def RowsAt (β : Env) (n : Nat) (F : Nat → Prop) (w : World) (z : Nat) (rows : List (List PV)) (c : Array Value) : Prop :=
  ∀ (i : Nat) (r : List PV), rows[i]? = some r → r.length = z ∧ ∀ (j : Nat) (p : PV), r[j]? = some p → ∃ v, c[i * z + j]? = some v ∧ v.oneCell' = true ∧ Rep β n F w p v
theorem RowsAt.rep {n n' : Nat} {F F' : Nat → Prop} {z b : Nat} {rows : List (List PV)} {c : Array Value} {e : TypeId} {fr : Nat × Nat} (hr : RowsAt β n F w z rows c) (m : Mv β n F w β' n' F' w') (hb : w'.heap[b]? = some (.cells c e fr)) : RepR β' n' F' w' z rows b 0 := by
  rw [RepR_iff]
  intro i r hi
  obtain ⟨h1, h2⟩ := hr i r hi
  refine ⟨h1, ?_⟩
  rw [RepS_iff]
  intro j p hp
  obtain ⟨v, h3, h4, h5⟩ := h2 j p hp
  exact ⟨v, by rw [cell_of_row _ _ _ c e fr hb, Nat.zero_add]; exact h3, h4, Rep.mv m p v h5⟩
/-- a new object out of a new block -/
theorem Sim.newRows (sm : Sim β h w) (z : Nat) (rows : List (List PV)) (c : Array Value) (e : TypeId) (hr : RowsAt β h.next (Fz β h w) w z rows c) (hlen : rows.length * z ≤ c.size) :
    Sim ⟨fun id => if id = h.next then ⟨some w.heap.size, 0, z, c.size⟩ else β id, β.X⟩ (h.new (.arr z rows)) (w.alloc (.cells c e)) ∧
    Ext β h w ⟨fun id => if id = h.next then ⟨some w.heap.size, 0, z, c.size⟩ else β id, β.X⟩ (h.new (.arr z rows)) (w.alloc (.cells c e)) := by
  refine Sim.step sm h.next (.arr z rows) rfl rfl rfl (by simp) (by simp [Heap.new]) (fun id hid => by simp; intro e; omega) (by simp [Heap.new]) (by simp [Heap.new]) (fun id hne => .inr (by simp [Heap.new, hne])) (fun b hb => .inl (by simp at hb; omega)) (fun b hb _ => heap_alloc_old w _ hb) (fun m => ?_)
  simp only [ObjOk, if_true]
  exact ⟨trivial, .inr ⟨w.heap.size, c, e, (0, 0), rfl, heap_alloc_new w _, rfl, by omega, fun i _ => by simp, hr.rep m (heap_alloc_new w _)⟩⟩
theorem RowsAt.of_flat {n : Nat} {F : Nat → Prop} {z : Nat} {c : Array Value} : {rows : List (List PV)} → {xs : List Value} → (∀ r ∈ rows, r.length = z) → RepL β n F w rows.flatten xs → (∀ v ∈ xs, v.oneCell' = true) → (∀ (j : Nat) (v : Value), xs[j]? = some v → c[j]? = some v) → RowsAt β n F w z rows c := by
  intro rows xs hz hrep h1 hc i r hi
  have hil : i < rows.length := (List.getElem?_eq_some_iff.1 hi).1
  refine ⟨hz r (List.mem_of_getElem? hi), fun j p hp => ?_⟩
  have hjl : j < r.length := (List.getElem?_eq_some_iff.1 hp).1
  have hflat : rows.flatten[i * z + j]? = some p := by
    clear hrep h1 hc
    induction rows generalizing i with
    | nil => simp at hil
    | cons r0 rs ih =>
      have hr0 := hz r0 (by simp)
      simp only [List.flatten_cons]
      cases i with
      | zero =>
        simp at hi; subst hi
        rw [Nat.zero_mul, Nat.zero_add, List.getElem?_append_left hjl]; exact hp
      | succ i =>
        rw [List.getElem?_append_right (by rw [Nat.succ_mul]; omega)]
        rw [show (i + 1) * z + j - r0.length = i * z + j by rw [Nat.succ_mul]; omega]
        exact ih (fun q hq => hz q (by simp [hq])) i (by simpa using hi) (by simpa using hil)
  obtain ⟨v, hv, hr⟩ := hrep.get hflat
  exact ⟨v, hc _ v hv, h1 v (List.mem_of_getElem? hv), hr⟩
theorem Sim.newArr (sm : Sim β h w) (z : Nat) (rows : List (List PV)) (c : Array Value) (e : TypeId) (xs : List Value) (hz : ∀ r ∈ rows, r.length = z)
    (hrep : RepL β h.next (Fz β h w) w rows.flatten xs) (h1 : ∀ v ∈ xs, v.oneCell' = true) (hc : ∀ (j : Nat) (v : Value), xs[j]? = some v → c[j]? = some v) (hlen : rows.length * z ≤ c.size) :
    Sim ⟨fun id => if id = h.next then ⟨some w.heap.size, 0, z, c.size⟩ else β id, β.X⟩ (h.new (.arr z rows)) (w.alloc (.cells c e)) ∧
    Ext β h w ⟨fun id => if id = h.next then ⟨some w.heap.size, 0, z, c.size⟩ else β id, β.X⟩ (h.new (.arr z rows)) (w.alloc (.cells c e)) :=
  Sim.newRows sm z rows c e (RowsAt.of_flat hz hrep h1 hc) hlen
/-- a new object without memory -/
theorem Sim.newNone (sm : Sim β h w) (z : Nat) :
    Sim ⟨fun id => if id = h.next then ⟨none, 0, z, 0⟩ else β id, β.X⟩ (h.new (.arr z [])) w ∧
    Ext β h w ⟨fun id => if id = h.next then ⟨none, 0, z, 0⟩ else β id, β.X⟩ (h.new (.arr z [])) w := by
  refine Sim.step sm h.next (.arr z []) rfl rfl rfl (Nat.le_refl _) (by simp [Heap.new]) (fun id hid => by simp; intro e; omega) (by simp [Heap.new]) (by simp [Heap.new]) (fun id hne => .inr (by simp [Heap.new, hne])) (fun b hb => by simp at hb) (fun b _ _ => rfl) (fun m => ?_)
  simp [ObjOk]

theorem run_newVar (t : TypeId) (x : Value) (w : World) : (newVar t x).run P w = .ok ⟨w.heap.size, 0, none⟩ (w.alloc (.cells x.cells t)) := by
  simp [newVar, newRow]

/-- a variable of its own -/
theorem newVar_sound (sm : Sim β h w) (t : TypeId) (x : Value) (cs : List PV) (hx : RepL β h.next (Fz β h w) w cs x.cells.toList) (h1 : ∀ v ∈ x.cells.toList, v.oneCell' = true) :
    ∃ β', Sim β' (h.new (.arr cs.length [cs])) (w.alloc (.cells x.cells t)) ∧ Ext β h w β' (h.new (.arr cs.length [cs])) (w.alloc (.cells x.cells t)) ∧
      RepH β' (h.new (.arr cs.length [cs])) (w.alloc (.cells x.cells t)) (.ptr h.next 0 0) (.pointer (some ⟨w.heap.size, 0, none⟩)) := by
  have hl := hx.len
  obtain ⟨a1, a2⟩ := Sim.newArr sm cs.length [cs] x.cells t x.cells.toList (by simp) (by simpa using hx) h1 (fun j v hv => by simpa using hv) (by simp at hl ⊢; omega)
  refine ⟨_, a1, a2, ?_⟩
  simp [RepH, Rep, Heap.new]
/-- a variable that is never written again -/
theorem newConst_sound (sm : Sim β h w) (t : TypeId) (x : Value) (cs : List PV) (hx : RepL β h.next (Fz β h w) w cs x.cells.toList) (h1 : ∀ v ∈ x.cells.toList, v.oneCell' = true) :
    Sim β h (w.alloc (.cells x.cells t)) ∧ Ext β h w β h (w.alloc (.cells x.cells t)) ∧
      RepH β h (w.alloc (.cells x.cells t)) (.cptr cs) (.pointer (some ⟨w.heap.size, 0, none⟩)) := by
  obtain ⟨s1, e, hF⟩ := sm.junk (.cells x.cells t)
  refine ⟨s1, e, ?_⟩
  simp only [RepH, Rep]
  refine ⟨w.heap.size, 0, hF, rfl, ?_⟩
  · rw [RepS_iff]
    intro j p hp
    obtain ⟨v, hv, hr⟩ := hx.get hp
    refine ⟨v, ?_, h1 v (List.mem_of_getElem? hv), Rep.mv e.mv p v hr⟩
    rw [cell_of_row _ _ _ _ _ (0, 0) (heap_alloc_new w _), Nat.zero_add]
    simpa using hv
end
end Go.AM
