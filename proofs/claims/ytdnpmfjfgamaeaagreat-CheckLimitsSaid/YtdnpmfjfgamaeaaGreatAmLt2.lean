/- Any order of a region ends as the order of the text: changes of single objects. -/
import Derived.Test.YtdnpmfjfgamaeaaGreatAmLt
set_option linter.unusedVariables false
set_option linter.unusedSimpArgs false
set_option linter.unusedSectionVars false
namespace Go.AM
section
variable {P : Program} {ow : Nat → Bool} {wf : FuncId → Bool} {n : Nat} {ops : List Oper} {base : Nat}
structure DOk3 (ops : List Oper) : Prop where
  back : ∀ (j : Nat) (o : Oper), ops[j]? = some o → ∀ e ∈ o.after.toList, Region.binds .any e = true → e.on < j
  nosel : ∀ (j : Nat) (o : Oper), ops[j]? = some o → ∀ cs b, o.op ≠ .select cs b
  slot : ∀ (i j : Nat) (q o : Oper), i ≠ j → ops[i]? = some q → ops[j]? = some o → ∀ d, q.dst = some d → d ∈ looks ops o → pre ops i j = true ∨ pre ops j i = true
theorem DOk3.of {ops : List Oper} (h : dOk3 ops = true) : DOk3 ops := by
  unfold dOk3 at h
  rw [List.all_eq_true] at h
  have hm : ∀ (j : Nat) (o : Oper), ops[j]? = some o → _ := fun j o ho => h (o, j) (List.mem_zipIdx_iff_getElem?.2 ho)
  refine ⟨fun j o ho e he hb => ?_, fun j o ho cs b hsel => ?_, fun i j q o hij hq ho d hd hl => ?_⟩
  · have h0 := hm j o ho
    simp only [Bool.and_eq_true, List.all_eq_true] at h0
    have := h0.1.1 e he
    simpa [hb] using this
  · have h0 := hm j o ho
    simp only [Bool.and_eq_true] at h0
    have := h0.1.2
    rw [hsel] at this
    simp at this
  · have h0 := hm j o ho
    simp only [Bool.and_eq_true, List.all_eq_true] at h0
    have := h0.2 (q, i) (List.mem_zipIdx_iff_getElem?.2 hq)
    simp only [Bool.or_eq_true, Bool.and_eq_true, beq_iff_eq, hd, Bool.not_eq_true'] at this
    rcases this with h1 | h1
    · exact absurd h1 hij
    · rcases h1 with (h1 | h1) | h1
      · rw [List.contains_iff_mem.2 hl] at h1; simp at h1
      · exact .inl h1
      · exact .inr h1

theorem pre_lt3 {ops : List Oper} (hd : DOk3 ops) : ∀ (j i : Nat), j < ops.length → pre ops i j = true → i < j := by
  intro j
  induction j using Nat.strongRecOn with
  | _ j ih =>
    intro i hj hp
    obtain ⟨e, h1, h2, h3⟩ := pre_spec (List.getElem?_eq_getElem hj) hp
    have hlt := hd.back j _ (List.getElem?_eq_getElem hj) e h1 h2
    rcases h3 with rfl | ⟨h4, h5⟩
    · exact hlt
    · exact Nat.lt_trans (ih e.on h4 i (by omega) h5) h4

variable {sk : Nat → Slots} {hk : Nat → Heap} {vk : Nat → PV} {lt : Nat → Option (Nat × AObj)} {br : Nat → Bool}
theorem Facts.slot_const (tr : Facts P ow wf n ops base sk hk vk lt br) {t : Nat} {i : Nat} : ∀ d, i + d ≤ ops.length → (∀ j, i ≤ j → j < i + d → wrB ops t j = false) → sk (i + d) t = sk i t
  | 0, _, _ => rfl
  | d + 1, hd, hw => by
    have ih := Facts.slot_const tr (t := t) (i := i) d (by omega) (fun j h1 h2 => hw j h1 (by omega))
    rw [← ih]
    have hlt : i + d < ops.length := by omega
    obtain ⟨_, b, h1, h2, h3⟩ := tr.step (i + d) ops[i + d] (List.getElem?_eq_getElem hlt)
    have hnw := hw (i + d) (by omega) (by omega)
    simp only [wrB, List.getElem?_eq_getElem hlt, Option.bind_some, decide_eq_false_iff_not] at hnw
    have hupd : ∀ v, updO (sk (i + d)) ops[i + d].dst v t = sk (i + d) t := by
      intro v
      cases hdst : ops[i + d].dst with
      | none => rfl
      | some dd =>
        simp only [updO, upd]
        rw [if_neg]
        intro e; subst e; exact hnw hdst
    rw [show i + (d + 1) = i + d + 1 by omega]
    cases b with
    | false => rw [(h2 rfl).1]; exact hupd _
    | true => rw [(h3 rfl).1]; exact hupd _
/-- a slot that the next operation looks at holds what it holds in the text's walk -/
theorem Rdy.slot3 (hd : DOk3 ops) (tr : Facts P ow wf n ops base sk hk vk lt br) {S : Nat → Bool} {i : Nat} {o : Oper} (r : Rdy ops S i o) {t : Nat} (ht : t ∈ looks ops o) : valS ops sk S t = sk i t := by
  have hi : i < ops.length := (List.getElem?_eq_some_iff.1 r.at_).1
  obtain ⟨h1, h2, h3⟩ := lastOf_spec (fun j => S j && wrB ops t j) ops.length
  unfold valS
  generalize lastOf (fun j => S j && wrB ops t j) ops.length = m at *
  -- a writer of t that is not this operation comes before or behind it
  have ord : ∀ j, j < ops.length → j ≠ i → wrB ops t j = true → Go.AM.pre ops j i = true ∨ Go.AM.pre ops i j = true := by
    intro j hj hne hw
    simp only [wrB, List.getElem?_eq_getElem hj, Option.bind_some, decide_eq_true_eq] at hw
    exact hd.slot j i _ o hne (List.getElem?_eq_getElem hj) r.at_ t hw ht
  rcases Nat.lt_or_ge i m with h4 | h4
  · -- a writer behind i has been done: none can be
    rcases h2 with h2 | ⟨k, h2, h5⟩
    · omega
    · simp only [Bool.and_eq_true] at h5
      by_cases hki : k = i
      · subst hki; rw [r.new] at h5; simp at h5
      · rcases ord k (by omega) hki h5.2 with h6 | h6
        · have := pre_lt3 hd i k hi h6; omega
        · rw [r.not_pre (by omega) h5.1] at h6; simp at h6
  · have := tr.slot_const (t := t) (i := m) (i - m) (by omega) (fun j h5 h6 => ?_)
    · rw [show m + (i - m) = i by omega] at this; exact this.symm
    · cases hw : wrB ops t j with
      | false => rfl
      | true =>
        have hns := h3 j h5 (by omega)
        rw [hw, Bool.and_true] at hns
        rcases ord j (by omega) (by omega) hw with h7 | h7
        · rw [r.bef h7] at hns; simp at hns
        · have := pre_lt3 hd j i (by omega) h7; omega

/-- the slots and the heap behind the next operation -/
theorem Rdy.next3 (hd : DOk3 ops) (tr : Facts P ow wf n ops base sk hk vk lt br) {S S' : Nat → Bool} {i : Nat} {o : Oper} (r : Rdy ops S i o) (hs' : S' i = true) (ho : ∀ j, j ≠ i → S' j = S j) {x : PV} (hx : sk (i + 1) = updO (sk i) o.dst x) :
    updO (valS ops sk S) o.dst x = valS ops sk S' := by
  have hi : i < ops.length := (List.getElem?_eq_some_iff.1 r.at_).1
  funext t
  have hwr : wrB ops t i = decide (o.dst = some t) := by simp [wrB, r.at_]
  by_cases ht : o.dst = some t
  · have hl : t ∈ looks ops o := by simp [looks, ht]
    have h1 : updO (valS ops sk S) o.dst x t = x := by rw [ht]; simp [updO, upd]
    have h2 : sk (i + 1) t = x := by rw [hx, ht]; simp [updO, upd]
    rw [h1, ← h2]
    unfold valS
    rw [lastOf_eq (m := i + 1) (by omega) (.inr ⟨i, rfl, by rw [hs', hwr]; simp [ht]⟩)]
    intro j h3 h4
    cases hw : wrB ops t j with
    | false => simp
    | true =>
      cases hsj : S' j with
      | false => simp
      | true =>
        rw [ho j (by omega)] at hsj
        simp only [wrB, List.getElem?_eq_getElem h4, Option.bind_some, decide_eq_true_eq] at hw
        rcases hd.slot j i _ o (by omega) (List.getElem?_eq_getElem h4) r.at_ t hw hl with h7 | h7
        · have := pre_lt3 hd i j hi h7; omega
        · rw [r.not_pre h4 hsj] at h7; simp at h7
  · have h1 : updO (valS ops sk S) o.dst x t = valS ops sk S t := by
      cases hdst : o.dst with
      | none => rfl
      | some d =>
        simp only [updO, upd]
        rw [if_neg]
        intro e; subst e; exact ht hdst
    rw [h1]
    unfold valS
    rw [lastOf_congr ops.length (fun j hj => ?_)]
    by_cases hji : j = i
    · subst hji; rw [hwr]; simp [ht]
    · rw [ho j hji]

/-! Objects laid over a heap, one change after the other. -/
theorem lob_succ {p : Nat → Bool} {H : Heap} {m : Nat} : lob lt p H (m + 1) = match lt m with
    | some q => if p m = true then (lob lt p H m).set q.1 q.2 else lob lt p H m
    | none => lob lt p H m := rfl
theorem lob_next {p : Nat → Bool} {H : Heap} : ∀ m, (lob lt p H m).next = H.next
  | 0 => rfl
  | m + 1 => by
    unfold lob
    split
    · split
      · exact lob_next m
      · exact lob_next m
    · exact lob_next m
theorem lob_congr {p q : Nat → Bool} {H : Heap} : ∀ m, (∀ f, f < m → (lt f).isSome = true → p f = q f) → lob lt p H m = lob lt q H m
  | 0, _ => rfl
  | m + 1, h => by
    have ih := lob_congr (H := H) m (fun f hf => h f (by omega))
    unfold lob
    cases hl : lt m with
    | none => exact ih
    | some x => simp only [h m (by omega) (by rw [hl]; rfl), ih]
theorem lob_hi {p : Nat → Bool} {H : Heap} {m : Nat} : ∀ d, (∀ f, m ≤ f → f < m + d → (lt f).isSome = true → p f = false) → lob lt p H (m + d) = lob lt p H m
  | 0, _ => rfl
  | d + 1, h => by
    have ih := lob_hi (H := H) d (fun f h1 h2 => h f h1 (by omega))
    rw [show m + (d + 1) = m + d + 1 by omega, lob_succ]
    cases hl : lt (m + d) with
    | none => exact ih
    | some x => simp only [h (m + d) (by omega) (by omega) (by rw [hl]; rfl), Bool.false_eq_true, if_false]; exact ih
theorem set_comm {H : Heap} {i j : Nat} {a b : AObj} (h : i ≠ j) : (H.set i a).set j b = (H.set j b).set i a := heap_ext rfl fun k => by
  simp only [Heap.set]
  by_cases h1 : k = i
  · by_cases h2 : k = j
    · exact (h (h1 ▸ h2)).elim
    · simp [h1, h]
  · simp [h1]
theorem lob_add {p p' : Nat → Bool} {H : Heap} {x id : Nat} {ob : AObj} (hx : lt x = some (id, ob)) (h1 : p x = false) (h2 : p' x = true) (h3 : ∀ f, f ≠ x → p' f = p f) : ∀ m, x < m → (∀ f q, x < f → f < m → p f = true → lt f = some q → q.1 ≠ id) → lob lt p' H m = (lob lt p H m).set id ob
  | 0, h, _ => by omega
  | m + 1, h, h4 => by
    by_cases hm : m = x
    · subst hm
      unfold lob
      rw [hx]
      simp only [h1, h2, if_true, Bool.false_eq_true, if_false]
      rw [lob_congr m (fun f hf _ => h3 f (by omega))]
    · have ih := lob_add hx h1 h2 h3 (H := H) m (by omega) (fun f q a b => h4 f q a (by omega))
      unfold lob
      cases hl : lt m with
      | none => exact ih
      | some q =>
        simp only [h3 m hm]
        split
        · rename_i hp
          rw [ih, set_comm (fun e => h4 m q (by omega) (by omega) hp hl e.symm)]
        · exact ih
theorem lob_obj {p q : Nat → Bool} {H : Heap} {id : Nat} : ∀ m, (∀ f x, f < m → lt f = some x → x.1 = id → p f = q f) → (lob lt p H m).obj id = (lob lt q H m).obj id
  | 0, _ => rfl
  | m + 1, h => by
    have ih := lob_obj (H := H) m (fun f x hf => h f x (by omega))
    unfold lob
    cases hl : lt m with
    | none => exact ih
    | some x =>
      by_cases hx : x.1 = id
      · simp only [h m x (by omega) hl hx]
        split
        · simp [Heap.set, hx]
        · exact ih
      · have hx' : ¬ id = x.1 := fun e => hx e.symm
        cases p m <;> cases q m <;> simp [Heap.set, hx', ih]
theorem lob_none {p : Nat → Bool} {H : Heap} {id : Nat} : ∀ m, (∀ f x, f < m → p f = true → lt f = some x → x.1 ≠ id) → (lob lt p H m).obj id = H.obj id := fun m h => by
  rw [lob_obj (q := fun _ => false) m (fun f x hf hl he => by
    cases hp : p f with
    | false => rfl
    | true => exact (h f x hf hp hl he).elim)]
  have := lob_hi (lt := lt) (p := fun _ => false) (H := H) (m := 0) m (fun _ _ _ _ => rfl)
  rw [Nat.zero_add] at this
  rw [this]; rfl
theorem kill_set {H : Heap} {l : List Nat} {id : Nat} {ob : AObj} : killL (H.set id ob) l = if l.contains id = true then killL H l else (killL H l).set id ob := by
  split
  · rename_i hc
    refine heap_ext rfl fun j => ?_
    have hm : id ∈ l := by simpa using hc
    simp only [killL, Heap.set]
    by_cases hj : j = id
    · subst hj; simp [hm]
    · simp [hj]
  · rename_i hc
    refine heap_ext rfl fun j => ?_
    simp only [killL, Heap.set]
    by_cases hj : j = id
    · subst hj; simp only [hc, if_true]; simp
    · simp [hj]
theorem lob_kill {p q : Nat → Bool} {H : Heap} {l : List Nat} : ∀ m, (∀ f x, f < m → lt f = some x → p f = q f ∨ x.1 ∈ l) → killL (lob lt p H m) l = killL (lob lt q H m) l
  | 0, _ => rfl
  | m + 1, h => by
    have ih := lob_kill (H := H) m (fun f x hf => h f x (by omega))
    unfold lob
    cases hl : lt m with
    | none => exact ih
    | some x =>
      rcases h m x (by omega) hl with he | he
      · simp only [he]
        split
        · rw [kill_set, kill_set, ih]
        · exact ih
      · have hc : l.contains x.1 = true := by simpa using he
        cases p m <;> cases q m <;> simp only [kill_set, hc, if_true, ih, Bool.false_eq_true, if_false]
theorem lob_split {p : Nat → Bool} {H : Heap} {j : Nat} : ∀ d, lob lt p H (j + d) = lob lt (fun f => decide (j ≤ f) && p f) (lob lt p H j) (j + d)
  | 0 => by
    have := lob_hi (lt := lt) (p := fun f => decide (j ≤ f) && p f) (H := lob lt p H j) (m := 0) j (fun f _ hf _ => by simp [show ¬ j ≤ f by omega])
    rw [Nat.zero_add] at this
    rw [Nat.add_zero, this]; rfl
  | d + 1 => by
    have ih := lob_split (p := p) (H := H) (j := j) d
    rw [show j + (d + 1) = j + d + 1 by omega]
    conv => lhs; unfold lob
    conv => rhs; unfold lob
    simp only [ih, show decide (j ≤ j + d) = true by simp, Bool.true_and]

theorem after_conv (b : Nat → Nat) : ∀ (l : List Edge) (s i : Nat), (s.testBit i = true ∨ ∃ e ∈ l, Region.binds .any e = true ∧ (i = e.on ∨ (b e.on).testBit i = true)) → (l.foldl (fun s e => if Region.binds .any e then s ||| 2 ^ e.on ||| b e.on else s) s).testBit i = true
  | [], s, i, h => by
    rcases h with h | ⟨e, he, _⟩
    · exact h
    · simp at he
  | e :: l, s, i, h => by
    simp only [List.foldl_cons]
    refine after_conv b l _ i ?_
    rcases h with h | ⟨e', he', hb, hi⟩
    · left
      split
      · simp [Nat.testBit_or, h]
      · exact h
    · simp only [List.mem_cons] at he'
      rcases he' with rfl | he'
      · left
        rw [if_pos hb]
        rcases hi with rfl | hi
        · simp [Nat.testBit_or, Nat.testBit_two_pow_self]
        · simp [Nat.testBit_or, hi]
      · exact .inr ⟨e', he', hb, hi⟩
theorem pre_edge {i j : Nat} {o : Oper} {e : Edge} (ho : ops[j]? = some o) (he : e ∈ o.after.toList) (hb : Region.binds .any e = true) (hlt : e.on < j) (hi : i = e.on ∨ pre ops i e.on = true) : pre ops i j = true := by
  unfold pre at hi ⊢
  have hbb : Region.before ops.toArray = ops.foldl (fun acc o => acc.push (o.after.foldl (fun s e => if Region.binds .any e then s ||| 2 ^ e.on ||| acc.getD e.on 0 else s) 0)) #[] := by
    unfold Region.before
    rw [← Array.foldl_toList]
  have h3 := (before_go (fun acc o => acc.push (o.after.foldl (fun s e => if Region.binds .any e then s ||| 2 ^ e.on ||| acc.getD e.on 0 else s) 0))
    (fun b o => o.after.toList.foldl (fun s e => if Region.binds .any e then s ||| 2 ^ e.on ||| b e.on else s) 0) (fun acc o => by rw [← Array.foldl_toList]) ops #[]).2.2 j o ho
  simp only [List.size_toArray, List.length_nil, Nat.zero_add] at h3
  rw [← hbb] at h3
  rw [h3]
  refine after_conv (fun m => if m < j then (Region.before ops.toArray).getD m 0 else 0) _ _ _ (.inr ⟨e, he, hb, hi.imp id fun h => ?_⟩)
  rw [if_pos hlt]; exact h
theorem pre_trans (hd : DOk3 ops) : ∀ (c : Nat) {a b : Nat}, c < ops.length → pre ops a b = true → pre ops b c = true → pre ops a c = true := by
  intro c
  induction c using Nat.strongRecOn with
  | _ c ih =>
    intro a b hc hab hbc
    obtain ⟨e, h1, h2, h3⟩ := pre_spec (List.getElem?_eq_getElem hc) hbc
    have hlt := hd.back c _ (List.getElem?_eq_getElem hc) e h1 h2
    refine pre_edge (List.getElem?_eq_getElem hc) h1 h2 hlt (.inr ?_)
    rcases h3 with rfl | ⟨_, h5⟩
    · exact hab
    · exact ih e.on hlt (by omega) hab h5
theorem fmap_congr {α γ : Type} {f g : α → Option γ} : ∀ {l : List α}, (∀ x ∈ l, f x = g x) → l.filterMap f = l.filterMap g
  | [], _ => rfl
  | x :: l, h => by
    have h1 := h x (by simp)
    have h2 := fmap_congr (f := f) (g := g) (l := l) (fun y hy => h y (by simp [hy]))
    simp only [List.filterMap_cons, h1, h2]

/-! The heap where the operations of S are done. -/
def MB (br : Nat → Bool) (ops : List Oper) (S : Nat → Bool) : Nat := lastOf (fun j => S j && br j) ops.length
/-- the objects that the text's walk has made and that are not there yet -/
def dl (lt : Nat → Option (Nat × AObj)) (br : Nat → Bool) (ops : List Oper) (S : Nat → Bool) : List Nat := (List.range ops.length).filterMap fun f => if (decide (f < MB br ops S) && !(S f)) = true then (lt f).map (·.1) else none
def Xs (lt : Nat → Option (Nat × AObj)) (br : Nat → Bool) (ops : List Oper) (hk : Nat → Heap) (S : Nat → Bool) : Heap := lob lt (fun f => decide (MB br ops S ≤ f) && S f) (hk (MB br ops S)) ops.length
def Hs (lt : Nat → Option (Nat × AObj)) (br : Nat → Bool) (ops : List Oper) (hk : Nat → Heap) (S : Nat → Bool) : Heap := killL (Xs lt br ops hk S) (dl lt br ops S)
theorem MB_spec {S : Nat → Bool} {j : Nat} (h1 : MB br ops S ≤ j) (h2 : j < ops.length) (h3 : S j = true) : br j = false := by
  have := (lastOf_spec (fun j => S j && br j) ops.length).2.2 j h1 h2
  simpa [h3] using this
theorem MB_last {S : Nat → Bool} : MB br ops S = 0 ∨ ∃ k, MB br ops S = k + 1 ∧ S k = true ∧ br k = true := by
  rcases (lastOf_spec (fun j => S j && br j) ops.length).2.1 with h | ⟨k, h1, h2⟩
  · exact .inl h
  · simp only [Bool.and_eq_true] at h2; exact .inr ⟨k, h1, h2⟩
theorem MB_le {S : Nat → Bool} : MB br ops S ≤ ops.length := (lastOf_spec _ _).1
theorem mem_dl {S : Nat → Bool} {id : Nat} : id ∈ dl lt br ops S ↔ ∃ f q, f < ops.length ∧ f < MB br ops S ∧ S f = false ∧ lt f = some q ∧ q.1 = id := by
  unfold dl
  rw [List.mem_filterMap]
  constructor
  · rintro ⟨f, hf, h1⟩
    split at h1
    · rename_i hc
      simp only [Bool.and_eq_true, decide_eq_true_eq, Bool.not_eq_true'] at hc
      cases hl : lt f with
      | none => simp [hl] at h1
      | some q => simp [hl] at h1; exact ⟨f, q, List.mem_range.1 hf, hc.1, hc.2, hl, h1⟩
    · simp at h1
  · rintro ⟨f, q, h1, h2, h3, h4, h5⟩
    exact ⟨f, List.mem_range.2 h1, by simp [h2, h3, h4, h5]⟩
theorem kill_kill {H : Heap} {l l' : List Nat} (h : ∀ id ∈ l, id ∈ l') : killL (killL H l) l' = killL H l' := heap_ext rfl fun j => by
  simp only [killL]
  by_cases h1 : j ∈ l'
  · simp [h1]
  · have : j ∉ l := fun h2 => h1 (h j h2)
    simp [h1, this]
theorem Facts.excl (tr : Facts P ow wf n ops base sk hk vk lt br) {j : Nat} (hj : j < ops.length) : br j = true → lt j = none := by
  intro hb
  obtain ⟨_, b, _, h1, h2⟩ := tr.step j ops[j] (List.getElem?_eq_getElem hj)
  cases b with
  | false => rw [(h1 rfl).2.2.2] at hb; simp at hb
  | true =>
    cases hw : isW ow wf ops[j] with
    | false => rw [((h2 rfl).2.1 hw).2.2.1] at hb; simp at hb
    | true =>
      rcases (h2 rfl).2.2 hw with h3 | h3 | h3
      · exact h3.2.1
      · rw [h3.1] at hb; simp at hb
      · rw [h3.1] at hb; simp at hb
/-- a change of one object: a new one, or a store -/
theorem Facts.kind (tr : Facts P ow wf n ops base sk hk vk lt br) {f : Nat} {q : Nat × AObj} (hf : f < ops.length) (hl : lt f = some q) :
    br f = false ∧ hk (f + 1) = (hk f).set q.1 q.2 ∧ ((isA ow ops[f] = true ∧ q.1 = base + f) ∨ (isA ow ops[f] = false ∧ ∀ g o, f < g → ops[g]? = some o → isA ow o = true → base + g ≠ q.1)) := by
  obtain ⟨_, b, _, h1, h2⟩ := tr.step f ops[f] (List.getElem?_eq_getElem hf)
  cases b with
  | false => rw [(h1 rfl).2.2.1] at hl; simp at hl
  | true =>
    cases hw : isW ow wf ops[f] with
    | false => rw [((h2 rfl).2.1 hw).2.1] at hl; simp at hl
    | true =>
      rcases (h2 rfl).2.2 hw with h3 | h3 | h3
      · rw [h3.2.1] at hl; simp at hl
      · obtain ⟨k1, k2, ob, k3, _, k4⟩ := h3
        rw [k3] at hl; simp at hl
        subst hl
        exact ⟨k1, k4, .inl ⟨k2, rfl⟩⟩
      · obtain ⟨k1, t, x, y, id, r, ff, ob, k2, _, k3, k4, k5, _⟩ := h3
        rw [k3] at hl; simp at hl
        subst hl
        exact ⟨k1, k4, .inr ⟨by unfold isA; rw [k2], k5⟩⟩
/-- where no other change stands -/
theorem Facts.hstep (tr : Facts P ow wf n ops base sk hk vk lt br) {j : Nat} (hj : j < ops.length) (hb : br j = false) : hk (j + 1) = match lt j with
    | some q => (hk j).set q.1 q.2
    | none => hk j := by
  cases hl : lt j with
  | some q => exact (tr.kind hj hl).2.1
  | none =>
    obtain ⟨_, b, _, h1, h2⟩ := tr.step j ops[j] (List.getElem?_eq_getElem hj)
    cases b with
    | false => exact (h1 rfl).2.1
    | true =>
      cases hw : isW ow wf ops[j] with
      | false => exact ((h2 rfl).2.1 hw).1
      | true =>
        rcases (h2 rfl).2.2 hw with h3 | h3 | h3
        · rw [h3.1] at hb; simp at hb
        · obtain ⟨_, _, ob, h4, _, _⟩ := h3
          rw [h4] at hl; simp at hl
        · obtain ⟨_, t, x, y, id, r, f, ob, _, _, h4, _, _⟩ := h3
          rw [h4] at hl; simp at hl
theorem Facts.seg (tr : Facts P ow wf n ops base sk hk vk lt br) {M : Nat} : ∀ d, M + d ≤ ops.length → (∀ j, M ≤ j → j < M + d → br j = false) → hk (M + d) = lob lt (fun f => decide (M ≤ f)) (hk M) (M + d)
  | 0, _, _ => by
    have := lob_hi (lt := lt) (p := fun f => decide (M ≤ f)) (H := hk M) (m := 0) M (fun f _ hf _ => by simp; omega)
    rw [Nat.zero_add] at this
    rw [Nat.add_zero, this]; rfl
  | d + 1, hd, hn => by
    have ih := Facts.seg tr d (by omega) (fun j h1 h2 => hn j h1 (by omega))
    have hs := tr.hstep (j := M + d) (by omega) (hn (M + d) (by omega) (by omega))
    rw [show M + (d + 1) = M + d + 1 by omega, hs]
    unfold lob
    cases hl : lt (M + d) with
    | none => simp only; rw [← ih]
    | some q => simp only [show decide (M ≤ M + d) = true by simp, if_true]; rw [← ih]
/-- the same as changes laid over the heap up to the end of the text -/
theorem Facts.segL (tr : Facts P ow wf n ops base sk hk vk lt br) {M i : Nat} (h1 : M ≤ i) (h2 : i ≤ ops.length) (hn : ∀ j, M ≤ j → j < i → br j = false) : hk i = lob lt (fun f => decide (M ≤ f) && decide (f < i)) (hk M) ops.length := by
  have h3 := tr.seg (M := M) (i - M) (by omega) (fun j a c => hn j a (by omega))
  rw [show M + (i - M) = i by omega] at h3
  obtain ⟨d, hdd⟩ : ∃ d, ops.length = i + d := ⟨ops.length - i, by omega⟩
  rw [h3, hdd, lob_hi d (fun f a _ _ => by simp; omega)]
  exact lob_congr _ fun f hf _ => by simp [hf]
theorem Facts.noneH (tr : Facts P ow wf n ops base sk hk vk lt br) (h0 : ∀ f, (hk 0).obj (base + f) = none) : ∀ j, j ≤ ops.length → ∀ f q, j ≤ f → ops[f]? = some q → isA ow q = true → (hk j).obj (base + f) = none
  | 0, _, f, _, _, _, _ => h0 f
  | j + 1, hj, f, q, hle, hq, ha => by
    have ih := Facts.noneH tr h0 j (by omega) f q (by omega) hq ha
    obtain ⟨_, b, _, h1, h2⟩ := tr.step j ops[j] (List.getElem?_eq_getElem (by omega))
    cases b with
    | false => rw [(h1 rfl).2.1]; exact ih
    | true =>
      cases hw : isW ow wf ops[j] with
      | false => rw [((h2 rfl).2.1 hw).1]; exact ih
      | true =>
        rcases (h2 rfl).2.2 hw with h3 | h3 | h3
        · exact h3.2.2.2 f q (by omega) hq ha
        · obtain ⟨_, _, ob, _, _, h5⟩ := h3
          rw [h5]; simp only [Heap.set]; rw [if_neg (by omega)]; exact ih
        · obtain ⟨_, t, x, y, id, r, f', ob, _, _, h4, h5, h6, _⟩ := h3
          rw [h5]; simp only [Heap.set]; rw [if_neg (h6 f q (by omega) hq ha)]; exact ih
theorem mem_kx {x f : Nat} {q : Nat × AObj} (hf : f < ops.length) (h0 : x ≠ f) (h2 : pre ops f x = false) (h1 : pre ops x f = false ∨ isA ow ops[f] = true) (hl : lt f = some q) : q.1 ∈ kx ow ops lt x := by
  unfold kx
  rw [List.mem_filterMap]
  refine ⟨f, List.mem_range.2 hf, ?_⟩
  rw [List.getElem?_eq_getElem hf]
  rcases h1 with h1 | h1 <;> simp [h0, h1, h2, hl]
theorem kx_mem {x id : Nat} (h : id ∈ kx ow ops lt x) : ∃ f q, ∃ hf : f < ops.length, x ≠ f ∧ pre ops f x = false ∧ (pre ops x f = false ∨ isA ow ops[f] = true) ∧ lt f = some q ∧ q.1 = id := by
  unfold kx at h
  rw [List.mem_filterMap] at h
  obtain ⟨f, hf, h1⟩ := h
  have hf' := List.mem_range.1 hf
  split at h1
  · rename_i hc
    rw [List.getElem?_eq_getElem hf'] at hc
    simp only [Bool.and_eq_true, Bool.or_eq_true, Bool.not_eq_true', beq_eq_false_iff_ne, Option.any_some] at hc
    cases hl : lt f with
    | none => simp [hl] at h1
    | some q => simp [hl] at h1; exact ⟨f, q, hf', hc.1.1, hc.1.2, hc.2, hl, h1⟩
  · simp at h1

/-- all that closes has been done up to the last one -/
theorem Rdy.closedB (tr : Facts P ow wf n ops base sk hk vk lt br) {S : Nat → Bool} {i : Nat} {o : Oper} (r : Rdy ops S i o) {b : Nat} (hb : b < MB br ops S) (hbr : br b = true) : S b = true := by
  rcases MB_last (br := br) (ops := ops) (S := S) with h | ⟨k, h1, h2, h3⟩
  · omega
  · have hkl : k < ops.length := by have := MB_le (br := br) (ops := ops) (S := S); omega
    by_cases hbk : b = k
    · rw [hbk]; exact h2
    · rcases tr.ww b k (by omega) hkl (.inl hbr) (.inl h3) with h5 | ⟨p, q, _, h5, _⟩ | ⟨_, h5, _⟩ | ⟨h5, _⟩
      · exact r.closed.pre k b hkl h2 h5
      · rw [tr.excl hkl h3] at h5; simp at h5
      · rw [tr.excl hkl h3] at h5; simp at h5
      · rw [tr.excl (by omega) hbr] at h5; simp at h5
/-- a change of one object that has not been done, before the last one that closes: a new object -/
theorem Rdy.early (tr : Facts P ow wf n ops base sk hk vk lt br) {S : Nat → Bool} {i : Nat} {o : Oper} (r : Rdy ops S i o) {f : Nat} {q : Nat × AObj} (hf : f < MB br ops S) (hs : S f = false) (hl : lt f = some q) : ∃ hf : f < ops.length, isA ow ops[f] = true ∧ q.1 = base + f := by
  rcases MB_last (br := br) (ops := ops) (S := S) with h | ⟨k, h1, h2, h3⟩
  · omega
  · have hkl : k < ops.length := by have := MB_le (br := br) (ops := ops) (S := S); omega
    have hfl : f < ops.length := by omega
    have hfk : f ≠ k := fun e => by rw [e, h2] at hs; simp at hs
    refine ⟨hfl, ?_⟩
    have hA : isA ow ops[f] = true := by
      rcases tr.ww f k (by omega) hkl (.inr (by rw [hl]; rfl)) (.inl h3) with h5 | ⟨p, q', _, h5, _⟩ | ⟨_, h5, _⟩ | ⟨_, _, o2, h5, h6⟩
      · rw [r.closed.pre k f hkl h2 h5] at hs; simp at hs
      · rw [tr.excl hkl h3] at h5; simp at h5
      · rw [tr.excl hkl h3] at h5; simp at h5
      · rw [List.getElem?_eq_getElem hfl] at h5; simp at h5; rw [h5]; exact h6
    refine ⟨hA, ?_⟩
    rcases (tr.kind hfl hl).2.2 with h5 | h5
    · exact h5.2
    · rw [h5.1] at hA; simp at hA
/-- a change that is no new object stands behind all that has been closed -/
theorem Rdy.mb (tr : Facts P ow wf n ops base sk hk vk lt br) {S : Nat → Bool} {i : Nat} {o : Oper} (r : Rdy ops S i o) (hw : br i = true ∨ ((lt i).isSome = true ∧ isA ow o = false)) : MB br ops S ≤ i := by
  rcases MB_last (br := br) (ops := ops) (S := S) with h | ⟨k, h1, h2, h3⟩
  · omega
  · rcases Nat.lt_or_ge i (MB br ops S) with h4 | h4
    · have hki : k ≠ i := by intro e; subst e; rw [r.new] at h2; simp at h2
      have hkl : k < ops.length := by have := MB_le (br := br) (ops := ops) (S := S); omega
      rcases tr.ww i k (by omega) hkl (hw.imp id (·.1)) (.inl h3) with h5 | ⟨p, q, _, h5, _⟩ | ⟨_, h5, _⟩ | ⟨h5, _, o2, h6, h7⟩
      · rw [r.not_pre hkl h2] at h5; simp at h5
      · rw [tr.excl hkl h3] at h5; simp at h5
      · rw [tr.excl hkl h3] at h5; simp at h5
      · rw [r.at_] at h6; simp at h6; subst h6
        rcases hw with hw | hw
        · rw [tr.excl (by omega) hw] at h5; simp at h5
        · rw [h7] at hw; simp at hw
    · exact h4
theorem MB_same {S S' : Nat → Bool} {i : Nat} (hw : br i = false) (ho : ∀ j, j ≠ i → S' j = S j) : MB br ops S' = MB br ops S := by
  unfold MB
  refine lastOf_congr ops.length fun j hj => ?_
  by_cases hji : j = i
  · subst hji; simp [hw]
  · rw [ho j hji]
theorem Hs_same {S S' : Nat → Bool} {i : Nat} (hb : br i = false) (hl : lt i = none) (ho : ∀ j, j ≠ i → S' j = S j) : Hs lt br ops hk S' = Hs lt br ops hk S := by
  have h1 : Xs lt br ops hk S' = Xs lt br ops hk S := by
    unfold Xs
    rw [MB_same hb ho]
    refine lob_congr _ fun f hf hs => ?_
    have : f ≠ i := fun e => by rw [e, hl] at hs; simp at hs
    rw [ho f this]
  have h2 : dl lt br ops S' = dl lt br ops S := by
    unfold dl
    rw [MB_same hb ho]
    refine fmap_congr fun f hf => ?_
    by_cases hfi : f = i
    · rw [hfi, hl]; simp
    · rw [ho f hfi]
  unfold Hs
  rw [h1, h2]
/-- what is not there yet is hidden -/
theorem Rdy.dl_kx (tr : Facts P ow wf n ops base sk hk vk lt br) {S : Nat → Bool} {i : Nat} {o : Oper} (r : Rdy ops S i o) (hli : lt i = none) : ∀ id ∈ dl lt br ops S, id ∈ kx ow ops lt i := by
  intro id hid
  obtain ⟨f, q, h1, h2, h3, h4, h5⟩ := mem_dl.1 hid
  obtain ⟨_, hA, _⟩ := r.early tr h2 h3 h4
  rw [← h5]
  refine mem_kx h1 (fun e => by rw [← e, hli] at h4; simp at h4) ?_ (.inr hA) h4
  cases hp : Go.AM.pre ops f i with
  | false => rfl
  | true => rw [r.bef hp] at h3; simp at h3
/-- what leaves the heap -/
theorem Rdy.quiet (hd : DOk3 ops) (tr : Facts P ow wf n ops base sk hk vk lt br) {S : Nat → Bool} {i : Nat} {o : Oper} (r : Rdy ops S i o) (hli : lt i = none) : cutOk ops br i (MB br ops S) ∧ ∀ l, (∀ id ∈ kx ow ops lt i, id ∈ l) → killL (Hs lt br ops hk S) l = gx ops lt hk i (MB br ops S) l := by
  refine ⟨⟨MB_le, fun b hb hbr => ?_, fun b hb hbr => ?_, ?_⟩, ?_⟩
  · exact r.not_pre (by have := MB_le (br := br) (ops := ops) (S := S); omega) (r.closedB tr hb hbr)
  · cases hp : Go.AM.pre ops b i with
    | false => rfl
    | true =>
      have hil : i < ops.length := (List.getElem?_eq_some_iff.1 r.at_).1
      have hbi := pre_lt3 hd i b hil hp
      rw [MB_spec hb (by omega) (r.bef hp)] at hbr; simp at hbr
  · rcases MB_last (br := br) (ops := ops) (S := S) with h | ⟨k, h1, h2, h3⟩
    · exact .inl h
    · exact .inr (by rw [h1]; exact h3)
  · intro l hkl
    unfold Hs gx
    rw [kill_kill (fun id hid => hkl id (r.dl_kx tr hli id hid))]
    unfold Xs
    refine lob_kill _ fun f x hf hl => ?_
    by_cases hM : MB br ops S ≤ f
    · simp only [hM, decide_true, Bool.true_and]
      cases hp : Go.AM.pre ops f i with
      | true => exact .inl (r.bef hp)
      | false =>
        cases hs : S f with
        | false => exact .inl rfl
        | true =>
          refine .inr (hkl _ <| mem_kx hf (fun e => by rw [← e, r.new] at hs; simp at hs) hp (.inl (r.not_pre hf hs)) hl)
    · exact .inl (by simp [hM])
/-- changes of one object: the others that have been done behind it are of other objects -/
theorem Rdy.others (tr : Facts P ow wf n ops base sk hk vk lt br) {S : Nat → Bool} {i id : Nat} {ob : AObj} {o : Oper} (r : Rdy ops S i o) (hl : lt i = some (id, ob)) :
    ∀ f q, f < ops.length → S f = true → lt f = some q → i < f → q.1 ≠ id := by
  have hil : i < ops.length := (List.getElem?_eq_some_iff.1 r.at_).1
  have hb : br i = false := (tr.kind hil hl).1
  intro f q hf hs hlf hif
  rcases tr.ww i f hif hf (.inr (by rw [hl]; rfl)) (.inr (by rw [hlf]; rfl)) with h5 | ⟨p, q', h5, h6, h7⟩ | ⟨h5, _⟩ | ⟨_, h5, _⟩
  · rw [r.not_pre hf hs] at h5; simp at h5
  · rw [hl] at h5; rw [hlf] at h6
    simp at h5 h6
    subst h5; subst h6
    exact fun e => h7 e.symm
  · rw [hb] at h5; simp at h5
  · rw [tr.excl hf h5] at hlf; simp at hlf
/-- a change of one object behind all that has been closed -/
theorem Rdy.light (tr : Facts P ow wf n ops base sk hk vk lt br) {S S' : Nat → Bool} {i id : Nat} {ob : AObj} {o : Oper} (r : Rdy ops S i o) (hl : lt i = some (id, ob)) (hM : MB br ops S ≤ i) (hid : id ∉ dl lt br ops S) (hs' : S' i = true) (ho : ∀ j, j ≠ i → S' j = S j) :
    Hs lt br ops hk S' = (Hs lt br ops hk S).set id ob := by
  have hil : i < ops.length := (List.getElem?_eq_some_iff.1 r.at_).1
  have hb : br i = false := (tr.kind hil hl).1
  have h1 : Xs lt br ops hk S' = (Xs lt br ops hk S).set id ob := by
    unfold Xs
    rw [MB_same hb ho]
    refine lob_add hl (by simp [r.new]) (by simp [hM, hs']) (fun f hf => by rw [ho f hf]) _ hil (fun f q hif hfl hp hlf => ?_)
    simp only [Bool.and_eq_true, decide_eq_true_eq] at hp
    exact r.others tr hl f q hfl hp.2 hlf hif
  have h2 : dl lt br ops S' = dl lt br ops S := by
    unfold dl
    rw [MB_same hb ho]
    refine fmap_congr fun f hf => ?_
    by_cases hfi : f = i
    · rw [hfi]; simp [show ¬ i < MB br ops S by omega]
    · rw [ho f hfi]
  unfold Hs
  rw [h1, h2, kill_set, if_neg (by simpa using hid)]
/-- a new object of an early operation stays what it is -/
theorem Facts.stays (tr : Facts P ow wf n ops base sk hk vk lt br) {S : Nat → Bool} {i : Nat} {ob : AObj} {o : Oper} (r : Rdy ops S i o) (hd : DOk3 ops) (hl : lt i = some (base + i, ob)) : ∀ d, i + 1 + d ≤ MB br ops S → (hk (i + 1 + d)).obj (base + i) = some ob
  | 0, hle => by
    have hil : i < ops.length := (List.getElem?_eq_some_iff.1 r.at_).1
    rw [Nat.add_zero, (tr.kind hil hl).2.1]
    simp [Heap.set]
  | d + 1, hle => by
    have hil : i < ops.length := (List.getElem?_eq_some_iff.1 r.at_).1
    have hML := MB_le (br := br) (ops := ops) (S := S)
    have ih := Facts.stays tr r hd hl d (by omega)
    have hjl : i + 1 + d < ops.length := by omega
    rw [show i + 1 + (d + 1) = i + 1 + d + 1 by omega]
    cases hb : br (i + 1 + d) with
    | true =>
      obtain ⟨_, b, _, h1, h2⟩ := tr.step (i + 1 + d) ops[i + 1 + d] (List.getElem?_eq_getElem hjl)
      cases b with
      | false => rw [(h1 rfl).2.2.2] at hb; simp at hb
      | true =>
        cases hw : isW ow wf ops[i + 1 + d] with
        | false => rw [((h2 rfl).2.1 hw).2.2.1] at hb; simp at hb
        | true =>
          rcases (h2 rfl).2.2 hw with h3 | h3 | h3
          · obtain ⟨_, _, ⟨H', _, _, h4⟩, _⟩ := h3
            have hS := r.closedB tr (by omega) hb
            have hk1 : base + i ∈ kx ow ops lt (i + 1 + d) := by
              refine mem_kx (q := (base + i, ob)) hil (by omega) (r.not_pre hjl hS) ?_ hl
              left
              cases hp : Go.AM.pre ops (i + 1 + d) i with
              | false => rfl
              | true => have := pre_lt3 hd i _ hil hp; omega
            rw [h4]
            simp only [putL]
            rw [if_pos ⟨by simpa using hk1, by rw [ih]; rfl⟩]
            exact ih
          · rw [h3.1] at hb; simp at hb
          · rw [h3.1] at hb; simp at hb
    | false =>
      rw [tr.hstep hjl hb]
      cases hlf : lt (i + 1 + d) with
      | none => exact ih
      | some q =>
        simp only [Heap.set]
        rw [if_neg]
        · exact ih
        · intro e
          -- a store into it stands behind it, and before the last one that closes
          rcases tr.ww i (i + 1 + d) (by omega) hjl (.inr (by rw [hl]; rfl)) (.inr (by rw [hlf]; rfl)) with h5 | ⟨p, q', h5, h6, h7⟩ | ⟨h5, _⟩ | ⟨_, h5, _⟩
          · cases hs : S (i + 1 + d) with
            | true => rw [r.not_pre hjl hs] at h5; simp at h5
            | false =>
              obtain ⟨_, _, h9⟩ := r.early tr (by omega) hs hlf
              omega
          · rw [hl] at h5; rw [hlf] at h6
            simp at h5 h6
            subst h5; subst h6
            exact h7 e
          · rw [(tr.kind hil hl).1] at h5; simp at h5
          · rw [hb] at h5; simp at h5
theorem Rdy.newA (hd : DOk3 ops) (tr : Facts P ow wf n ops base sk hk vk lt br) (h0 : ∀ f, (hk 0).obj (base + f) = none) {S S' : Nat → Bool} {i : Nat} {ob : AObj} {o : Oper} (r : Rdy ops S i o) (hA : isA ow o = true) (hl : lt i = some (base + i, ob)) (hs' : S' i = true) (ho : ∀ j, j ≠ i → S' j = S j) :
    Hs lt br ops hk S' = (Hs lt br ops hk S).set (base + i) ob ∧ (Hs lt br ops hk S).obj (base + i) = none := by
  have hil : i < ops.length := (List.getElem?_eq_some_iff.1 r.at_).1
  have hb : br i = false := (tr.kind hil hl).1
  -- no change that has been done is of this object
  have oth : ∀ f q, f < ops.length → S f = true → lt f = some q → q.1 ≠ base + i := by
    intro f q hf hs hlf
    have hfi : f ≠ i := fun e => by rw [e, r.new] at hs; simp at hs
    rcases Nat.lt_or_ge i f with h1 | h1
    · exact r.others tr hl f q hf hs hlf h1
    · rcases (tr.kind hf hlf).2.2 with h2 | h2
      · rw [h2.2]; omega
      · exact fun e => h2.2 i o (by omega) r.at_ hA e.symm
  have dlO : ∀ f q, f < MB br ops S → S f = false → lt f = some q → q.1 = base + i → f = i := by
    intro f q h1 h2 h3 h4
    obtain ⟨_, _, h5⟩ := r.early tr h1 h2 h3
    omega
  have hX : (Xs lt br ops hk S).obj (base + i) = (hk (MB br ops S)).obj (base + i) := by
    unfold Xs
    refine lob_none _ fun f q hf hp hlf => ?_
    simp only [Bool.and_eq_true] at hp
    exact oth f q hf hp.2 hlf
  rcases Nat.lt_or_ge i (MB br ops S) with hM | hM
  · have hin : base + i ∈ dl lt br ops S := mem_dl.2 ⟨i, _, hil, hM, r.new, hl, rfl⟩
    have hnone : (Hs lt br ops hk S).obj (base + i) = none := by
      unfold Hs; simp only [killL]; rw [if_pos (by simpa using hin)]
    refine ⟨?_, hnone⟩
    have hXX : Xs lt br ops hk S' = Xs lt br ops hk S := by
      unfold Xs
      rw [MB_same hb ho]
      refine lob_congr _ fun f hf _ => ?_
      by_cases hfi : f = i
      · rw [hfi]; simp [show ¬ MB br ops S ≤ i by omega]
      · rw [ho f hfi]
    have hst : (hk (MB br ops S)).obj (base + i) = some ob := by
      have := tr.stays r hd hl (MB br ops S - (i + 1)) (by omega)
      rwa [show i + 1 + (MB br ops S - (i + 1)) = MB br ops S by omega] at this
    refine heap_ext (by unfold Hs; rw [hXX]; rfl) fun j => ?_
    unfold Hs
    rw [hXX]
    simp only [killL, Heap.set]
    by_cases hj : j = base + i
    · rw [if_pos hj, if_neg, hj, hX, hst]
      rw [hj]
      intro hc
      obtain ⟨f, q, h1, h2, h3, h4, h5⟩ := mem_dl.1 (by simpa using hc)
      rw [MB_same hb ho] at h2
      by_cases hfi : f = i
      · rw [hfi, hs'] at h3; simp at h3
      · rw [ho f hfi] at h3
        exact hfi (dlO f q h2 h3 h4 h5)
    · rw [if_neg hj]
      have e : (dl lt br ops S').contains j = (dl lt br ops S).contains j := by
        rw [Bool.eq_iff_iff, List.contains_iff_mem, List.contains_iff_mem, mem_dl, mem_dl, MB_same hb ho]
        constructor
        · rintro ⟨f, q, h1, h2, h3, h4, h5⟩
          have hfi : f ≠ i := fun e => by rw [e, hs'] at h3; simp at h3
          exact ⟨f, q, h1, h2, by rw [← ho f hfi]; exact h3, h4, h5⟩
        · rintro ⟨f, q, h1, h2, h3, h4, h5⟩
          have hfi : f ≠ i := fun e => by
            rw [e, hl] at h4
            simp at h4
            rw [← h4] at h5
            exact hj h5.symm
          exact ⟨f, q, h1, h2, by rw [ho f hfi]; exact h3, h4, h5⟩
      rw [e]
  · have hnd : base + i ∉ dl lt br ops S := by
      intro hc
      obtain ⟨f, q, h1, h2, h3, h4, h5⟩ := mem_dl.1 hc
      have := dlO f q h2 h3 h4 h5
      omega
    refine ⟨r.light tr hl hM hnd hs' ho, ?_⟩
    unfold Hs
    simp only [killL]
    rw [if_neg (by simpa using hnd), hX]
    exact tr.noneH h0 _ MB_le i o hM r.at_ hA
/-- a store -/
theorem Rdy.stored (tr : Facts P ow wf n ops base sk hk vk lt br) {S : Nat → Bool} {i id : Nat} {ob : AObj} {o : Oper} (r : Rdy ops S i o) (hA : isA ow o = false) (hl : lt i = some (id, ob)) :
    MB br ops S ≤ i ∧ id ∉ dl lt br ops S ∧ (Hs lt br ops hk S).obj id = (hk i).obj id := by
  have hil : i < ops.length := (List.getElem?_eq_some_iff.1 r.at_).1
  have hb : br i = false := (tr.kind hil hl).1
  have hM := r.mb tr (.inr ⟨by rw [hl]; rfl, hA⟩)
  have ord : ∀ f q, f < i → lt f = some q → q.1 = id → S f = true := by
    intro f q hf hlf he
    rcases tr.ww f i hf hil (.inr (by rw [hlf]; rfl)) (.inr (by rw [hl]; rfl)) with h6 | ⟨p, q', h6, h7, h8⟩ | ⟨h6, _⟩ | ⟨_, h6, _⟩
    · exact r.bef h6
    · rw [hlf] at h6; rw [hl] at h7
      simp at h6 h7
      subst h6; subst h7
      exact (h8 he).elim
    · rw [tr.excl (by omega) h6] at hlf; simp at hlf
    · rw [hb] at h6; simp at h6
  have hnd : id ∉ dl lt br ops S := by
    intro hc
    obtain ⟨f, q, h1, h2, h3, h4, h5⟩ := mem_dl.1 hc
    rw [ord f q (by omega) h4 h5] at h3; simp at h3
  refine ⟨hM, hnd, ?_⟩
  have hnb : ∀ b, MB br ops S ≤ b → b < i → br b = false := by
    intro b h1 h2
    cases hbb : br b with
    | false => rfl
    | true =>
      rcases tr.ww b i h2 hil (.inl hbb) (.inr (by rw [hl]; rfl)) with h5 | ⟨p, q, h5, _, _⟩ | ⟨_, _, o2, h5, h6⟩ | ⟨h5, _⟩
      · rw [MB_spec h1 (by omega) (r.bef h5)] at hbb; simp at hbb
      · rw [tr.excl (by omega) hbb] at h5; simp at h5
      · rw [r.at_] at h5; simp at h5; subst h5; rw [hA] at h6; simp at h6
      · rw [tr.excl (by omega) hbb] at h5; simp at h5
  unfold Hs
  simp only [killL]
  rw [if_neg (by simpa using hnd), tr.segL hM (by omega) hnb]
  unfold Xs
  refine lob_obj _ fun f q hf hlf he => ?_
  by_cases hMf : MB br ops S ≤ f
  · rcases Nat.lt_trichotomy f i with h5 | h5 | h5
    · simp only [ord f q h5 hlf he, h5, decide_true, Bool.and_true]
    · rw [h5]
      simp only [r.new, Bool.and_false, Nat.lt_irrefl, decide_false]
    · have hsf : S f = false := by
        cases hx2 : S f with
        | false => rfl
        | true => exact (r.others tr hl f q hf hx2 hlf h5 he).elim
      simp only [hsf, show ¬ f < i by omega, decide_false, Bool.and_false]
  · simp only [hMf, decide_false, Bool.false_and]
theorem lob_obj2 {p : Nat → Bool} {H H' : Heap} {id : Nat} : ∀ m, (∃ f x, f < m ∧ p f = true ∧ lt f = some x ∧ x.1 = id) → (lob lt p H m).obj id = (lob lt p H' m).obj id ∧ ((lob lt p H m).obj id).isSome = true
  | 0, ⟨f, _, hf, _⟩ => by omega
  | m + 1, ⟨f, x, hf, hp, hl, he⟩ => by
    rw [lob_succ, lob_succ]
    by_cases hfm : f = m
    · subst hfm
      rw [hl]
      simp only [hp, if_true]
      simp [Heap.set, he]
    · have ih := lob_obj2 (H := H) (H' := H') m ⟨f, x, by omega, hp, hl, he⟩
      cases hlm : lt m with
      | none => exact ih
      | some y =>
        simp only
        split
        · by_cases hy : id = y.1
          · simp [Heap.set, hy]
          · simp only [Heap.set, hy, if_false]; exact ih
        · exact ih
/-- behind a change that is no change of one object -/
theorem Rdy.barrier (hd : DOk3 ops) (tr : Facts P ow wf n ops base sk hk vk lt br) (h0 : ∀ f, (hk 0).obj (base + f) = none) {S S' : Nat → Bool} {i : Nat} {o : Oper} (r : Rdy ops S i o) (hb : br i = true) {H' : Heap} (hH : ∀ id ∈ kx ow ops lt i, H'.obj id = none) (hki1 : hk (i + 1) = putL H' (hk i) (kx ow ops lt i)) (hs' : S' i = true) (ho : ∀ j, j ≠ i → S' j = S j) :
    killL (Hs lt br ops hk S) (kx ow ops lt i) = killL (hk i) (kx ow ops lt i) ∧ putL H' (Hs lt br ops hk S) (kx ow ops lt i) = Hs lt br ops hk S' := by
  have hil : i < ops.length := (List.getElem?_eq_some_iff.1 r.at_).1
  have hli : lt i = none := tr.excl hil hb
  have hM := r.mb tr (.inl hb)
  have hnb : ∀ b, MB br ops S ≤ b → b < i → br b = false := by
    intro b h1 h2
    cases hbb : br b with
    | false => rfl
    | true =>
      rcases tr.ww b i h2 hil (.inl hbb) (.inl hb) with h5 | ⟨p, q, _, h5, _⟩ | ⟨_, h5, _⟩ | ⟨h5, _⟩
      · rw [MB_spec h1 (by omega) (r.bef h5)] at hbb; simp at hbb
      · rw [hli] at h5; simp at h5
      · rw [hli] at h5; simp at h5
      · rw [tr.excl (by omega) hbb] at h5; simp at h5
  have hki := tr.segL hM (by omega) hnb
  -- the changes apart from this one
  have inK : ∀ f q, f < ops.length → lt f = some q → (f < i → S f = false) → (i < f → S f = true) → q.1 ∈ kx ow ops lt i := by
    intro f q hf hl h1 h2
    have hne : i ≠ f := fun e => by rw [← e, hli] at hl; simp at hl
    rcases Nat.lt_or_ge f i with h3 | h3
    · refine mem_kx hf hne ?_ (.inl ?_) hl
      · cases hp : Go.AM.pre ops f i with
        | false => rfl
        | true => have := r.bef hp; rw [h1 h3] at this; simp at this
      · cases hp : Go.AM.pre ops i f with
        | false => rfl
        | true => have := pre_lt3 hd f i hf hp; omega
    · refine mem_kx hf hne ?_ (.inl (r.not_pre hf (h2 (by omega)))) hl
      cases hp : Go.AM.pre ops f i with
      | false => rfl
      | true => have := pre_lt3 hd i f hil hp; omega
  have kxA : ∀ id ∈ kx ow ops lt i, ∃ f q, ∃ hf : f < ops.length, f ≠ i ∧ isA ow ops[f] = true ∧ lt f = some q ∧ q.1 = id ∧ id = base + f ∧ Go.AM.pre ops f i = false := by
    intro id hid
    obtain ⟨f, q, hf, h2, h3, h4, h5, h6⟩ := kx_mem hid
    have hA : isA ow ops[f] = true := by
      rcases h4 with h4 | h4
      · rcases Nat.lt_trichotomy f i with h7 | h7 | h7
        · rcases tr.ww f i h7 hil (.inr (by rw [h5]; rfl)) (.inl hb) with h8 | ⟨_, _, _, h8, _⟩ | ⟨_, h8, _⟩ | ⟨_, _, o2, h8, h9⟩
          · rw [h8] at h3; simp at h3
          · rw [hli] at h8; simp at h8
          · rw [hli] at h8; simp at h8
          · rw [List.getElem?_eq_getElem hf] at h8; simp at h8; rw [h8]; exact h9
        · exact (h2 h7.symm).elim
        · rcases tr.ww i f h7 hf (.inl hb) (.inr (by rw [h5]; rfl)) with h8 | ⟨_, _, h8, _⟩ | ⟨_, _, o2, h8, h9⟩ | ⟨h8, _⟩
          · rw [h8] at h4; simp at h4
          · rw [hli] at h8; simp at h8
          · rw [List.getElem?_eq_getElem hf] at h8; simp at h8; rw [h8]; exact h9
          · rw [hli] at h8; simp at h8
      · exact h4
    rcases (tr.kind hf h5).2.2 with h7 | h7
    · exact ⟨f, q, hf, fun e => h2 e.symm, hA, h5, h6, by rw [← h6]; exact h7.2, h3⟩
    · rw [h7.1] at hA; simp at hA
  -- a change of such an object is that one, or stands behind this operation
  have uniq : ∀ f q g x, (hf : f < ops.length) → isA ow ops[f] = true → lt f = some q → q.1 = base + f → Go.AM.pre ops f i = false → (hg : g < ops.length) → lt g = some x → x.1 = base + f → g ≠ f → i < g ∧ S g = false := by
    intro f q g x hf hfA hlf hq hpf hg hlg hx hgf
    have hgA : isA ow ops[g] = false := by
      rcases (tr.kind hg hlg).2.2 with h1 | h1
      · rw [h1.2] at hx; omega
      · exact h1.1
    have hfg : f < g := by
      rcases Nat.lt_or_ge g f with h1 | h1
      · rcases (tr.kind hg hlg).2.2 with h3 | h3
        · rw [h3.1] at hgA; simp at hgA
        · exact (h3.2 f ops[f] (by omega) (List.getElem?_eq_getElem hf) hfA (by rw [hx])).elim
      · omega
    have hpre : Go.AM.pre ops f g = true := by
      rcases tr.ww f g hfg hg (.inr (by rw [hlf]; rfl)) (.inr (by rw [hlg]; rfl)) with h5 | ⟨p, q', h5, h6, h7⟩ | ⟨h5, _⟩ | ⟨_, h5, _⟩
      · exact h5
      · rw [hlf] at h5; rw [hlg] at h6
        simp at h5 h6
        subst h5; subst h6
        exact (h7 (by rw [hq, hx])).elim
      · rw [tr.excl hf h5] at hlf; simp at hlf
      · rw [tr.excl hg h5] at hlg; simp at hlg
    have hgi : g ≠ i := fun e => by rw [e, hli] at hlg; simp at hlg
    have hig : i < g := by
      rcases Nat.lt_or_ge i g with h1 | h1
      · exact h1
      · rcases tr.ww g i (by omega) hil (.inr (by rw [hlg]; rfl)) (.inl hb) with h8 | ⟨_, _, _, h8, _⟩ | ⟨_, h8, _⟩ | ⟨_, _, o2, h8, h9⟩
        · rw [pre_trans hd i hil hpre h8] at hpf; simp at hpf
        · rw [hli] at h8; simp at h8
        · rw [hli] at h8; simp at h8
        · rw [List.getElem?_eq_getElem hg] at h8; simp at h8; rw [h8, h9] at hgA; simp at hgA
    refine ⟨hig, ?_⟩
    cases hsg : S g with
    | false => rfl
    | true =>
      rcases tr.ww i g hig hg (.inl hb) (.inr (by rw [hlg]; rfl)) with h8 | ⟨_, _, h8, _⟩ | ⟨_, _, o2, h8, h9⟩ | ⟨h8, _⟩
      · rw [r.not_pre hg hsg] at h8; simp at h8
      · rw [hli] at h8; simp at h8
      · rw [List.getElem?_eq_getElem hg] at h8; simp at h8; rw [h8, h9] at hgA; simp at hgA
      · rw [hli] at h8; simp at h8
  refine ⟨?_, ?_⟩
  · unfold Hs
    rw [kill_kill (r.dl_kx tr hli)]
    unfold Xs
    rw [hki]
    refine lob_kill _ fun f q hf hl => ?_
    by_cases hMf : MB br ops S ≤ f
    · simp only [hMf, decide_true, Bool.true_and]
      have hne : f ≠ i := fun e => by rw [e, hli] at hl; simp at hl
      cases hs : S f with
      | true =>
        rcases Nat.lt_or_ge f i with h1 | h1
        · exact .inl (by simp [h1])
        · exact .inr (inK f q hf hl (fun h2 => by omega) (fun _ => hs))
      | false =>
        rcases Nat.lt_or_ge f i with h1 | h1
        · exact .inr (inK f q hf hl (fun _ => hs) (fun h2 => by omega))
        · exact .inl (by simp; omega)
    · exact .inl (by simp [hMf])
  · have hMS : MB br ops S' = i + 1 := by
      unfold MB
      refine lastOf_eq (by omega) (.inr ⟨i, rfl, by rw [hs', hb]; rfl⟩) fun j h1 h2 => ?_
      cases hsj : S' j with
      | false => rfl
      | true =>
        rw [ho j (by omega)] at hsj
        have := MB_spec (br := br) (by omega : MB br ops S ≤ j) h2 hsj
        simp [this]
    have hXn : (Xs lt br ops hk S').next = H'.next := by unfold Xs; rw [lob_next, hMS, hki1]; rfl
    refine heap_ext (by unfold Hs; simp only [killL, putL]; exact hXn.symm) fun id => ?_
    -- what S' has not done yet, by its own numbers
    have dl' : id ∈ dl lt br ops S' ↔ ∃ g x, g < ops.length ∧ g < i ∧ S g = false ∧ lt g = some x ∧ x.1 = id := by
      rw [mem_dl, hMS]
      constructor
      · rintro ⟨g, x, h1, h2, h3, h4, h5⟩
        have hgi : g ≠ i := fun e => by rw [e, hli] at h4; simp at h4
        exact ⟨g, x, h1, by omega, by rw [← ho g hgi]; exact h3, h4, h5⟩
      · rintro ⟨g, x, h1, h2, h3, h4, h5⟩
        exact ⟨g, x, h1, by omega, by rw [ho g (by omega)]; exact h3, h4, h5⟩
    by_cases hid : id ∈ kx ow ops lt i
    · obtain ⟨f, q, hf, hne, hA, hlf, hq, hbase, hpf⟩ := kxA id hid
      have hu : ∀ g x, g < ops.length → lt g = some x → x.1 = id → g ≠ f → i < g ∧ S g = false := fun g x h1 h2 h3 h4 => uniq f q g x hf hA hlf (by rw [hq, hbase]) hpf h1 h2 (by rw [h3, hbase]) h4
      have hL : (putL H' (Hs lt br ops hk S) (kx ow ops lt i)).obj id = (Hs lt br ops hk S).obj id := by
        simp only [putL]
        cases hx : (Hs lt br ops hk S).obj id with
        | none => simp [hH id hid]
        | some o2 => simp [hid]
      rw [hL]
      cases hsf : S f with
      | true =>
        have n1 : id ∉ dl lt br ops S := fun hc => by
          obtain ⟨g, x, h1, h2, h3, h4, h5⟩ := mem_dl.1 hc
          by_cases hgf : g = f
          · rw [hgf, hsf] at h3; simp at h3
          · have := (hu g x h1 h4 h5 hgf).1; omega
        have n2 : id ∉ dl lt br ops S' := fun hc => by
          obtain ⟨g, x, h1, h2, h3, h4, h5⟩ := dl'.1 hc
          by_cases hgf : g = f
          · rw [hgf, hsf] at h3; simp at h3
          · have := (hu g x h1 h4 h5 hgf).1; omega
        unfold Hs
        simp only [killL]
        rw [if_neg (by simpa using n1), if_neg (by simpa using n2)]
        unfold Xs
        rcases Nat.lt_or_ge f i with h1 | h1
        · rw [lob_none (p := fun f => decide (MB br ops S' ≤ f) && S' f) _ (fun g x h2 h3 h4 h5 => ?_), hMS, hki1]
          · have h6 : (putL H' (hk i) (kx ow ops lt i)).obj id = (hk i).obj id := by
              simp only [putL]
              cases hx : (hk i).obj id with
              | none => simp [hH id hid]
              | some o2 => simp [hid]
            rw [h6, hki]
            refine lob_obj _ fun g x h2 h3 h4 => ?_
            by_cases hgf : g = f
            · rw [hgf, hsf]; simp [h1]
            · obtain ⟨k1, k2⟩ := hu g x h2 h3 h4 hgf
              rw [k2]; simp; omega
          · rw [hMS] at h3
            simp only [Bool.and_eq_true, decide_eq_true_eq] at h3
            by_cases hgf : g = f
            · omega
            · have := (hu g x h2 h4 h5 hgf).2
              rw [ho g (by omega), this] at h3; simp at h3
        · have hfi : i < f := by omega
          have e1 : (lob lt (fun f => decide (MB br ops S ≤ f) && S f) (hk (MB br ops S)) ops.length).obj id = (lob lt (fun f => decide (MB br ops S' ≤ f) && S' f) (hk (MB br ops S)) ops.length).obj id := by
            refine lob_obj _ fun g x h2 h3 h4 => ?_
            rw [hMS]
            by_cases hgf : g = f
            · rw [hgf, ho f hne, hsf]; simp; omega
            · obtain ⟨k1, k2⟩ := hu g x h2 h3 h4 hgf
              rw [ho g (by omega), k2]; simp
          rw [e1]
          refine (lob_obj2 _ ⟨f, q, hf, ?_, hlf, hq⟩).1
          rw [hMS, ho f hne, hsf]; simp; omega
      | false =>
        have no : ∀ g x, g < ops.length → lt g = some x → x.1 = id → S g = false := fun g x h1 h2 h3 => by
          by_cases hgf : g = f
          · rw [hgf]; exact hsf
          · exact (hu g x h1 h2 h3 hgf).2
        have l1 : (Hs lt br ops hk S).obj id = none := by
          unfold Hs
          simp only [killL]
          split
          · rfl
          · rename_i hc
            rcases Nat.lt_or_ge f (MB br ops S) with h1 | h1
            · exact (hc (by simpa using mem_dl.2 ⟨f, q, hf, h1, hsf, hlf, hq⟩)).elim
            · unfold Xs
              rw [lob_none _ (fun g x h2 h3 h4 h5 => by
                simp only [Bool.and_eq_true] at h3
                rw [no g x h2 h4 h5] at h3; simp at h3)]
              rw [hbase]
              exact tr.noneH h0 _ MB_le f ops[f] h1 (List.getElem?_eq_getElem hf) hA
        rw [l1]
        unfold Hs
        simp only [killL]
        split
        · rfl
        · rename_i hc
          rcases Nat.lt_or_ge f i with h1 | h1
          · exact (hc (by simpa using dl'.2 ⟨f, q, hf, h1, hsf, hlf, hq⟩)).elim
          · unfold Xs
            rw [lob_none _ (fun g x h2 h3 h4 h5 => by
              rw [hMS] at h3
              simp only [Bool.and_eq_true, decide_eq_true_eq] at h3
              rw [ho g (by omega), no g x h2 h4 h5] at h3; simp at h3)]
            rw [hMS, hbase]
            exact (tr.noneH h0 (i + 1) (by omega) f ops[f] (by omega) (List.getElem?_eq_getElem hf) hA).symm
    · have n2 : id ∉ dl lt br ops S' := fun hc => by
        obtain ⟨g, x, h1, h2, h3, h4, h5⟩ := dl'.1 hc
        exact hid (by rw [← h5]; exact inK g x h1 h4 (fun _ => h3) (fun h6 => by omega))
      have hL : (putL H' (Hs lt br ops hk S) (kx ow ops lt i)).obj id = H'.obj id := by
        simp only [putL]; rw [if_neg (fun hc => hid (by simpa using hc.1))]
      rw [hL]
      unfold Hs
      simp only [killL]
      rw [if_neg (by simpa using n2)]
      unfold Xs
      rw [lob_none _ (fun g x h2 h3 h4 h5 => by
        rw [hMS] at h3
        simp only [Bool.and_eq_true, decide_eq_true_eq] at h3
        rw [ho g (by omega)] at h3
        exact hid (by rw [← h5]; exact inK g x h2 h4 (fun h6 => by omega) (fun _ => h3.2)))]
      rw [hMS, hki1]
      simp only [putL]; rw [if_neg (fun hc => hid (by simpa using hc.1))]
end
end Go.AM
