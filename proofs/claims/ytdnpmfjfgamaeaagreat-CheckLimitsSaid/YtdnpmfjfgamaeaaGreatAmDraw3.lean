/- Any order of a region ends as the order of the text. -/
import Derived.Test.YtdnpmfjfgamaeaaGreatAmDraw2
import Derived.Orders
set_option linter.unusedVariables false
set_option linter.unusedSimpArgs false
set_option linter.unusedSectionVars false
namespace Go.AM
section
variable {P : Program} {ow : Nat → Bool} {wf : FuncId → Bool} {n : Nat} {ops : List Oper}

/-- one more than the last number below n of which p holds; 0 if there is none -/
def lastOf (p : Nat → Bool) : Nat → Nat
  | 0 => 0
  | n + 1 => if p n then n + 1 else lastOf p n
theorem lastOf_spec (p : Nat → Bool) : ∀ n, lastOf p n ≤ n ∧ (lastOf p n = 0 ∨ ∃ m, lastOf p n = m + 1 ∧ p m = true) ∧ ∀ j, lastOf p n ≤ j → j < n → p j = false
  | 0 => by simp [lastOf]
  | n + 1 => by
    obtain ⟨h1, h2, h3⟩ := lastOf_spec p n
    unfold lastOf
    by_cases hp : p n = true
    · rw [if_pos hp]
      exact ⟨Nat.le_refl _, .inr ⟨n, rfl, hp⟩, fun j h4 h5 => by omega⟩
    · rw [if_neg hp]
      refine ⟨by omega, h2, fun j h4 h5 => ?_⟩
      rcases Nat.lt_or_ge j n with h6 | h6
      · exact h3 j h4 h6
      · have : j = n := by omega
        subst this; simpa using hp
theorem lastOf_eq {p : Nat → Bool} {n m : Nat} (h1 : m ≤ n) (h2 : m = 0 ∨ ∃ k, m = k + 1 ∧ p k = true) (h3 : ∀ j, m ≤ j → j < n → p j = false) : lastOf p n = m := by
  obtain ⟨g1, g2, g3⟩ := lastOf_spec p n
  rcases Nat.lt_trichotomy (lastOf p n) m with h | h | h
  · rcases h2 with rfl | ⟨k, rfl, hk⟩
    · omega
    · have := g3 k (by omega) (by omega)
      rw [hk] at this; simp at this
  · exact h
  · rcases g2 with h4 | ⟨k, h4, hk⟩
    · omega
    · have := h3 k (by omega) (by omega)
      rw [hk] at this; simp at this
theorem lastOf_congr {p q : Nat → Bool} : ∀ n, (∀ j, j < n → p j = q j) → lastOf p n = lastOf q n
  | 0, _ => rfl
  | n + 1, h => by
    unfold lastOf
    rw [h n (by omega), lastOf_congr n (fun j hj => h j (by omega))]

/-- how many are missing -/
def miss (S : Nat → Bool) : Nat → Nat
  | 0 => 0
  | n + 1 => miss S n + if S n then 0 else 1
theorem miss_same {S S' : Nat → Bool} : ∀ n, (∀ j, j < n → S j = S' j) → miss S n = miss S' n
  | 0, _ => rfl
  | n + 1, h => by unfold miss; rw [h n (by omega), miss_same n (fun j hj => h j (by omega))]
theorem miss_set {S S' : Nat → Bool} {i : Nat} (hi : S i = false) (hi' : S' i = true) (ho : ∀ j, j ≠ i → S j = S' j) : ∀ n, i < n → miss S n = miss S' n + 1
  | 0, h => by omega
  | n + 1, h => by
    unfold miss
    by_cases he : i = n
    · subst he
      rw [miss_same i (fun j hj => ho j (by omega)), hi, hi']; simp
    · rw [miss_set hi hi' ho n (by omega), ho n (fun e => he e.symm)]; omega
theorem miss_zero {S : Nat → Bool} : ∀ n, (∀ j, j < n → S j = true) → miss S n = 0
  | 0, _ => rfl
  | n + 1, h => by unfold miss; rw [miss_zero n (fun j hj => h j (by omega)), h n (by omega)]; rfl
theorem all_of_miss {S : Nat → Bool} : ∀ n, miss S n = 0 → ∀ j, j < n → S j = true
  | 0, _, j, hj => by omega
  | n + 1, h, j, hj => by
    unfold miss at h
    by_cases he : j = n
    · subst he
      cases hs : S j with
      | true => rfl
      | false => rw [hs] at h; simp at h
    · exact all_of_miss n (by omega) j (by omega)

/-- does operation j write slot t? -/
def wrB (ops : List Oper) (t j : Nat) : Bool := decide ((ops[j]?).bind (·.dst) = some t)
def wdB (ow : Nat → Bool) (wf : FuncId → Bool) (ops : List Oper) (sk : Nat → Slots) (j : Nat) : Bool := match ops[j]? with
  | some o => isW ow wf o && decide (wantedB ops (sk j) o = some true)
  | none => false
theorem wdB_iff {sk : Nat → Slots} {j : Nat} : wdB ow wf ops sk j = true ↔ Wd ow wf ops sk j := by
  unfold wdB Wd
  cases ops[j]? with
  | none => simp
  | some o => simp
/-- the slots and the heap where the operations of S are done -/
def valS (ops : List Oper) (sk : Nat → Slots) (S : Nat → Bool) : Slots := fun t => sk (lastOf (fun j => S j && wrB ops t j) ops.length) t
def heapS (ow : Nat → Bool) (wf : FuncId → Bool) (ops : List Oper) (sk : Nat → Slots) (hk : Nat → Heap) (S : Nat → Bool) : Heap := hk (lastOf (fun j => S j && wdB ow wf ops sk j) ops.length)

variable {sk : Nat → Slots} {hk : Nat → Heap} {vk : Nat → PV}

theorem Tr.slot_const (tr : Tr P ow wf n ops 0 sk hk vk) {t : Nat} {i : Nat} : ∀ d, i + d ≤ ops.length → (∀ j, i ≤ j → j < i + d → wrB ops t j = false) → sk (i + d) t = sk i t
  | 0, _, _ => rfl
  | d + 1, hd, hw => by
    have ih := Tr.slot_const tr (t := t) (i := i) d (by omega) (fun j h1 h2 => hw j h1 (by omega))
    rw [← ih]
    have hlt : i + d < ops.length := by omega
    obtain ⟨_, b, h1, h2, h3⟩ := tr.step (i + d) ops[i + d] (Nat.zero_le _) (List.getElem?_eq_getElem hlt)
    have hnw := hw (i + d) (by omega) (by omega)
    simp only [wrB, List.getElem?_eq_getElem hlt, Option.bind_some, decide_eq_false_iff_not] at hnw
    have hupd : ∀ v, updO (sk (i + d)) ops[i + d].dst v t = sk (i + d) t := by
      intro v
      cases hdst : ops[i + d].dst with
      | none => rfl
      | some dd =>
        simp only [updO, upd]
        rw [if_neg]
        intro e; subst e; exact hnw hdst
    rw [show i + (d + 1) = i + d + 1 by omega]
    cases b with
    | false => rw [(h2 rfl).1]; exact hupd _
    | true => rw [(h3 rfl).1]; exact hupd _
theorem Tr.heap_const (tr : Tr P ow wf n ops 0 sk hk vk) {i : Nat} : ∀ d, i + d ≤ ops.length → (∀ j, i ≤ j → j < i + d → wdB ow wf ops sk j = false) → hk (i + d) = hk i
  | 0, _, _ => rfl
  | d + 1, hd, hw => by
    have ih := Tr.heap_const tr (i := i) d (by omega) (fun j h1 h2 => hw j h1 (by omega))
    rw [← ih]
    have hlt : i + d < ops.length := by omega
    obtain ⟨_, b, h1, h2, h3⟩ := tr.step (i + d) ops[i + d] (Nat.zero_le _) (List.getElem?_eq_getElem hlt)
    have hnw := hw (i + d) (by omega) (by omega)
    rw [show i + (d + 1) = i + d + 1 by omega]
    cases b with
    | false => exact (h2 rfl).2
    | true =>
      refine (h3 rfl).2.2 ?_
      cases hiw : isW ow wf ops[i + d] with
      | false => rfl
      | true =>
        have : wdB ow wf ops sk (i + d) = true := wdB_iff.2 ⟨_, List.getElem?_eq_getElem hlt, hiw, h1⟩
        rw [hnw] at this; simp at this

/-- what is ready: not done, all that must come before is done -/
structure Rdy (ops : List Oper) (S : Nat → Bool) (i : Nat) (o : Oper) : Prop where
  at_ : ops[i]? = some o
  new : S i = false
  closed : Closed ops S
  before : ∀ e ∈ o.after.toList, Region.binds .any e = true → S e.on = true
theorem Rdy.bef {S : Nat → Bool} {i : Nat} {o : Oper} (r : Rdy ops S i o) {j : Nat} (hp : Go.AM.pre ops j i = true) : S j = true := by
  obtain ⟨e, h1, h2, h3⟩ := pre_spec r.at_ hp
  have he := r.before e h1 h2
  rcases h3 with rfl | ⟨h4, h5⟩
  · exact he
  · exact r.closed.pre e.on j (by have := (List.getElem?_eq_some_iff.1 r.at_).1; omega) he h5
theorem Rdy.not_pre {S : Nat → Bool} {i : Nat} {o : Oper} (r : Rdy ops S i o) {j : Nat} (hj : j < ops.length) (hs : S j = true) : Go.AM.pre ops i j = false := by
  cases hp : Go.AM.pre ops i j with
  | false => rfl
  | true => have := r.closed.pre j i hj hs hp; rw [r.new] at this; simp at this

/-- a slot that the next operation looks at holds what it holds in the text's walk -/
theorem Rdy.slot (hd : DOk ow wf ops) (tr : Tr P ow wf n ops 0 sk hk vk) {S : Nat → Bool} {i : Nat} {o : Oper} (r : Rdy ops S i o) {t : Nat} (ht : t ∈ looks ops o) : valS ops sk S t = sk i t := by
  have hi : i < ops.length := (List.getElem?_eq_some_iff.1 r.at_).1
  obtain ⟨h1, h2, h3⟩ := lastOf_spec (fun j => S j && wrB ops t j) ops.length
  unfold valS
  generalize lastOf (fun j => S j && wrB ops t j) ops.length = m at *
  -- a writer of t that is not this operation comes before or behind it
  have ord : ∀ j, j < ops.length → j ≠ i → wrB ops t j = true → Go.AM.pre ops j i = true ∨ Go.AM.pre ops i j = true := by
    intro j hj hne hw
    simp only [wrB, List.getElem?_eq_getElem hj, Option.bind_some, decide_eq_true_eq] at hw
    exact hd.slot j i _ o hne (List.getElem?_eq_getElem hj) r.at_ t hw ht
  rcases Nat.lt_or_ge i m with h4 | h4
  · -- a writer behind i has been done: none can be
    rcases h2 with h2 | ⟨k, h2, h5⟩
    · omega
    · simp only [Bool.and_eq_true] at h5
      by_cases hki : k = i
      · subst hki; rw [r.new] at h5; simp at h5
      · rcases ord k (by omega) hki h5.2 with h6 | h6
        · have := pre_lt hd i k hi h6; omega
        · rw [r.not_pre (by omega) h5.1] at h6; simp at h6
  · have := tr.slot_const (t := t) (i := m) (i - m) (by omega) (fun j h5 h6 => ?_)
    · rw [show m + (i - m) = i by omega] at this; exact this.symm
    · cases hw : wrB ops t j with
      | false => rfl
      | true =>
        have hns := h3 j h5 (by omega)
        rw [hw, Bool.and_true] at hns
        rcases ord j (by omega) (by omega) hw with h7 | h7
        · rw [r.bef h7] at hns; simp at hns
        · have := pre_lt hd j i (by omega) h7; omega

/-- the next operation does in the present heap what it does in the text's walk -/
theorem Rdy.does (hd : DOk ow wf ops) (tr : Tr P ow wf n ops 0 sk hk vk) {S : Nat → Bool} {i : Nat} {o : Oper} (r : Rdy ops S i o) (hw : wantedB ops (sk i) o = some true) :
    (isW ow wf o = true → heapS ow wf ops sk hk S = hk i ∧ Does P ow o (pev (sk i)) (hk i) (vk i) (hk (i + 1))) ∧
    (isW ow wf o = false → Does P ow o (pev (sk i)) (heapS ow wf ops sk hk S) (vk i) (heapS ow wf ops sk hk S)) := by
  have hi : i < ops.length := (List.getElem?_eq_some_iff.1 r.at_).1
  obtain ⟨h1, h2, h3⟩ := lastOf_spec (fun j => S j && wdB ow wf ops sk j) ops.length
  obtain ⟨_, b, hb, _, hb2⟩ := tr.step i o (Nat.zero_le _) r.at_
  rw [hw] at hb; simp at hb; subst hb
  obtain ⟨_, hdo, hsame⟩ := hb2 rfl
  unfold heapS
  generalize lastOf (fun j => S j && wdB ow wf ops sk j) ops.length = m at *
  refine ⟨fun hiw => ⟨?_, hdo⟩, fun hiw => ?_⟩
  · have ord : ∀ j, j < ops.length → j ≠ i → wdB ow wf ops sk j = true → Go.AM.pre ops j i = true ∨ Go.AM.pre ops i j = true := by
      intro j hj hne hwd
      obtain ⟨q, hq, hqw, _⟩ := wdB_iff.1 hwd
      exact hd.ww j i q o hne hq r.at_ hqw hiw
    rcases Nat.lt_or_ge i m with h4 | h4
    · rcases h2 with h2 | ⟨k, h2, h5⟩
      · omega
      · simp only [Bool.and_eq_true] at h5
        by_cases hki : k = i
        · subst hki; rw [r.new] at h5; simp at h5
        · rcases ord k (by omega) hki h5.2 with h6 | h6
          · have := pre_lt hd i k hi h6; omega
          · rw [r.not_pre (by omega) h5.1] at h6; simp at h6
    · have := tr.heap_const (i := m) (i - m) (by omega) (fun j h5 h6 => ?_)
      · rw [show m + (i - m) = i by omega] at this; exact this.symm
      · cases hwd : wdB ow wf ops sk j with
        | false => rfl
        | true =>
          have hns := h3 j h5 (by omega)
          rw [hwd, Bool.and_true] at hns
          rcases ord j (by omega) (by omega) hwd with h7 | h7
          · rw [r.bef h7] at hns; simp at hns
          · have := pre_lt hd j i (by omega) h7; omega
  · rw [hsame hiw] at hdo
    have hn : Nd ow wf ops sk i o := ⟨r.at_, hiw, hw⟩
    rcases Nat.lt_or_ge i m with h4 | h4
    · rcases h2 with h2 | ⟨k, h2, h5⟩
      · omega
      · simp only [Bool.and_eq_true] at h5
        have hki : k ≠ i := by intro e; subst e; rw [r.new] at h5; simp at h5
        have := (tr.apart i k o (Nat.zero_le _) (Nat.zero_le _) hn (wdB_iff.1 h5.2)).1 (by omega)
        rw [h2]
        rcases this with h6 | h6
        · rw [r.not_pre (by omega) h5.1] at h6; simp at h6
        · exact h6
    · -- the first change between m and i that has not been done
      have hex : (∀ j, m ≤ j → j < i → wdB ow wf ops sk j = false) ∨ ∃ j, m ≤ j ∧ j < i ∧ wdB ow wf ops sk j = true ∧ ∀ l, m ≤ l → l < j → wdB ow wf ops sk l = false := by
        have : ∀ d, (∀ j, m ≤ j → j < m + d → wdB ow wf ops sk j = false) ∨ ∃ j, m ≤ j ∧ j < m + d ∧ wdB ow wf ops sk j = true ∧ ∀ l, m ≤ l → l < j → wdB ow wf ops sk l = false := by
          intro d
          induction d with
          | zero => left; intro j a b; omega
          | succ d ih =>
            rcases ih with ih | ⟨j, g1, g2, g3, g4⟩
            · cases hx : wdB ow wf ops sk (m + d) with
              | false =>
                left; intro j a b
                rcases Nat.lt_or_ge j (m + d) with c | c
                · exact ih j a c
                · have : j = m + d := by omega
                  subst this; exact hx
              | true => exact .inr ⟨m + d, by omega, by omega, hx, fun l a b => ih l a b⟩
            · exact .inr ⟨j, g1, by omega, g3, g4⟩
        have := this (i - m)
        rwa [show m + (i - m) = i by omega] at this
      rcases hex with hno | ⟨j, g1, g2, g3, g4⟩
      · have := tr.heap_const (i := m) (i - m) (by omega) (fun j a b => hno j a (by omega))
        rw [show m + (i - m) = i by omega] at this
        rw [← this]; exact hdo
      · have := tr.heap_const (i := m) (j - m) (by omega) (fun l a b => g4 l a (by omega))
        rw [show m + (j - m) = j by omega] at this
        rw [← this]
        have hns := h3 j g1 (by omega)
        rw [g3, Bool.and_true] at hns
        rcases (tr.apart i j o (Nat.zero_le _) (Nat.zero_le _) hn (wdB_iff.1 g3)).2 g2 with h6 | h6
        · rw [r.bef h6] at hns; simp at hns
        · exact h6

/-- the slots and the heap behind the next operation -/
theorem Rdy.next (hd : DOk ow wf ops) (tr : Tr P ow wf n ops 0 sk hk vk) {S S' : Nat → Bool} {i : Nat} {o : Oper} (r : Rdy ops S i o) (hs' : S' i = true) (ho : ∀ j, j ≠ i → S' j = S j) {x : PV} (hx : sk (i + 1) = updO (sk i) o.dst x) :
    updO (valS ops sk S) o.dst x = valS ops sk S' := by
  have hi : i < ops.length := (List.getElem?_eq_some_iff.1 r.at_).1
  funext t
  have hwr : wrB ops t i = decide (o.dst = some t) := by simp [wrB, r.at_]
  by_cases ht : o.dst = some t
  · have hl : t ∈ looks ops o := by simp [looks, ht]
    have h1 : updO (valS ops sk S) o.dst x t = x := by rw [ht]; simp [updO, upd]
    have h2 : sk (i + 1) t = x := by rw [hx, ht]; simp [updO, upd]
    rw [h1, ← h2]
    unfold valS
    rw [lastOf_eq (m := i + 1) (by omega) (.inr ⟨i, rfl, by rw [hs', hwr]; simp [ht]⟩)]
    intro j h3 h4
    cases hw : wrB ops t j with
    | false => simp
    | true =>
      cases hsj : S' j with
      | false => simp
      | true =>
        rw [ho j (by omega)] at hsj
        simp only [wrB, List.getElem?_eq_getElem h4, Option.bind_some, decide_eq_true_eq] at hw
        rcases hd.slot j i _ o (by omega) (List.getElem?_eq_getElem h4) r.at_ t hw hl with h7 | h7
        · have := pre_lt hd i j hi h7; omega
        · rw [r.not_pre h4 hsj] at h7; simp at h7
  · have h1 : updO (valS ops sk S) o.dst x t = valS ops sk S t := by
      cases hdst : o.dst with
      | none => rfl
      | some d =>
        simp only [updO, upd]
        rw [if_neg]
        intro e; subst e; exact ht hdst
    rw [h1]
    unfold valS
    rw [lastOf_congr ops.length (fun j hj => ?_)]
    by_cases hji : j = i
    · subst hji; rw [hwr]; simp [ht]
    · rw [ho j hji]
theorem Rdy.nextH (hd : DOk ow wf ops) {S S' : Nat → Bool} {i : Nat} {o : Oper} (r : Rdy ops S i o) (hs' : S' i = true) (ho : ∀ j, j ≠ i → S' j = S j) :
    (wdB ow wf ops sk i = true → heapS ow wf ops sk hk S' = hk (i + 1)) ∧ (wdB ow wf ops sk i = false → heapS ow wf ops sk hk S' = heapS ow wf ops sk hk S) := by
  have hi : i < ops.length := (List.getElem?_eq_some_iff.1 r.at_).1
  refine ⟨fun hw => ?_, fun hw => ?_⟩
  · unfold heapS
    rw [lastOf_eq (m := i + 1) (by omega) (.inr ⟨i, rfl, by rw [hs', hw]; rfl⟩)]
    intro j h3 h4
    cases hwj : wdB ow wf ops sk j with
    | false => simp
    | true =>
      cases hsj : S' j with
      | false => simp
      | true =>
        rw [ho j (by omega)] at hsj
        obtain ⟨q, hq, hqw, _⟩ := wdB_iff.1 hwj
        obtain ⟨q', hq', hqw', _⟩ := wdB_iff.1 hw
        rw [r.at_] at hq'; simp at hq'; subst hq'
        rcases hd.ww j i q o (by omega) hq r.at_ hqw hqw' with h7 | h7
        · have := pre_lt hd i j hi h7; omega
        · rw [r.not_pre h4 hsj] at h7; simp at h7
  · unfold heapS
    rw [lastOf_congr ops.length (fun j hj => ?_)]
    by_cases hji : j = i
    · subst hji; rw [hw]; simp
    · rw [ho j hji]

theorem Does.wp {β : Env} {s : Slots} {h h' : Heap} {a : Act} {w : World} {o : Oper} {v : PV} (st : St n β s h a w) (hd : o.dst.all (fun d => decide (d < n)) = true) (hdo : Does P ow o (pev s) h v h') {K : Act → World → Prop} {Q : Exit → Act → World → Prop}
    (hk : ∀ a' w', To n β h w (fun s' h2 => s' = updO s o.dst v ∧ h2 = h') a' w' → K a' w') : o.wp P a w K Q := by
  refine owp_sound (P := P) (ow := ow) (K' := fun s' h2 => s' = updO s o.dst v ∧ h2 = h') st hd ?_ hk
  unfold Does at hdo
  unfold owp
  split at hdo
  · rename_i f args hc
    refine fun β w vals sm hr => (hdo β w vals sm hr).mono ?_
    rintro e w' ⟨r, h3, β', u, he, ⟨rfl, rfl⟩, rest⟩
    exact ⟨r, h3, β', u, he, ⟨rfl, rfl⟩, rest⟩
  · rw [hdo]
    exact ⟨rfl, rfl⟩

theorem wantedB_congr {s s' : Slots} {o : Oper} (h : ∀ t, t ∈ looks ops o → s t = s' t) : wantedB ops s o = wantedB ops s' o := by
  unfold wantedB
  cases hg : o.guard with
  | none => rfl
  | some gw =>
    obtain ⟨g, want⟩ := gw
    cases ht : (ops[g]?).bind (·.dst) with
    | none => simp [ht]
    | some t =>
      simp only [ht]
      rw [h t (by simp [looks, hg, ht])]

theorem any_sound (hd : DOk ow wf ops) (tr : Tr P ow wf n ops 0 sk hk vk) {K : Slots → Heap → Prop} (hK : K (sk ops.length) (hk ops.length)) {Q : Exit → Act → World → Prop} :
    ∀ (fuel : Nat) (listed : Array Bool) (β : Env) (a : Act) (w : World), listed.size = ops.length → Closed ops (fun j => listed.getD j false) → miss (fun j => listed.getD j false) ops.length ≤ fuel →
      St n β (valS ops sk fun j => listed.getD j false) (heapS ow wf ops sk hk fun j => listed.getD j false) a w →
      (∀ a' w', To n β (heapS ow wf ops sk hk fun j => listed.getD j false) w K a' w' → Q .normal a' w') → wpAny P .any ops.toArray Q fuel listed a w := by
  have fin : ∀ (listed : Array Bool) (β : Env) (a : Act) (w : World), (∀ j, j < ops.length → listed.getD j false = true) →
      St n β (valS ops sk fun j => listed.getD j false) (heapS ow wf ops sk hk fun j => listed.getD j false) a w →
      (∀ a' w', To n β (heapS ow wf ops sk hk fun j => listed.getD j false) w K a' w' → Q .normal a' w') → Q .normal a w := by
    intro listed β a w hall st hk'
    have e1 : valS ops sk (fun j => listed.getD j false) = sk ops.length := by
      funext t
      obtain ⟨h1, h2, h3⟩ := lastOf_spec (fun j => listed.getD j false && wrB ops t j) ops.length
      unfold valS
      generalize lastOf (fun j => listed.getD j false && wrB ops t j) ops.length = m at *
      have := tr.slot_const (t := t) (i := m) (ops.length - m) (by omega) (fun j h5 h6 => by
        have := h3 j h5 (by omega)
        rw [hall j (by omega), Bool.true_and] at this; exact this)
      rw [show m + (ops.length - m) = ops.length by omega] at this
      exact this.symm
    have e2 : heapS ow wf ops sk hk (fun j => listed.getD j false) = hk ops.length := by
      obtain ⟨h1, h2, h3⟩ := lastOf_spec (fun j => listed.getD j false && wdB ow wf ops sk j) ops.length
      unfold heapS
      generalize lastOf (fun j => listed.getD j false && wdB ow wf ops sk j) ops.length = m at *
      have := tr.heap_const (i := m) (ops.length - m) (by omega) (fun j h5 h6 => by
        have := h3 j h5 (by omega)
        rw [hall j (by omega), Bool.true_and] at this; exact this)
      rw [show m + (ops.length - m) = ops.length by omega] at this
      exact this.symm
    exact hk' a w ⟨_, _, β, by rw [← e1, ← e2] at hK; exact hK, st, Ext.refl⟩
  have rdy : ∀ (listed : Array Bool) (i : Nat), listed.size = ops.length → Closed ops (fun j => listed.getD j false) → i ∈ Region.ready .any ops.toArray listed → ∃ o, Rdy ops (fun j => listed.getD j false) i o := by
    intro listed i hsz hc hi
    simp only [Region.ready, List.mem_filter, List.mem_range, List.size_toArray, Bool.and_eq_true, Bool.not_eq_true', List.getElem?_toArray] at hi
    obtain ⟨h1, h2, h3⟩ := hi
    rw [List.getElem?_eq_getElem h1] at h3
    simp only [Option.map_some, Option.getD_some, Array.all_eq_true_iff_forall_mem, Bool.or_eq_true, Bool.not_eq_true'] at h3
    refine ⟨_, List.getElem?_eq_getElem h1, ?_, hc, fun e he hb => ?_⟩
    · rw [Array.getD_eq_getD_getElem?, Array.getElem?_eq_getElem (by omega)] at h2 ⊢
      simpa using h2
    · rcases h3 e (Array.mem_toList_iff.1 he) with h4 | h4
      · rw [hb] at h4; simp at h4
      · exact h4
  have noRdy : ∀ (listed : Array Bool), listed.size = ops.length → Region.ready .any ops.toArray listed = [] → ∀ j, j < ops.length → listed.getD j false = true := by
    intro listed hsz hr j
    induction j using Nat.strongRecOn with
    | _ j ih =>
      intro hj
      cases hs : listed.getD j false with
      | true => rfl
      | false =>
        have hm : j ∈ Region.ready .any ops.toArray listed := by
          simp only [Region.ready, List.mem_filter, List.mem_range, List.size_toArray, Bool.and_eq_true, Bool.not_eq_true', List.getElem?_toArray]
          refine ⟨hj, ?_, ?_⟩
          · rw [Array.getD_eq_getD_getElem?, Array.getElem?_eq_getElem (by omega)] at hs ⊢
            simpa using hs
          · rw [List.getElem?_eq_getElem hj]
            simp only [Option.map_some, Option.getD_some, Array.all_eq_true_iff_forall_mem, Bool.or_eq_true, Bool.not_eq_true']
            intro e he
            cases hb : Region.binds .any e with
            | false => exact .inl rfl
            | true =>
              have hlt := hd.back j _ (List.getElem?_eq_getElem hj) e (Array.mem_toList_iff.2 he) hb
              exact .inr (ih e.on hlt (by omega))
        rw [hr] at hm; simp at hm
  intro fuel
  induction fuel with
  | zero =>
    intro listed β a w hsz hc hm st hk'
    have hall := all_of_miss (S := fun j => listed.getD j false) ops.length (by omega)
    refine ⟨?_, fin listed β a w hall st hk'⟩
    apply List.eq_nil_iff_forall_not_mem.2
    intro i hi
    obtain ⟨o, r⟩ := rdy listed i hsz hc hi
    have := hall i (List.getElem?_eq_some_iff.1 r.at_).1
    have hn := r.new
    rw [this] at hn; simp at hn
  | succ fuel ih =>
    intro listed β a w hsz hc hm st hk'
    refine ⟨fun hr => fin listed β a w (noRdy listed hsz hr) st hk', fun i hi => ?_⟩
    obtain ⟨o, r⟩ := rdy listed i hsz hc hi
    have hil : i < ops.length := (List.getElem?_eq_some_iff.1 r.at_).1
    have hs' : (listed.setIfInBounds i true).getD i false = true := by
      rw [Array.getD_eq_getD_getElem?, Array.getElem?_setIfInBounds_self_of_lt (by omega)]; rfl
    have ho : ∀ j, j ≠ i → (listed.setIfInBounds i true).getD j false = listed.getD j false := by
      intro j hj
      rw [Array.getD_eq_getD_getElem?, Array.getElem?_setIfInBounds_ne (Ne.symm hj), ← Array.getD_eq_getD_getElem?]
    have hc' : Closed ops (fun j => (listed.setIfInBounds i true).getD j false) := by
      intro j q hq hj e he hb
      by_cases heq : e.on = i
      · simp only [heq]; exact hs'
      · simp only
        rw [ho _ heq]
        by_cases hji : j = i
        · subst hji
          have := r.at_
          rw [hq] at this; simp at this; subst this
          exact r.before e he hb
        · simp only at hj
          rw [ho j hji] at hj
          exact hc j q hq hj e he hb
    have hm' : miss (fun j => (listed.setIfInBounds i true).getD j false) ops.length ≤ fuel := by
      have := miss_set (S := fun j => listed.getD j false) (S' := fun j => (listed.setIfInBounds i true).getD j false) r.new hs' (fun j hj => (ho j hj).symm) ops.length hil
      omega
    obtain ⟨hdst, b, hb, hb1, hb2⟩ := tr.step i o (Nat.zero_le _) r.at_
    have hlook : ∀ t, t ∈ looks ops o → valS ops sk (fun j => listed.getD j false) t = sk i t := fun t ht => r.slot hd tr ht
    have hwant := wanted_sound st (o := o) (ops := ops) (by rw [wantedB_congr hlook]; exact hb)
    have hnext := fun {x : PV} (hx : sk (i + 1) = updO (sk i) o.dst x) => r.next (S' := fun j => (listed.setIfInBounds i true).getD j false) hd tr hs' ho hx
    have hnextH := r.nextH (S' := fun j => (listed.setIfInBounds i true).getD j false) (sk := sk) (hk := hk) (ow := ow) (wf := wf) hd hs' ho
    unfold wpOp
    simp only [List.getElem?_toArray, r.at_]
    rw [hwant]
    cases b with
    | false =>
      obtain ⟨e1, e2⟩ := hb1 rfl
      simp only [Bool.false_eq_true, if_false]
      have st' := st.undef (d := o.dst) hdst
      rw [hnext e1] at st'
      have hwdf : wdB ow wf ops sk i = false := by
        cases hx : wdB ow wf ops sk i with
        | false => rfl
        | true =>
          obtain ⟨q, hq, _, hqw⟩ := wdB_iff.1 hx
          rw [r.at_] at hq; simp at hq; subst hq
          rw [hb] at hqw; simp at hqw
      have eh := hnextH.2 hwdf
      refine ih _ β _ w (by simpa using hsz) hc' hm' (by rw [eh]; exact st') (fun a' w' ht => hk' a' w' ?_)
      rw [eh] at ht; exact ht
    | true =>
      obtain ⟨e1, e2, e3⟩ := hb2 rfl
      simp only [if_true]
      left
      have hdoes := r.does hd tr hb
      have hops : ∀ t, .tmp t ∈ o.op.operands → sk i t = valS ops sk (fun j => listed.getD j false) t := fun t ht => (hlook t (by
        simp only [looks, List.mem_append, List.mem_filterMap]
        exact .inl (.inl ⟨.tmp t, Array.mem_toList_iff.2 ht, rfl⟩))).symm
      cases hiw : isW ow wf o with
      | true =>
        obtain ⟨g1, g2⟩ := hdoes.1 hiw
        have hwd : wdB ow wf ops sk i = true := wdB_iff.2 ⟨o, r.at_, hiw, hb⟩
        have eh := hnextH.1 hwd
        refine Does.wp st hdst (by rw [g1]; exact Does_congr hops g2) (fun a' w' ht => ?_)
        obtain ⟨s', h', β', ⟨rfl, rfl⟩, st', ex⟩ := ht
        rw [hnext e1] at st'
        refine ih _ β' a' w' (by simpa using hsz) hc' hm' (by rw [eh]; exact st') (fun a'' w'' ht' => hk' a'' w'' ?_)
        rw [eh] at ht'
        exact ht'.mono ex (fun _ _ x => x)
      | false =>
        have g2 := hdoes.2 hiw
        have hwd : wdB ow wf ops sk i = false := by
          cases hx : wdB ow wf ops sk i with
          | false => rfl
          | true =>
            obtain ⟨q, hq, hqw, _⟩ := wdB_iff.1 hx
            rw [r.at_] at hq; simp at hq; subst hq
            rw [hiw] at hqw; simp at hqw
        have eh := hnextH.2 hwd
        refine Does.wp st hdst (Does_congr hops g2) (fun a' w' ht => ?_)
        obtain ⟨s', h', β', ⟨rfl, rfl⟩, st', ex⟩ := ht
        rw [hnext e1] at st'
        refine ih _ β' a' w' (by simpa using hsz) hc' hm' (by rw [eh]; exact st') (fun a'' w'' ht' => hk' a'' w'' ?_)
        rw [eh] at ht'
        exact ht'.mono ex (fun _ _ x => x)

theorem dwp_sound {id : Nat} (hm : P.follows .mixedOrders = true) {β : Env} {s : Slots} {h : Heap} {a : Act} {w : World} {K : Slots → Heap → Prop} {Q : Exit → Act → World → Prop} (st : St n β s h a w) (hw : dwp P ow wf n ops K s h)
    (hk' : ∀ a' w', To n β h w K a' w' → Q .normal a' w') : (Code.region id ops.toArray true).wp P Q a w := by
  obtain ⟨h1, h2⟩ := hw
  have hd := DOk.of h1
  obtain ⟨sk, hk, vk, e1, e2, hK, tr, _, _⟩ := drun_tr ops 0 [] [] s h (by simp) h2
  rw [Nat.zero_add] at hK
  refine wp_region_any hm ?_
  obtain ⟨s1, s2⟩ := st.sim.drew
  have emp : ∀ (p : Nat → Bool), (fun j => ((Array.replicate ops.toArray.size false).getD j false && p j)) = fun _ => false := by
    intro p; funext j
    rw [Array.getD_eq_getD_getElem?, Array.getElem?_replicate]
    split <;> rfl
  have l0 : lastOf (fun _ => false) ops.length = 0 := lastOf_eq (Nat.zero_le _) (.inl rfl) (fun _ _ _ => rfl)
  have hval : valS ops sk (fun j => (Array.replicate ops.toArray.size false).getD j false) = s := by
    funext t; unfold valS; rw [emp, l0, e1]
  have hheap : heapS ow wf ops sk hk (fun j => (Array.replicate ops.toArray.size false).getD j false) = h := by
    unfold heapS; rw [emp, l0, e2]
  have hnone : ∀ j, (Array.replicate ops.toArray.size false).getD j false = false := by
    intro j; rw [Array.getD_eq_getD_getElem?, Array.getElem?_replicate]; split <;> rfl
  refine any_sound hd tr hK _ _ β a w.drew (by simp) (fun j o _ hj => by simp only [hnone] at hj; simp at hj) ?_ ?_ ?_
  · have : ∀ m, miss (fun j => (Array.replicate ops.toArray.size false).getD j false) m ≤ m := by
      intro m
      induction m with
      | zero => exact Nat.le_refl _
      | succ m ih => unfold miss; split <;> omega
    simpa using this ops.length
  · rw [hval, hheap]
    exact ⟨s1, fun t => s2.rep (st.rep t), st.size, st.defers⟩
  · rw [hheap]
    exact fun a' w' ht => hk' a' w' (ht.mono s2 (fun _ _ x => x))
end
end Go.AM
