/- Any order of a region ends as the order of the text: variables under numbers of their own. -/
import Derived.Test.YtdnpmfjfgamaeaaGreatAmFl2
import Derived.Orders
set_option linter.unusedVariables false
set_option linter.unusedSimpArgs false
set_option linter.unusedSectionVars false
namespace Go.AM
section
variable {P : Program} {ow : Nat → Bool} {wf : FuncId → Bool} {n : Nat} {ops : List Oper} {base : Nat}
structure DOk2 (ow : Nat → Bool) (wf : FuncId → Bool) (ops : List Oper) : Prop where
  back : ∀ (j : Nat) (o : Oper), ops[j]? = some o → ∀ e ∈ o.after.toList, Region.binds .any e = true → e.on < j
  nosel : ∀ (j : Nat) (o : Oper), ops[j]? = some o → ∀ cs b, o.op ≠ .select cs b
  slot : ∀ (i j : Nat) (q o : Oper), i ≠ j → ops[i]? = some q → ops[j]? = some o → ∀ d, q.dst = some d → d ∈ looks ops o → pre ops i j = true ∨ pre ops j i = true
  ww : ∀ (i j : Nat) (q o : Oper), i ≠ j → ops[i]? = some q → ops[j]? = some o → isW ow wf q = true → isW ow wf o = true → pre ops i j = true ∨ pre ops j i = true ∨ (i < j ∧ isAl o = true) ∨ (j < i ∧ isAl q = true)
theorem DOk2.of {ops : List Oper} (h : dOk2 ow wf ops = true) : DOk2 ow wf ops := by
  unfold dOk2 at h
  rw [List.all_eq_true] at h
  have hm : ∀ (j : Nat) (o : Oper), ops[j]? = some o → _ := fun j o ho => h (o, j) (List.mem_zipIdx_iff_getElem?.2 ho)
  refine ⟨fun j o ho e he hb => ?_, fun j o ho cs b hsel => ?_, fun i j q o hij hq ho d hd hl => ?_, fun i j q o hij hq ho h1 h2 => ?_⟩
  · have h0 := hm j o ho
    simp only [Bool.and_eq_true, List.all_eq_true] at h0
    have := h0.1.1 e he
    simpa [hb] using this
  · have h0 := hm j o ho
    simp only [Bool.and_eq_true] at h0
    have := h0.1.2
    rw [hsel] at this
    simp at this
  · have h0 := hm j o ho
    simp only [Bool.and_eq_true, List.all_eq_true] at h0
    have := h0.2 (q, i) (List.mem_zipIdx_iff_getElem?.2 hq)
    simp only [Bool.or_eq_true, Bool.and_eq_true, beq_iff_eq, hd, Bool.not_eq_true'] at this
    rcases this with h1 | ⟨h1, _⟩
    · exact absurd h1 hij
    · rcases h1 with (h1 | h1) | h1
      · rw [List.contains_iff_mem.2 hl] at h1; simp at h1
      · exact .inl h1
      · exact .inr h1
  · have h0 := hm j o ho
    simp only [Bool.and_eq_true, List.all_eq_true] at h0
    have := h0.2 (q, i) (List.mem_zipIdx_iff_getElem?.2 hq)
    simp only [Bool.or_eq_true, Bool.and_eq_true, beq_iff_eq, h1, h2, Bool.not_eq_true', Bool.and_self, Bool.true_eq_false, false_or, decide_eq_true_eq] at this
    rcases this with h3 | ⟨_, h3⟩
    · exact absurd h3 hij
    · rcases h3 with ((h3 | h3) | h3) | h3
      · exact .inl h3
      · exact .inr (.inl h3)
      · exact .inr (.inr (.inl h3))
      · exact .inr (.inr (.inr h3))

theorem pre_lt2 {ops : List Oper} (hd : DOk2 ow wf ops) : ∀ (j i : Nat), j < ops.length → pre ops i j = true → i < j := by
  intro j
  induction j using Nat.strongRecOn with
  | _ j ih =>
    intro i hj hp
    obtain ⟨e, h1, h2, h3⟩ := pre_spec (List.getElem?_eq_getElem hj) hp
    have hlt := hd.back j _ (List.getElem?_eq_getElem hj) e h1 h2
    rcases h3 with rfl | ⟨h4, h5⟩
    · exact hlt
    · exact Nat.lt_trans (ih e.on h4 i (by omega) h5) h4

variable {sk : Nat → Slots} {hk : Nat → Heap} {vk : Nat → PV}
theorem Tr2.slot_const (tr : Tr2 P ow wf n ops base 0 sk hk vk) {t : Nat} {i : Nat} : ∀ d, i + d ≤ ops.length → (∀ j, i ≤ j → j < i + d → wrB ops t j = false) → sk (i + d) t = sk i t
  | 0, _, _ => rfl
  | d + 1, hd, hw => by
    have ih := Tr2.slot_const tr (t := t) (i := i) d (by omega) (fun j h1 h2 => hw j h1 (by omega))
    rw [← ih]
    have hlt : i + d < ops.length := by omega
    obtain ⟨_, b, h1, h2, h3⟩ := tr.step (i + d) ops[i + d] (Nat.zero_le _) (List.getElem?_eq_getElem hlt)
    have hnw := hw (i + d) (by omega) (by omega)
    simp only [wrB, List.getElem?_eq_getElem hlt, Option.bind_some, decide_eq_false_iff_not] at hnw
    have hupd : ∀ v, updO (sk (i + d)) ops[i + d].dst v t = sk (i + d) t := by
      intro v
      cases hdst : ops[i + d].dst with
      | none => rfl
      | some dd =>
        simp only [updO, upd]
        rw [if_neg]
        intro e; subst e; exact hnw hdst
    rw [show i + (d + 1) = i + d + 1 by omega]
    cases b with
    | false => rw [(h2 rfl).1]; exact hupd _
    | true => rw [(h3 rfl).1]; exact hupd _
/-- a slot that the next operation looks at holds what it holds in the text's walk -/
theorem Rdy.slot2 (hd : DOk2 ow wf ops) (tr : Tr2 P ow wf n ops base 0 sk hk vk) {S : Nat → Bool} {i : Nat} {o : Oper} (r : Rdy ops S i o) {t : Nat} (ht : t ∈ looks ops o) : valS ops sk S t = sk i t := by
  have hi : i < ops.length := (List.getElem?_eq_some_iff.1 r.at_).1
  obtain ⟨h1, h2, h3⟩ := lastOf_spec (fun j => S j && wrB ops t j) ops.length
  unfold valS
  generalize lastOf (fun j => S j && wrB ops t j) ops.length = m at *
  -- a writer of t that is not this operation comes before or behind it
  have ord : ∀ j, j < ops.length → j ≠ i → wrB ops t j = true → Go.AM.pre ops j i = true ∨ Go.AM.pre ops i j = true := by
    intro j hj hne hw
    simp only [wrB, List.getElem?_eq_getElem hj, Option.bind_some, decide_eq_true_eq] at hw
    exact hd.slot j i _ o hne (List.getElem?_eq_getElem hj) r.at_ t hw ht
  rcases Nat.lt_or_ge i m with h4 | h4
  · -- a writer behind i has been done: none can be
    rcases h2 with h2 | ⟨k, h2, h5⟩
    · omega
    · simp only [Bool.and_eq_true] at h5
      by_cases hki : k = i
      · subst hki; rw [r.new] at h5; simp at h5
      · rcases ord k (by omega) hki h5.2 with h6 | h6
        · have := pre_lt2 hd i k hi h6; omega
        · rw [r.not_pre (by omega) h5.1] at h6; simp at h6
  · have := tr.slot_const (t := t) (i := m) (i - m) (by omega) (fun j h5 h6 => ?_)
    · rw [show m + (i - m) = i by omega] at this; exact this.symm
    · cases hw : wrB ops t j with
      | false => rfl
      | true =>
        have hns := h3 j h5 (by omega)
        rw [hw, Bool.and_true] at hns
        rcases ord j (by omega) (by omega) hw with h7 | h7
        · rw [r.bef h7] at hns; simp at hns
        · have := pre_lt2 hd j i (by omega) h7; omega

/-- the slots and the heap behind the next operation -/
theorem Rdy.next2 (hd : DOk2 ow wf ops) (tr : Tr2 P ow wf n ops base 0 sk hk vk) {S S' : Nat → Bool} {i : Nat} {o : Oper} (r : Rdy ops S i o) (hs' : S' i = true) (ho : ∀ j, j ≠ i → S' j = S j) {x : PV} (hx : sk (i + 1) = updO (sk i) o.dst x) :
    updO (valS ops sk S) o.dst x = valS ops sk S' := by
  have hi : i < ops.length := (List.getElem?_eq_some_iff.1 r.at_).1
  funext t
  have hwr : wrB ops t i = decide (o.dst = some t) := by simp [wrB, r.at_]
  by_cases ht : o.dst = some t
  · have hl : t ∈ looks ops o := by simp [looks, ht]
    have h1 : updO (valS ops sk S) o.dst x t = x := by rw [ht]; simp [updO, upd]
    have h2 : sk (i + 1) t = x := by rw [hx, ht]; simp [updO, upd]
    rw [h1, ← h2]
    unfold valS
    rw [lastOf_eq (m := i + 1) (by omega) (.inr ⟨i, rfl, by rw [hs', hwr]; simp [ht]⟩)]
    intro j h3 h4
    cases hw : wrB ops t j with
    | false => simp
    | true =>
      cases hsj : S' j with
      | false => simp
      | true =>
        rw [ho j (by omega)] at hsj
        simp only [wrB, List.getElem?_eq_getElem h4, Option.bind_some, decide_eq_true_eq] at hw
        rcases hd.slot j i _ o (by omega) (List.getElem?_eq_getElem h4) r.at_ t hw hl with h7 | h7
        · have := pre_lt2 hd i j hi h7; omega
        · rw [r.not_pre h4 hsj] at h7; simp at h7
  · have h1 : updO (valS ops sk S) o.dst x t = valS ops sk S t := by
      cases hdst : o.dst with
      | none => rfl
      | some d =>
        simp only [updO, upd]
        rw [if_neg]
        intro e; subst e; exact ht hdst
    rw [h1]
    unfold valS
    rw [lastOf_congr ops.length (fun j hj => ?_)]
    by_cases hji : j = i
    · subst hji; rw [hwr]; simp [ht]
    · rw [ho j hji]

/-- the variable that operation f makes -/
def obR (P : Program) (ops : List Oper) (f : Nat) : AObj := match ops[f]? with
  | some o => (match o.op with
    | .alloc t => (match zeroT P t with
      | some zs => .arr zs.length [zs.map .sc]
      | none => .arr 0 [])
    | _ => .arr 0 [])
  | none => .arr 0 []
def wfl (ow : Nat → Bool) (wf : FuncId → Bool) (ops : List Oper) (sk : Nat → Slots) (f : Nat) : Bool := wdB ow wf ops sk f && alB ops f
def wnf (ow : Nat → Bool) (wf : FuncId → Bool) (ops : List Oper) (sk : Nat → Slots) (f : Nat) : Bool := wdB ow wf ops sk f && !(alB ops f)
def MS (ow : Nat → Bool) (wf : FuncId → Bool) (ops : List Oper) (sk : Nat → Slots) (S : Nat → Bool) : Nat := lastOf (fun j => S j && wnf ow wf ops sk j) ops.length
def pS (ow : Nat → Bool) (wf : FuncId → Bool) (ops : List Oper) (sk : Nat → Slots) (S : Nat → Bool) (j f : Nat) : Bool := decide (j ≤ f) && S f && wfl ow wf ops sk f
/-- the heap where the operations of S are done -/
def heapR (P : Program) (ow : Nat → Bool) (wf : FuncId → Bool) (ops : List Oper) (base : Nat) (sk : Nat → Slots) (hk : Nat → Heap) (S : Nat → Bool) : Heap :=
  ovl (hk (MS ow wf ops sk S)) base (obR P ops) (pS ow wf ops sk S (MS ow wf ops sk S))

theorem wdB_lt {j : Nat} (h : wdB ow wf ops sk j = true) : j < ops.length := by
  obtain ⟨o, ho, _⟩ := wdB_iff.1 h
  exact (List.getElem?_eq_some_iff.1 ho).1
theorem wfl_lt {j : Nat} (h : wfl ow wf ops sk j = true) : j < ops.length := by
  unfold wfl at h; simp only [Bool.and_eq_true] at h; exact wdB_lt h.1
theorem Tr2.constH (tr : Tr2 P ow wf n ops base 0 sk hk vk) {j : Nat} (hj : j < ops.length) (hw : wdB ow wf ops sk j = false) : hk (j + 1) = hk j := by
  obtain ⟨_, b, h1, h2, h3⟩ := tr.step j ops[j] (Nat.zero_le _) (List.getElem?_eq_getElem hj)
  cases b with
  | false => exact (h2 rfl).2
  | true =>
    refine (h3 rfl).2.2.1 ?_
    cases hiw : isW ow wf ops[j] with
    | false => rfl
    | true =>
      have : wdB ow wf ops sk j = true := wdB_iff.2 ⟨_, List.getElem?_eq_getElem hj, hiw, h1⟩
      rw [hw] at this; simp at this
theorem Tr2.stepF (tr : Tr2 P ow wf n ops base 0 sk hk vk) {j : Nat} (hw : wfl ow wf ops sk j = true) :
    ∃ o t zs, ops[j]? = some o ∧ o.op = .alloc t ∧ zeroT P t = some zs ∧ 0 < zs.length ∧ obR P ops j = .arr zs.length [zs.map .sc] ∧ vk j = .ptr (base + j) 0 0 ∧ hk (j + 1) = (hk j).set (base + j) (obR P ops j) := by
  unfold wfl at hw
  simp only [Bool.and_eq_true] at hw
  obtain ⟨o, ho, hiw, hwt⟩ := wdB_iff.1 hw.1
  have hal := hw.2
  unfold alB at hal
  rw [ho] at hal
  simp only [isAl] at hal
  split at hal
  case h_2 => simp at hal
  rename_i t hop
  obtain ⟨_, b, h1, _, h3⟩ := tr.step j o (Nat.zero_le _) ho
  rw [hwt] at h1; simp at h1; subst h1
  have hd := (h3 rfl).2.1
  unfold DoesR at hd
  rw [hop] at hd
  simp only at hd
  obtain ⟨zs, hz, hpos, hv, hh⟩ := hd
  have hob : obR P ops j = .arr zs.length [zs.map .sc] := by unfold obR; rw [ho]; simp only [hop, hz]
  exact ⟨o, t, zs, ho, hop, hz, hpos, hob, hv, by rw [hob]; exact hh⟩
theorem Tr2.noneH (tr : Tr2 P ow wf n ops base 0 sk hk vk) (h0 : ∀ f, alB ops f = true → (hk 0).obj (base + f) = none) : ∀ j, j ≤ ops.length → ∀ f, j ≤ f → alB ops f = true → (hk j).obj (base + f) = none
  | 0, _, f, _, hf => h0 f hf
  | j + 1, hj, f, hle, hf => by
    cases hw : wdB ow wf ops sk j with
    | false => rw [tr.constH (by omega) hw]; exact Tr2.noneH tr h0 j (by omega) f (by omega) hf
    | true =>
      obtain ⟨o, ho, hiw, hwt⟩ := wdB_iff.1 hw
      obtain ⟨_, b, h1, _, h3⟩ := tr.step j o (Nat.zero_le _) ho
      rw [hwt] at h1; simp at h1; subst h1
      exact (h3 rfl).2.2.2 hiw f (by omega) hf
theorem Tr2.seg (tr : Tr2 P ow wf n ops base 0 sk hk vk) {M : Nat} : ∀ d, M + d ≤ ops.length → (∀ j, M ≤ j → j < M + d → wnf ow wf ops sk j = false) →
    hk (M + d) = ovl (hk M) base (obR P ops) (fun f => decide (M ≤ f) && decide (f < M + d) && wfl ow wf ops sk f)
  | 0, _, _ => by
    rw [ovl_none (fun f => ?_)]
    · rfl
    · by_cases h : M ≤ f
      · have : ¬ f < M + 0 := by omega
        simp only [this, decide_false, Bool.and_false, Bool.false_and]
      · simp [h]
  | d + 1, hd, hn => by
    have ih := Tr2.seg tr d (by omega) (fun j h1 h2 => hn j h1 (by omega))
    cases hw : wfl ow wf ops sk (M + d) with
    | true =>
      obtain ⟨_, _, _, _, _, _, _, _, _, hh⟩ := tr.stepF hw
      rw [show M + (d + 1) = M + d + 1 by omega, hh, ih]
      refine (ovl_set (p := fun f => decide (M ≤ f) && decide (f < M + d) && wfl ow wf ops sk f) ?_ (fun f hf => ?_)).symm
      · simp [hw]
      · rw [show decide (f < M + d + 1) = decide (f < M + d) by simp; omega]
    | false =>
      have hnw := hn (M + d) (by omega) (by omega)
      have hwd : wdB ow wf ops sk (M + d) = false := by
        unfold wfl at hw; unfold wnf at hnw
        cases hx : wdB ow wf ops sk (M + d) with
        | false => rfl
        | true => rw [hx] at hw hnw; simp at hw hnw; rw [hw] at hnw; simp at hnw
      rw [show M + (d + 1) = M + d + 1 by omega, tr.constH (by omega) hwd, ih]
      refine ovl_congr fun f => ?_
      by_cases hf : f = M + d
      · subst hf; simp [hw]
      · rw [show decide (f < M + d + 1) = decide (f < M + d) by simp; omega]
theorem Tr2.heap_at (tr : Tr2 P ow wf n ops base 0 sk hk vk) {S : Nat → Bool} {j : Nat} (h1 : MS ow wf ops sk S ≤ j) (h2 : j ≤ ops.length) (h3 : ∀ i, MS ow wf ops sk S ≤ i → i < j → wnf ow wf ops sk i = false) (h4 : ∀ f, MS ow wf ops sk S ≤ f → f < j → wfl ow wf ops sk f = true → S f = true) :
    heapR P ow wf ops base sk hk S = ovl (hk j) base (obR P ops) (pS ow wf ops sk S j) := by
  unfold heapR
  generalize MS ow wf ops sk S = M at *
  obtain ⟨d, rfl⟩ : ∃ d, j = M + d := ⟨j - M, by omega⟩
  rw [tr.seg d h2 h3]
  refine heap_ext rfl fun id => ?_
  simp only [ovl]
  by_cases hb : base ≤ id
  · generalize id - base = f
    simp only [hb, true_and]
    unfold pS
    by_cases c1 : M ≤ f
    · by_cases c2 : f < M + d
      · have : ¬ M + d ≤ f := by omega
        cases hw : wfl ow wf ops sk f with
        | false => simp
        | true => simp [c1, c2, this, h4 f c1 c2 hw]
      · have : M + d ≤ f := by omega
        simp [c1, c2, this]
    · have : ¬ M + d ≤ f := by omega
      simp [c1, this]
  · simp [hb]

/-- where the last change stands, and the next operation -/
theorem Rdy.nf (hd : DOk2 ow wf ops) {S : Nat → Bool} {i : Nat} {o : Oper} (r : Rdy ops S i o) (hw : wdB ow wf ops sk i = true) : MS ow wf ops sk S ≤ i := by
  obtain ⟨h1, h2, h3⟩ := lastOf_spec (fun j => S j && wnf ow wf ops sk j) ops.length
  unfold MS
  generalize lastOf (fun j => S j && wnf ow wf ops sk j) ops.length = m at *
  rcases h2 with h2 | ⟨k, h2, h5⟩
  · omega
  · simp only [Bool.and_eq_true] at h5
    rcases Nat.lt_or_ge i m with h4 | h4
    · have hki : k ≠ i := by intro e; subst e; rw [r.new] at h5; simp at h5
      have h6 := h5.2
      unfold wnf at h6
      simp only [Bool.and_eq_true, Bool.not_eq_true'] at h6
      obtain ⟨q, hq, hqw, _⟩ := wdB_iff.1 h6.1
      obtain ⟨q', hq', hqw', _⟩ := wdB_iff.1 hw
      rw [r.at_] at hq'; simp at hq'; subst hq'
      have hal : isAl q = false := by have := h6.2; unfold alB at this; rw [hq] at this; exact this
      have hi : i < ops.length := (List.getElem?_eq_some_iff.1 r.at_).1
      rcases hd.ww k i q o hki hq r.at_ hqw hqw' with h7 | h7 | h7 | h7
      · have := pre_lt2 hd i k hi h7; omega
      · rw [r.not_pre (by omega) h5.1] at h7; simp at h7
      · omega
      · rw [hal] at h7; simp at h7
    · exact h4
theorem MS_spec {S : Nat → Bool} {j : Nat} (h1 : MS ow wf ops sk S ≤ j) (h2 : j < ops.length) (h3 : S j = true) : wnf ow wf ops sk j = false := by
  have := (lastOf_spec (fun j => S j && wnf ow wf ops sk j) ops.length).2.2 j h1 h2
  simpa [h3] using this
theorem MS_same {S S' : Nat → Bool} {i : Nat} (hw : wnf ow wf ops sk i = false) (ho : ∀ j, j ≠ i → S' j = S j) : MS ow wf ops sk S' = MS ow wf ops sk S := by
  unfold MS
  refine lastOf_congr ops.length fun j hj => ?_
  by_cases hji : j = i
  · subst hji; simp [hw]
  · rw [ho j hji]
theorem heapR_same {S S' : Nat → Bool} {i : Nat} (hw : wdB ow wf ops sk i = false) (ho : ∀ j, j ≠ i → S' j = S j) : heapR P ow wf ops base sk hk S' = heapR P ow wf ops base sk hk S := by
  have hn : wnf ow wf ops sk i = false := by unfold wnf; rw [hw]; rfl
  have hf : wfl ow wf ops sk i = false := by unfold wfl; rw [hw]; rfl
  unfold heapR
  rw [MS_same hn ho]
  refine ovl_congr fun f => ?_
  unfold pS
  by_cases hfi : f = i
  · subst hfi; simp [hf]
  · rw [ho f hfi]

/-- what the next operation does, and where -/
theorem Rdy.doesW (hd : DOk2 ow wf ops) (tr : Tr2 P ow wf n ops base 0 sk hk vk) {S : Nat → Bool} {i : Nat} {o : Oper} (r : Rdy ops S i o) (hw : wnf ow wf ops sk i = true) :
    heapR P ow wf ops base sk hk S = ovl (hk i) base (obR P ops) (pS ow wf ops sk S i) := by
  have hw0 := hw
  unfold wnf at hw
  simp only [Bool.and_eq_true, Bool.not_eq_true'] at hw
  obtain ⟨q', hq', hqw', _⟩ := wdB_iff.1 hw.1
  rw [r.at_] at hq'; simp at hq'; subst hq'
  have hal : isAl o = false := by have := hw.2; unfold alB at this; rw [r.at_] at this; exact this
  have hi : i < ops.length := (List.getElem?_eq_some_iff.1 r.at_).1
  have key : ∀ j, j < i → wdB ow wf ops sk j = true → S j = true := by
    intro j hj hwj
    obtain ⟨q, hq, hqw, _⟩ := wdB_iff.1 hwj
    rcases hd.ww j i q o (by omega) hq r.at_ hqw hqw' with h7 | h7 | h7 | h7
    · exact r.bef h7
    · have := pre_lt2 hd j i (by omega) h7; omega
    · rw [hal] at h7; simp at h7
    · omega
  refine tr.heap_at (r.nf hd hw.1) (by omega) (fun j h1 h2 => ?_) (fun f h1 h2 h3 => ?_)
  · cases hx : wnf ow wf ops sk j with
    | false => rfl
    | true =>
      have hx' := hx
      unfold wnf at hx'
      simp only [Bool.and_eq_true] at hx'
      rw [MS_spec h1 (by omega) (key j h2 hx'.1)] at hx
      simp at hx
  · unfold wfl at h3
    simp only [Bool.and_eq_true] at h3
    exact key f h2 h3.1
theorem Rdy.nextW (hd : DOk2 ow wf ops) {S S' : Nat → Bool} {i : Nat} {o : Oper} (r : Rdy ops S i o) (hw : wnf ow wf ops sk i = true) (hs' : S' i = true) (ho : ∀ j, j ≠ i → S' j = S j) :
    heapR P ow wf ops base sk hk S' = ovl (hk (i + 1)) base (obR P ops) (pS ow wf ops sk S i) := by
  have hi : i < ops.length := (List.getElem?_eq_some_iff.1 r.at_).1
  have hw' := hw
  unfold wnf at hw'
  simp only [Bool.and_eq_true, Bool.not_eq_true'] at hw'
  have hM : MS ow wf ops sk S' = i + 1 := by
    unfold MS
    refine lastOf_eq (by omega) (.inr ⟨i, rfl, by rw [hs', hw]; rfl⟩) fun j h1 h2 => ?_
    cases hsj : S' j with
    | false => rfl
    | true =>
      rw [ho j (by omega)] at hsj
      have := MS_spec (ow := ow) (wf := wf) (sk := sk) (by have := r.nf (sk := sk) hd hw'.1; omega) h2 hsj
      simp [this]
  unfold heapR
  rw [hM]
  refine ovl_congr fun f => ?_
  unfold pS
  have hf : wfl ow wf ops sk i = false := by unfold wfl; rw [hw'.2]; simp
  by_cases hfi : f = i
  · subst hfi; simp [hf]
  · rw [ho f hfi, show decide (i + 1 ≤ f) = decide (i ≤ f) by simp; omega]
theorem Rdy.nextF (hd : DOk2 ow wf ops) (tr : Tr2 P ow wf n ops base 0 sk hk vk) (h0 : ∀ f, alB ops f = true → (hk 0).obj (base + f) = none) {S S' : Nat → Bool} {i : Nat} {o : Oper} (r : Rdy ops S i o) (hw : wfl ow wf ops sk i = true) (hs' : S' i = true) (ho : ∀ j, j ≠ i → S' j = S j) :
    heapR P ow wf ops base sk hk S' = (heapR P ow wf ops base sk hk S).set (base + i) (obR P ops i) ∧ (heapR P ow wf ops base sk hk S).obj (base + i) = none := by
  have hi : i < ops.length := (List.getElem?_eq_some_iff.1 r.at_).1
  have hw' := hw
  unfold wfl at hw'
  simp only [Bool.and_eq_true] at hw'
  have hn : wnf ow wf ops sk i = false := by unfold wnf; rw [hw'.2]; simp
  have hM := r.nf (sk := sk) hd hw'.1
  constructor
  · unfold heapR
    rw [MS_same hn ho]
    refine ovl_set ?_ fun f hf => ?_
    · simp [pS, hM, hs', hw]
    · unfold pS; rw [ho f hf]
  · unfold heapR
    simp only [ovl]
    rw [if_neg (by rw [show base + i - base = i by omega]; simp [pS, r.new])]
    exact tr.noneH h0 _ (by omega) i hM hw'.2
theorem Rdy.doesN (hd : DOk2 ow wf ops) (tr : Tr2 P ow wf n ops base 0 sk hk vk) {S : Nat → Bool} {i : Nat} {o : Oper} (r : Rdy ops S i o) (hiw : isW ow wf o = false) (hw : wantedB ops (sk i) o = some true) :
    ∃ j, j ≤ ops.length ∧ MS ow wf ops sk S ≤ j ∧ heapR P ow wf ops base sk hk S = ovl (hk j) base (obR P ops) (pS ow wf ops sk S j) ∧ Does P ow o (pev (sk i)) (hk j) (vk i) (hk j) := by
  have hi : i < ops.length := (List.getElem?_eq_some_iff.1 r.at_).1
  have hN : Nd ow wf ops sk i o := ⟨r.at_, hiw, hw⟩
  have hwi : wdB ow wf ops sk i = false := by
    cases hx : wdB ow wf ops sk i with
    | false => rfl
    | true =>
      obtain ⟨q, hq, hqw, _⟩ := wdB_iff.1 hx
      rw [r.at_] at hq; simp at hq; subst hq
      rw [hiw] at hqw; simp at hqw
  obtain ⟨_, b, h1, _, h3⟩ := tr.step i o (Nat.zero_le _) r.at_
  rw [hw] at h1; simp at h1; subst h1
  have hdo := (doesR_of hiw).1 (h3 rfl).2.1
  rw [(h3 rfl).2.2.1 hiw] at hdo
  have hMl : MS ow wf ops sk S ≤ ops.length := (lastOf_spec _ _).1
  rcases Nat.lt_or_ge i (MS ow wf ops sk S) with h4 | h4
  · rcases (lastOf_spec (fun j => S j && wnf ow wf ops sk j) ops.length).2.1 with h5 | ⟨k, h5, h6⟩
    · unfold MS at h4; omega
    · simp only [Bool.and_eq_true] at h6
      have hk' : MS ow wf ops sk S = k + 1 := h5
      have hwk : wdB ow wf ops sk k = true := by have := h6.2; unfold wnf at this; simp only [Bool.and_eq_true] at this; exact this.1
      have hki : k ≠ i := by intro e; subst e; rw [hwi] at hwk; simp at hwk
      refine ⟨k + 1, by omega, by omega, ?_, ?_⟩
      · have := tr.heap_at (S := S) (j := k + 1) (by omega) (by omega) (fun j a c => by omega) (fun f a c => by omega)
        exact this
      · rcases (tr.apart i k o (Nat.zero_le _) (Nat.zero_le _) hN (wdB_iff.1 hwk)).1 (by omega) with h7 | h7
        · rw [r.not_pre (by omega) h6.1] at h7; simp at h7
        · exact h7
  · have hex : (∀ j, MS ow wf ops sk S ≤ j → j < i → wdB ow wf ops sk j = true → S j = true) ∨ ∃ j, MS ow wf ops sk S ≤ j ∧ j < i ∧ wdB ow wf ops sk j = true ∧ S j = false ∧ ∀ l, MS ow wf ops sk S ≤ l → l < j → wdB ow wf ops sk l = true → S l = true := by
      have : ∀ d, (∀ j, MS ow wf ops sk S ≤ j → j < MS ow wf ops sk S + d → wdB ow wf ops sk j = true → S j = true) ∨ ∃ j, MS ow wf ops sk S ≤ j ∧ j < MS ow wf ops sk S + d ∧ wdB ow wf ops sk j = true ∧ S j = false ∧ ∀ l, MS ow wf ops sk S ≤ l → l < j → wdB ow wf ops sk l = true → S l = true := by
        intro d
        induction d with
        | zero => left; intro j a b; omega
        | succ d ih =>
          rcases ih with ih | ⟨j, g1, g2, g3⟩
          · by_cases hx : wdB ow wf ops sk (MS ow wf ops sk S + d) = true ∧ S (MS ow wf ops sk S + d) = false
            · exact .inr ⟨_, by omega, by omega, hx.1, hx.2, ih⟩
            · left; intro j a b hj
              rcases Nat.lt_or_ge j (MS ow wf ops sk S + d) with c | c
              · exact ih j a c hj
              · have : j = MS ow wf ops sk S + d := by omega
                subst this
                cases hs : S (MS ow wf ops sk S + d) with
                | true => rfl
                | false => exact (hx ⟨hj, hs⟩).elim
          · exact .inr ⟨j, g1, by omega, g3⟩
      have := this (i - MS ow wf ops sk S)
      rwa [show MS ow wf ops sk S + (i - MS ow wf ops sk S) = i by omega] at this
    have fromAll : ∀ j, j ≤ ops.length → MS ow wf ops sk S ≤ j → (∀ l, MS ow wf ops sk S ≤ l → l < j → wdB ow wf ops sk l = true → S l = true) → heapR P ow wf ops base sk hk S = ovl (hk j) base (obR P ops) (pS ow wf ops sk S j) := by
      intro j hj hM hall
      refine tr.heap_at hM hj (fun l a c => ?_) (fun f a c hf => ?_)
      · cases hx : wnf ow wf ops sk l with
        | false => rfl
        | true =>
          have hx' := hx
          unfold wnf at hx'
          simp only [Bool.and_eq_true] at hx'
          rw [MS_spec a (by omega) (hall l a c hx'.1)] at hx
          simp at hx
      · unfold wfl at hf
        simp only [Bool.and_eq_true] at hf
        exact hall f a c hf.1
    rcases hex with hall | ⟨j, g1, g2, g3, g4, g5⟩
    · exact ⟨i, by omega, h4, fromAll i (by omega) h4 hall, hdo⟩
    · refine ⟨j, by omega, g1, fromAll j (by omega) g1 g5, ?_⟩
      rcases (tr.apart i j o (Nat.zero_le _) (Nat.zero_le _) hN (wdB_iff.1 g3)).2 g2 with h7 | h7
      · rw [r.bef h7] at g4; simp at g4
      · exact h7
end
end Go.AM
