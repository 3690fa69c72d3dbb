/- The walk in the order of the text stands for the walk in any order. -/
import Derived.Test.YtdnpmfjfgamaeaaGreatAmDraw
set_option linter.unusedVariables false
set_option linter.unusedSimpArgs false
set_option linter.unusedSectionVars false
namespace Go.AM
section
variable {P : Program} {ow : Nat → Bool} {wf : FuncId → Bool} {n : Nat} {ops : List Oper}

/-- operation j of the text's walk is wanted and changes the heap -/
def Wd (ow : Nat → Bool) (wf : FuncId → Bool) (ops : List Oper) (sk : Nat → Slots) (j : Nat) : Prop := ∃ o, ops[j]? = some o ∧ isW ow wf o = true ∧ wantedB ops (sk j) o = some true
/-- operation j is wanted and does not change the heap -/
def Nd (ow : Nat → Bool) (wf : FuncId → Bool) (ops : List Oper) (sk : Nat → Slots) (j : Nat) (o : Oper) : Prop := ops[j]? = some o ∧ isW ow wf o = false ∧ wantedB ops (sk j) o = some true

/-- the walk in the order of the text, from operation k on -/
structure Tr (P : Program) (ow : Nat → Bool) (wf : FuncId → Bool) (n : Nat) (ops : List Oper) (k : Nat) (sk : Nat → Slots) (hk : Nat → Heap) (vk : Nat → PV) : Prop where
  step : ∀ (j : Nat) (o : Oper), k ≤ j → ops[j]? = some o → o.dst.all (fun d => decide (d < n)) = true ∧ ∃ b, wantedB ops (sk j) o = some b ∧
    (b = false → sk (j + 1) = updO (sk j) o.dst (.sc undef) ∧ hk (j + 1) = hk j) ∧
    (b = true → sk (j + 1) = updO (sk j) o.dst (vk j) ∧ Does P ow o (pev (sk j)) (hk j) (vk j) (hk (j + 1)) ∧ (isW ow wf o = false → hk (j + 1) = hk j))
  apart : ∀ (i j : Nat) (o : Oper), k ≤ i → k ≤ j → Nd ow wf ops sk i o → Wd ow wf ops sk j →
    (i < j → pre ops i j = true ∨ Does P ow o (pev (sk i)) (hk (j + 1)) (vk i) (hk (j + 1))) ∧ (j < i → pre ops j i = true ∨ Does P ow o (pev (sk i)) (hk j) (vk i) (hk j))

def atk {α : Type} (k : Nat) (x : α) (f : Nat → α) : Nat → α := fun j => if j = k then x else f j
theorem atk_self {α : Type} {k : Nat} {x : α} {f : Nat → α} : atk k x f k = x := if_pos rfl
theorem atk_ne {α : Type} {k j : Nat} {x : α} {f : Nat → α} (h : j ≠ k) : atk k x f j = f j := if_neg h
theorem drun_tr {K : Slots → Heap → Prop} : ∀ (l : List Oper) (k : Nat) (past : List (Nat × (Heap → Prop))) (hist : List (Nat × Heap)) (s : Slots) (h : Heap), l = ops.drop k → drun P ow wf n ops k l past hist K s h →
    ∃ sk hk vk, sk k = s ∧ hk k = h ∧ (K (sk (k + l.length)) (hk (k + l.length))) ∧ Tr P ow wf n ops k sk hk vk ∧
      (∀ x ∈ past, ∀ j, k ≤ j → Wd ow wf ops sk j → pre ops x.1 j = true ∨ x.2 (hk (j + 1))) ∧
      (∀ x ∈ hist, ∀ i o, k ≤ i → Nd ow wf ops sk i o → pre ops x.1 i = true ∨ Does P ow o (pev (sk i)) x.2 (vk i) x.2)
  | [], k, past, hist, s, h, hl, hd => by
    simp only [drun] at hd
    have hk : ops.length ≤ k := by
      have := congrArg List.length hl
      simp at this; omega
    have hno : ∀ (j : Nat) (o : Oper), k ≤ j → ops[j]? = some o → False := fun j o hj ho => by
      have := (List.getElem?_eq_some_iff.1 ho).1; omega
    refine ⟨fun _ => s, fun _ => h, fun _ => .emp, rfl, rfl, hd, ⟨fun j o hj ho => (hno j o hj ho).elim, fun i j o hi _ hn _ => (hno i o hi hn.1).elim⟩, fun x _ j hj hw => ?_, fun x _ i o hi hn => (hno i o hi hn.1).elim⟩
    obtain ⟨o, ho, _⟩ := hw
    exact (hno j o hj ho).elim
  | o :: rest, k, past, hist, s, h, hl, hd => by
    have hok : ops[k]? = some o := by
      have : (ops.drop k)[0]? = some o := by rw [← hl]; rfl
      simpa using this
    have hrest : rest = ops.drop (k + 1) := by
      have := congrArg List.tail hl
      simpa using this
    simp only [drun] at hd
    obtain ⟨hdst, hd⟩ := hd
    have ext : ∀ {sk' : Nat → Slots} {j : Nat}, k + 1 ≤ j → (atk k s sk') j = sk' j := fun hj => atk_ne (by omega)
    have exth : ∀ {hk' : Nat → Heap} {j : Nat}, k + 1 ≤ j → (atk k h hk') j = hk' j := fun hj => atk_ne (by omega)
    split at hd
    · exact hd.elim
    · rename_i b hb
      cases b with
      | false =>
        simp only [Bool.false_eq_true, if_false] at hd
        obtain ⟨sk', hk', vk', e1, e2, e3, tr, hp, hh⟩ := drun_tr rest (k + 1) past hist _ _ hrest hd
        have hnW : ¬ Wd ow wf ops (atk k s sk') k := by
          rintro ⟨q, hq, _, hw⟩
          rw [hok] at hq; simp at hq; subst hq
          rw [atk_self, hb] at hw; simp at hw
        have hnN : ∀ q, ¬ Nd ow wf ops (atk k s sk') k q := by
          rintro q ⟨hq, _, hw⟩
          rw [hok] at hq; simp at hq; subst hq
          rw [atk_self, hb] at hw; simp at hw
        have wdE : ∀ j, k + 1 ≤ j → Wd ow wf ops (atk k s sk') j → Wd ow wf ops sk' j := by
          intro j hj hw; unfold Wd at hw ⊢; rw [ext hj] at hw; exact hw
        have ndE : ∀ j q, k + 1 ≤ j → Nd ow wf ops (atk k s sk') j q → Nd ow wf ops sk' j q := by
          intro j q hj hw; unfold Nd at hw ⊢; rw [ext hj] at hw; exact hw
        have gt : ∀ j, k ≤ j → Wd ow wf ops (atk k s sk') j → k + 1 ≤ j := by
          intro j hj hw
          rcases Nat.lt_or_ge k j with h1 | h1
          · exact h1
          · have : j = k := by omega
            subst this; exact (hnW hw).elim
        have gtn : ∀ j q, k ≤ j → Nd ow wf ops (atk k s sk') j q → k + 1 ≤ j := by
          intro j q hj hw
          rcases Nat.lt_or_ge k j with h1 | h1
          · exact h1
          · have : j = k := by omega
            subst this; exact (hnN q hw).elim
        refine ⟨atk k s sk', atk k h hk', vk', atk_self, atk_self, ?_, ⟨fun j q hj hq => ?_, fun i j q hi hj hn hw => ?_⟩, fun x hx j hj hw => ?_, fun x hx i q hi hn => ?_⟩
        · rw [atk_ne (by simp), atk_ne (by simp)]
          rw [show k + (o :: rest).length = k + 1 + rest.length by simp; omega]
          exact e3
        · rcases Nat.lt_or_ge k j with h1 | h1
          · obtain ⟨t1, t2⟩ := tr.step j q h1 hq
            refine ⟨t1, ?_⟩
            rw [ext (sk' := sk') h1, ext (sk' := sk') (by omega : k + 1 ≤ j + 1), exth (hk' := hk') h1, exth (hk' := hk') (by omega : k + 1 ≤ j + 1)]
            exact t2
          · have hjk : j = k := by omega
            subst hjk
            rw [hok] at hq; simp at hq; subst hq
            refine ⟨hdst, false, by rw [atk_self]; exact hb, fun _ => ?_, fun hc => by cases hc⟩
            rw [ext (sk' := sk') (Nat.le_refl _), exth (hk' := hk') (Nat.le_refl _)]
            simp [e1, e2, atk_self]
        · have hi' := gtn i q hi hn
          have hj' := gt j hj hw
          have := tr.apart i j q hi' hj' (ndE i q hi' hn) (wdE j hj' hw)
          rw [ext (sk' := sk') hi', exth (hk' := hk') (by omega : k + 1 ≤ j + 1), exth (hk' := hk') hj']
          exact this
        · have hj' := gt j hj hw
          have := hp x hx j hj' (wdE j hj' hw)
          rw [exth (hk' := hk') (by omega : k + 1 ≤ j + 1)]
          exact this
        · have hi' := gtn i q hi hn
          have := hh x hx i q hi' (ndE i q hi' hn)
          rw [ext (sk' := sk') hi']
          exact this
      | true =>
        simp only [if_true] at hd
        split at hd
        · rename_i hw
          obtain ⟨v, h', hdo, hpast, hd⟩ := hd
          obtain ⟨sk', hk', vk', e1, e2, e3, tr, hp, hh⟩ := drun_tr rest (k + 1) past ((k, h) :: hist) _ _ hrest hd
          have hnN : ∀ q, ¬ Nd ow wf ops (atk k s sk') k q := by
            rintro q ⟨hq, hq2, _⟩
            rw [hok] at hq; simp at hq; subst hq
            rw [hw] at hq2; simp at hq2
          have wdE : ∀ j, k + 1 ≤ j → Wd ow wf ops (atk k s sk') j → Wd ow wf ops sk' j := by
            intro j hj hw; unfold Wd at hw ⊢; rw [ext hj] at hw; exact hw
          have ndE : ∀ j q, k + 1 ≤ j → Nd ow wf ops (atk k s sk') j q → Nd ow wf ops sk' j q := by
            intro j q hj hw; unfold Nd at hw ⊢; rw [ext hj] at hw; exact hw
          have gtn : ∀ j q, k ≤ j → Nd ow wf ops (atk k s sk') j q → k + 1 ≤ j := by
            intro j q hj hw
            rcases Nat.lt_or_ge k j with h1 | h1
            · exact h1
            · have : j = k := by omega
              subst this; exact (hnN q hw).elim
          have vkE : ∀ {j}, k + 1 ≤ j → (atk k v vk') j = vk' j := fun hj => atk_ne (by omega)
          refine ⟨atk k s sk', atk k h hk', atk k v vk', atk_self, atk_self, ?_, ⟨fun j q hj hq => ?_, fun i j q hi hj hn hwd => ?_⟩, fun x hx j hj hwd => ?_, fun x hx i q hi hn => ?_⟩
          · rw [atk_ne (by simp), atk_ne (by simp)]
            rw [show k + (o :: rest).length = k + 1 + rest.length by simp; omega]
            exact e3
          · rcases Nat.lt_or_ge k j with h1 | h1
            · obtain ⟨t1, t2⟩ := tr.step j q h1 hq
              refine ⟨t1, ?_⟩
              rw [ext (sk' := sk') h1, ext (sk' := sk') (by omega : k + 1 ≤ j + 1), exth (hk' := hk') h1, exth (hk' := hk') (by omega : k + 1 ≤ j + 1), vkE h1]
              exact t2
            · have hjk : j = k := by omega
              subst hjk
              rw [hok] at hq; simp at hq; subst hq
              refine ⟨hdst, true, by rw [atk_self]; exact hb, (fun hc => by cases hc), fun _ => ?_⟩
              rw [ext (sk' := sk') (Nat.le_refl _), exth (hk' := hk') (Nat.le_refl _)]
              simp only [atk_self, e1, e2]
              exact ⟨trivial, hdo, fun hc => by rw [hw] at hc; simp at hc⟩
          · have hi' := gtn i q hi hn
            rw [ext (sk' := sk') hi', exth (hk' := hk') (by omega : k + 1 ≤ j + 1), vkE hi']
            rcases Nat.lt_or_ge k j with h1 | h1
            · have := tr.apart i j q hi' h1 (ndE i q hi' hn) (wdE j h1 hwd)
              rw [exth (hk' := hk') h1]
              exact this
            · have hjk : j = k := by omega
              subst hjk
              refine ⟨fun hlt => by omega, fun _ => ?_⟩
              rw [atk_self]
              exact hh (j, h) (by simp) i q hi' (ndE i q hi' hn)
          · rcases Nat.lt_or_ge k j with h1 | h1
            · rw [exth (hk' := hk') (by omega : k + 1 ≤ j + 1)]
              exact hp x hx j h1 (wdE j h1 hwd)
            · have hjk : j = k := by omega
              subst hjk
              rw [exth (hk' := hk') (Nat.le_refl _), e2]
              exact hpast x hx
          · have hi' := gtn i q hi hn
            rw [ext (sk' := sk') hi', vkE hi']
            exact hh x (by simp [hx]) i q hi' (ndE i q hi' hn)
        · rename_i hw
          obtain ⟨v, hdo, hhist, hd⟩ := hd
          have hw' : isW ow wf o = false := by simpa using hw
          obtain ⟨sk', hk', vk', e1, e2, e3, tr, hp, hh⟩ := drun_tr rest (k + 1) ((k, fun h' => Does P ow o (pev s) h' v h') :: past) hist _ _ hrest hd
          have hnW : ¬ Wd ow wf ops (atk k s sk') k := by
            rintro ⟨q, hq, hq2, _⟩
            rw [hok] at hq; simp at hq; subst hq
            exact hw hq2
          have wdE : ∀ j, k + 1 ≤ j → Wd ow wf ops (atk k s sk') j → Wd ow wf ops sk' j := by
            intro j hj hw; unfold Wd at hw ⊢; rw [ext hj] at hw; exact hw
          have ndE : ∀ j q, k + 1 ≤ j → Nd ow wf ops (atk k s sk') j q → Nd ow wf ops sk' j q := by
            intro j q hj hw; unfold Nd at hw ⊢; rw [ext hj] at hw; exact hw
          have gt : ∀ j, k ≤ j → Wd ow wf ops (atk k s sk') j → k + 1 ≤ j := by
            intro j hj hw
            rcases Nat.lt_or_ge k j with h1 | h1
            · exact h1
            · have : j = k := by omega
              subst this; exact (hnW hw).elim
          have vkE : ∀ {j}, k + 1 ≤ j → (atk k v vk') j = vk' j := fun hj => atk_ne (by omega)
          refine ⟨atk k s sk', atk k h hk', atk k v vk', atk_self, atk_self, ?_, ⟨fun j q hj hq => ?_, fun i j q hi hj hn hwd => ?_⟩, fun x hx j hj hwd => ?_, fun x hx i q hi hn => ?_⟩
          · rw [atk_ne (by simp), atk_ne (by simp)]
            rw [show k + (o :: rest).length = k + 1 + rest.length by simp; omega]
            exact e3
          · rcases Nat.lt_or_ge k j with h1 | h1
            · obtain ⟨t1, t2⟩ := tr.step j q h1 hq
              refine ⟨t1, ?_⟩
              rw [ext (sk' := sk') h1, ext (sk' := sk') (by omega : k + 1 ≤ j + 1), exth (hk' := hk') h1, exth (hk' := hk') (by omega : k + 1 ≤ j + 1), vkE h1]
              exact t2
            · have hjk : j = k := by omega
              subst hjk
              rw [hok] at hq; simp at hq; subst hq
              refine ⟨hdst, true, by rw [atk_self]; exact hb, (fun hc => by cases hc), fun _ => ?_⟩
              rw [ext (sk' := sk') (Nat.le_refl _), exth (hk' := hk') (Nat.le_refl _)]
              simp only [atk_self, e1, e2]
              exact ⟨trivial, hdo, fun _ => trivial⟩
          · have hj' := gt j hj hwd
            rw [exth (hk' := hk') (by omega : k + 1 ≤ j + 1), exth (hk' := hk') hj']
            rcases Nat.lt_or_ge k i with h1 | h1
            · rw [ext (sk' := sk') h1, vkE h1]
              exact tr.apart i j q h1 hj' (ndE i q h1 hn) (wdE j hj' hwd)
            · have hik : i = k := by omega
              subst hik
              have hq := hn.1
              rw [hok] at hq; simp at hq; subst hq
              refine ⟨fun _ => ?_, fun hlt => by omega⟩
              simp only [atk_self]
              exact hp _ (List.mem_cons_self ..) j hj' (wdE j hj' hwd)
          · have hj' := gt j hj hwd
            rw [exth (hk' := hk') (by omega : k + 1 ≤ j + 1)]
            exact hp x (by simp [hx]) j hj' (wdE j hj' hwd)
          · rcases Nat.lt_or_ge k i with h1 | h1
            · rw [ext (sk' := sk') h1, vkE h1]
              exact hh x hx i q h1 (ndE i q h1 hn)
            · have hik : i = k := by omega
              subst hik
              have hq := hn.1
              rw [hok] at hq; simp at hq; subst hq
              simp only [atk_self]
              exact hhist x hx
end
end Go.AM
