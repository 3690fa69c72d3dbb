/- What the claim rests on, part 5: the abstract machine, contracts of the functions, plain data. -/
import Derived.OpenShut
import Derived.ChangeShapes
import Derived.SizedLaws
import Derived.Test.YtjlkapgpjamnkaaZr4
set_option linter.unusedVariables false
set_option linter.unusedSimpArgs false
set_option linter.unusedSectionVars false
namespace Go.Proofs.Ytjlkapgpjamnkaa
open Go.AM
set_option maxHeartbeats 4000000
set_option maxRecDepth 20000
theorem ne_of_eq {a x y : List UInt8} (h : (a == x) = true) (h2 : (x == y) = false) : (a == y) = false := by rw [eq_of_beq h]; exact h2
/-- the forms but for the parameters -/
def headOk (op name : ByteArray) (args : List ByteArray) (np ne nk : Nat) : Bool :=
  match shapeOf op nk with
  | none => false
  | some (e, m, q) => termsOk op name args && decide (ne = e) && decide (nk = m) && (decide (np = 0) || q)
theorem partsOk_head (op name : ByteArray) (args : List ByteArray) (params : List Pm) (ne nk : Nat) : partsOk op name args params ne nk = (headOk op name args params.length ne nk && params.all pmOk) := by
  unfold partsOk headOk
  have e1 : params.isEmpty = decide (params.length = 0) := by cases params <;> simp
  cases shapeOf op nk with
  | none => rfl
  | some p => obtain ⟨e, m, q⟩ := p; simp only [e1]
theorem drop_get {α : Type} {l : List α} {k : Nat} {x : α} (h : l[k]? = some x) : l.drop k = x :: l.drop (k + 1) := by
  obtain ⟨h1, h2⟩ := List.getElem?_eq_some_iff.1 h
  rw [List.drop_eq_getElem_cons h1, h2]
theorem formedMs_le : ∀ (l : List Ex) (d n : Nat), n ≤ 4096 → (formedMs l d n).1 = true → (formedMs l d n).2 ≤ 4096
  | [], d, n, hn => by simp [formedMs, hn]
  | e :: l, d, n, hn => by
    unfold formedMs
    have h1 := formedM_le e d n
    split
    · rename_i c he
      rw [he] at h1
      exact formedMs_le l d c (h1 rfl)
    · simp
mutual
theorem shapedM_le : ∀ (f : Fm) (d n : Nat), (shapedM f d n).1 = true → (shapedM f d n).2 ≤ 4096
  | .mk op name args params exprs kids, d, n => by
    unfold shapedM
    split
    · rename_i hc
      split
      · have h1 := formedMs_le exprs (d + 1) (n + 1) hc.1
        split
        · rename_i c he
          rw [he] at h1
          exact shapedMs_le kids (d + 1) c (h1 rfl)
        · simp
      · simp
    · simp
theorem shapedMs_le : ∀ (l : List Fm) (d n : Nat), n ≤ 4096 → (shapedMs l d n).1 = true → (shapedMs l d n).2 ≤ 4096
  | [], d, n, hn => by simp [shapedMs, hn]
  | k :: l, d, n, hn => by
    unfold shapedMs
    have h1 := shapedM_le k d n
    split
    · rename_i c he
      rw [he] at h1
      exact shapedMs_le l d c (h1 rfl)
    · simp
end
theorem shaped_c : ∀ f : Fm, f.ok → ∀ (d n : Nat), d ≤ 33 → n ≤ 4096 → ∀ (id : Nat) (h : Heap), h.obj id = some (cntO n) →
    PCall Try.prog 63 [.agg f.cells, .sc (.int .i64 d), .ptr id 0 0] h fun r h' => r = .sc (.bool (shapedM f d n).1) ∧ h' = h.set id (cntO (shapedM f d n).2) := by
  refine Fm.ind ?_
  intro op name args params exprs kids ih hok d n hd hn id h ho
  simp only [Fm.ok] at hok
  obtain ⟨_, hnm, ⟨hal, hargs⟩, ⟨hpl, hps⟩, ⟨hel, hes⟩, hkl, hks⟩ := hok
  rw [Ex.oks_iff] at hes
  rw [Fm.oks_iff] at hks
  have hnm' : name.size ≤ 9223372036854775807 := by unfold bigN at hnm; omega
  unfold bigN at hpl hel hkl
  have hlA := strRows_len args
  have hlP := pmRows_len params
  have hlE := Ex.rows_len exprs
  have hlK := Fm.rows_len kids
  refine pcall_wf Ty.hb_63 fun hwf => ?_
  have hid : id < h.next := hwf id (by rw [ho]; try rfl)
  refine PCall.quietX Ty.hb_63 ho (by simp [cntO, inNO, inNR, inNL, inN]) ?_
  generalize hF : shapedM (.mk op name args params exprs kids) d n = F
  unfold shapedM at hF
  by_cases hc : n + 1 ≤ 4096 ∧ d ≤ 32
  rotate_left
  · rw [if_neg hc] at hF
    subst hF
    have hT := take_c (by omega) hn ho (decide_eq_false hc)
    simp only [Fm.cells]
    refine pcall_body (ow := fun _ => false) (wf := fun _ => false) Ty.mixed Try.func63 rfl Ty.hb_63 (by rw [Try.ntmps63]; simp) ?_
    rw [Try.ntmps63, Try.results63]
    repeat' (first | (refine a_seq (fun K hK => ?_)) | (refine a_regionS ?_; simp (maxSteps := 2000000) only [Ty.w, simprocAttr]) | (refine hK _ _ ?_; clear hK; (try simp only [pst0, simprocAttr])))
    refine owp_useH (hT) (by (try simp only [Ty.w, simprocAttr, Bool.not_false]); try rfl) ?_; simp (maxSteps := 2000000) only [Ty.w, simprocAttr, Bool.not_false]
    repeat' (first | (refine a_seq (fun K hK => ?_)) | ((first | refine a_regionS ?_ | refine a_ret ?_); simp (maxSteps := 2000000) only [Ty.w, simprocAttr, Bool.not_false]) | (refine hK _ _ ?_; clear hK; (try simp only [pst0, simprocAttr])))
    exact (GrowX.refl ho).put
  rw [if_pos hc] at hF
  have hT := take_c (by omega) hn ho (decide_eq_true hc)
  have wd : IntKind.i64.wrap ((d : Int) + 1) = (d : Int) + 1 := by rw [wrap64 (by omega) (by omega)]
  have G1 : GrowX h id (cntO (n + 1)) (h.set id (cntO (n + 1))) := (GrowX.refl ho).put
  have hO1 : (h.set id (cntO (n + 1))).obj id = some (cntO (n + 1)) := by simp [Heap.set]
  have hN1 : (h.set id (cntO (n + 1))).next = h.next := rfl
  have hFf : partsOk op name args params exprs.length kids.length = false → F = (false, n + 1) := fun hp => by rw [← hF, if_neg (by rw [hp]; simp)]
  have hFt : partsOk op name args params exprs.length kids.length = true → F = (match formedMs exprs (d + 1) (n + 1) with
    | (true, c') => shapedMs kids (d + 1) c'
    | (false, c') => (false, c')) := fun hp => by rw [← hF, if_pos hp]; try rfl
  clear hF
  simp only [Fm.cells]
  refine pcall_body (ow := fun _ => false) (wf := fun _ => false) Ty.mixed Try.func63 rfl Ty.hb_63 (by rw [Try.ntmps63]; simp) ?_
  rw [Try.ntmps63, Try.results63]
  repeat' (first | (refine a_seq (fun K hK => ?_)) | (refine a_regionS ?_; simp (maxSteps := 2000000) only [Ty.w, simprocAttr]) | (refine hK _ _ ?_; clear hK; (try simp only [pst0, simprocAttr])))
  refine owp_useH (hT) (by (try simp only [Ty.w, simprocAttr, Bool.not_true]); try rfl) ?_; simp (maxSteps := 2000000) only [Ty.w, simprocAttr, Bool.not_true]
  clear hT
  generalize h.set id (cntO (n + 1)) = H1 at G1 hO1 hN1 ⊢
  repeat' (first | (with_reducible refine a_hold 4 ?_) | (refine a_seq (fun K hK => ?_)) | (refine a_regionS ?_; simp (maxSteps := 2000000) only [Ty.w, simprocAttr, Bool.not_true]) | (refine a_skip ?_; (try simp only [pst0, simprocAttr])) | (refine a_cond _ (by (try simp (maxSteps := 2000000) only [Ty.w, simprocAttr, Bool.not_true]); rfl) (fun hb => ?_) (fun hb => ?_) <;> (try simp only [hb0, decide_eq_true_eq, decide_eq_false_iff_not, simprocAttr] at hb) <;> (try (exfalso; omega))) | (refine hK _ _ ?_; clear hK; (try simp only [pst0, simprocAttr])))
  refine ⟨?_⟩
  refine a_cut (fun S h' => h' = H1 ∧ S 1 = .sc (.int .i64 d) ∧ S 2 = .ptr id 0 0 ∧ S 3 = .cptr (Fm.mk op name args params exprs kids).cells ∧ ∃ (e m : Nat) (q : Bool), shapeOf op kids.length = some (e, m, q) ∧ ((bEq op opAtom || bEq op opSame) = true → termsOk op name args = true) ∧ S 7 = .sc (.int .i64 e) ∧ S 8 = .sc (.bool q) ∧ S 9 = .sc (.int .i64 m)) ?_ ?_
  · have hfc : ∀ s ∈ args, ∀ h : Heap, PCall Try.prog 105 [sPV s] h fun r h' => r = .sc (.bool (!termB s)) ∧ h' = h := fun s hs h => fclosure2_c (hargs s hs)
    cases k1 : (op.data.toList == (#[97, 116, 111, 109] : Array UInt8).toList) with
    | true =>
      have k2 : (op.data.toList == (#[115, 97, 109, 101] : Array UInt8).toList) = false := ne_of_eq k1 rfl
      cases q1 : nameB name with
      | false =>
        have hp := hFf (by simp [partsOk, shapeOf, termsOk, (show bEq op opAtom = true from k1), q1])
        subst hp
        repeat' (first | (refine a_seq (fun K hK => ?_)) | (refine a_regionS ?_; simp (maxSteps := 2000000) only [Ty.w, simprocAttr, k1, k2]) | (refine a_skip ?_; (try simp only [pst0, simprocAttr])) | (refine a_cond _ (by (try simp (maxSteps := 2000000) only [Ty.w, simprocAttr, k1, k2]); rfl) (fun hb => ?_) (fun hb => ?_) <;> (try simp only [hb0, decide_eq_true_eq, decide_eq_false_iff_not, simprocAttr] at hb) <;> (try (exfalso; omega))) | (refine hK _ _ ?_; clear hK; (try simp only [pst0, simprocAttr])))
        refine owp_useQ (fname_c (s := name) hnm') (by (try simp only [Ty.w, simprocAttr, k1, k2, q1]); try rfl) ?_; simp (maxSteps := 2000000) only [Ty.w, simprocAttr, k1, k2, q1]
        repeat' (first | (refine a_seq (fun K hK => ?_)) | ((first | refine a_regionS ?_ | refine a_ret ?_); simp (maxSteps := 2000000) only [Ty.w, simprocAttr, k1, k2, q1, Bool.not_false]) | (refine hK _ _ ?_; clear hK; (try simp only [pst0, simprocAttr])))
        all_goals first | exact G1 | exact ⟨rfl, G1⟩
      | true =>
        cases q2 : args.all termB with
        | false =>
          have hp := hFf (by simp [partsOk, shapeOf, termsOk, (show bEq op opAtom = true from k1), q1, q2])
          subst hp
          repeat' (first | (refine a_seq (fun K hK => ?_)) | (refine a_regionS ?_; simp (maxSteps := 2000000) only [Ty.w, simprocAttr, k1, k2]) | (refine a_skip ?_; (try simp only [pst0, simprocAttr])) | (refine a_cond _ (by (try simp (maxSteps := 2000000) only [Ty.w, simprocAttr, k1, k2]); rfl) (fun hb => ?_) (fun hb => ?_) <;> (try simp only [hb0, decide_eq_true_eq, decide_eq_false_iff_not, simprocAttr] at hb) <;> (try (exfalso; omega))) | (refine hK _ _ ?_; clear hK; (try simp only [pst0, simprocAttr])))
          refine owp_useQ (fname_c (s := name) hnm') (by (try simp only [Ty.w, simprocAttr, k1, k2, q1]); try rfl) ?_; simp (maxSteps := 2000000) only [Ty.w, simprocAttr, k1, k2, q1]
          skip
          refine owp_useQ (containsFunc_c hal hfc) (by (try simp only [Ty.w, simprocAttr, k1, k2, q1, q2]); try rfl) ?_; simp (maxSteps := 2000000) only [Ty.w, simprocAttr, k1, k2, q1, q2]
          repeat' (first | (refine a_seq (fun K hK => ?_)) | ((first | refine a_regionS ?_ | refine a_ret ?_); simp (maxSteps := 2000000) only [Ty.w, simprocAttr, k1, k2, q1, q2, Bool.not_false, Bool.not_true]) | (refine hK _ _ ?_; clear hK; (try simp only [pst0, simprocAttr])))
          all_goals first | exact G1 | exact ⟨rfl, G1⟩
        | true =>
          repeat' (first | (refine a_seq (fun K hK => ?_)) | (refine a_regionS ?_; simp (maxSteps := 2000000) only [Ty.w, simprocAttr, k1, k2]) | (refine a_skip ?_; (try simp only [pst0, simprocAttr])) | (refine a_cond _ (by (try simp (maxSteps := 2000000) only [Ty.w, simprocAttr, k1, k2]); rfl) (fun hb => ?_) (fun hb => ?_) <;> (try simp only [hb0, decide_eq_true_eq, decide_eq_false_iff_not, simprocAttr] at hb) <;> (try (exfalso; omega))) | (refine hK _ _ ?_; clear hK; (try simp only [pst0, simprocAttr])))
          refine owp_useQ (fname_c (s := name) hnm') (by (try simp only [Ty.w, simprocAttr, k1, k2, q1]); try rfl) ?_; simp (maxSteps := 2000000) only [Ty.w, simprocAttr, k1, k2, q1]
          skip
          refine owp_useQ (containsFunc_c hal hfc) (by (try simp only [Ty.w, simprocAttr, k1, k2, q1, q2]); try rfl) ?_; simp (maxSteps := 2000000) only [Ty.w, simprocAttr, k1, k2, q1, q2]
          repeat' (first | (refine a_block ?_) | (refine a_skip ?_; (try simp only [pst0, simprocAttr])) | (refine hK _ _ ?_; clear hK; (try simp only [pst0, simprocAttr])))
          simp (maxSteps := 2000000) only [Ty.w, simprocAttr, Ty.all, Fm.cells]
          exact ⟨0, 0, false, by simp [shapeOf, (show bEq op opAtom = true from k1)], fun _ => by simp [termsOk, (show bEq op opAtom = true from k1), q1, q2], rfl, rfl, rfl⟩
    | false =>
      cases k2 : (op.data.toList == (#[115, 97, 109, 101] : Array UInt8).toList) with
      | true =>
        cases q1 : (name.data.toList == (#[] : Array UInt8).toList) with
        | false =>
          have hp := hFf (by simp [partsOk, shapeOf, termsOk, (show bEq op opAtom = false from k1), (show bEq op opSame = true from k2), (show emptyB name = false from q1)])
          subst hp
          repeat' (first | (refine a_seq (fun K hK => ?_)) | ((first | refine a_regionS ?_ | refine a_ret ?_); simp (maxSteps := 2000000) only [Ty.w, simprocAttr, k1, k2, q1, Bool.not_false]) | (refine a_cond _ (by (try simp (maxSteps := 2000000) only [Ty.w, simprocAttr, k1, k2, q1, Bool.not_false]); rfl) (fun hb => ?_) (fun hb => ?_) <;> (try simp only [hb0, decide_eq_true_eq, decide_eq_false_iff_not, simprocAttr] at hb) <;> (try (exfalso; omega))) | (refine hK _ _ ?_; clear hK; (try simp only [pst0, simprocAttr])))
          all_goals first | exact G1 | exact ⟨rfl, G1⟩
        | true =>
          cases q2 : ((args.length : Int) == 2) with
          | false =>
            have hp := hFf (by simp [partsOk, shapeOf, termsOk, (show bEq op opAtom = false from k1), (show bEq op opSame = true from k2), (show emptyB name = true from q1), (show ¬ args.length = 2 by simp at q2; omega)])
            subst hp
            have q2p := eq_false (ne_of_beq_false q2)
            have q2i : ¬ args.length = 2 := by have := ne_of_beq_false q2; omega
            repeat' (first | (refine a_seq (fun K hK => ?_)) | ((first | refine a_regionS ?_ | refine a_ret ?_); simp (maxSteps := 2000000) only [Ty.w, simprocAttr, k1, k2, q1, q2, q2p, hlA, Bool.not_true, Bool.not_false, not_false_eq_true, not_true_eq_false, if_true, if_false]) | (refine a_cond _ (by (try simp (maxSteps := 2000000) only [Ty.w, simprocAttr, k1, k2, q1, q2, q2p, hlA, Bool.not_true, Bool.not_false, not_false_eq_true, not_true_eq_false, if_true, if_false]); rfl) (fun hb => ?_) (fun hb => ?_) <;> (try simp only [hb0, decide_eq_true_eq, decide_eq_false_iff_not, simprocAttr] at hb) <;> (try (exfalso; omega))) | (with_reducible refine ite_in (fun hb => ?_) (fun hb => ?_) <;> (try simp only [Decidable.not_not] at hb) <;> (try simp only [hb, if_true, if_false, not_false_eq_true, not_true_eq_false, ↓reduceIte]) <;> (try simp only [hb0, decide_eq_true_eq, decide_eq_false_iff_not, simprocAttr] at hb) <;> (try (exfalso; omega))) | (refine hK _ _ ?_; clear hK; (try simp only [pst0, simprocAttr])))
            all_goals first | exact G1 | exact ⟨rfl, G1⟩
          | true =>
            cases q3 : args.all termB with
            | false =>
              have hp := hFf (by simp [partsOk, shapeOf, termsOk, (show bEq op opAtom = false from k1), (show bEq op opSame = true from k2), (show emptyB name = true from q1), (show args.length = 2 by simp at q2; omega), q3])
              subst hp
              have q2p := eq_true (eq_of_beq q2)
              have q2i : args.length = 2 := by have := eq_of_beq q2; omega
              repeat' (first | (refine a_seq (fun K hK => ?_)) | (refine a_regionS ?_; simp (maxSteps := 2000000) only [Ty.w, simprocAttr, k1, k2, q1, q2, q2p, hlA, Bool.not_true, not_false_eq_true, not_true_eq_false, if_true, if_false]) | (refine a_cond _ (by (try simp (maxSteps := 2000000) only [Ty.w, simprocAttr, k1, k2, q1, q2, q2p, hlA, Bool.not_true, not_false_eq_true, not_true_eq_false, if_true, if_false]); rfl) (fun hb => ?_) (fun hb => ?_) <;> (try simp only [hb0, decide_eq_true_eq, decide_eq_false_iff_not, simprocAttr] at hb) <;> (try (exfalso; omega))) | (with_reducible refine ite_in (fun hb => ?_) (fun hb => ?_) <;> (try simp only [Decidable.not_not] at hb) <;> (try simp only [hb, if_true, if_false, not_false_eq_true, not_true_eq_false, ↓reduceIte]) <;> (try simp only [hb0, decide_eq_true_eq, decide_eq_false_iff_not, simprocAttr] at hb) <;> (try (exfalso; omega))) | (refine hK _ _ ?_; clear hK; (try simp only [pst0, simprocAttr])))
              refine owp_useQ (containsFunc_c hal hfc) (by (try simp only [Ty.w, simprocAttr, k1, k2, q1, q2, q3]); try rfl) ?_; simp (maxSteps := 2000000) only [Ty.w, simprocAttr, k1, k2, q1, q2, q3]
              repeat' (first | (refine a_seq (fun K hK => ?_)) | ((first | refine a_regionS ?_ | refine a_ret ?_); simp (maxSteps := 2000000) only [Ty.w, simprocAttr, k1, k2, q1, q2, q2p, q3, Bool.not_false, Bool.not_true, not_false_eq_true, not_true_eq_false, if_true, if_false]) | (refine hK _ _ ?_; clear hK; (try simp only [pst0, simprocAttr])))
              all_goals first | exact G1 | exact ⟨rfl, G1⟩
            | true =>
              have q2p := eq_true (eq_of_beq q2)
              have q2i : args.length = 2 := by have := eq_of_beq q2; omega
              repeat' (first | (refine a_seq (fun K hK => ?_)) | (refine a_regionS ?_; simp (maxSteps := 2000000) only [Ty.w, simprocAttr, k1, k2, q1, q2, q2p, hlA, Bool.not_true, not_false_eq_true, not_true_eq_false, if_true, if_false]) | (refine a_cond _ (by (try simp (maxSteps := 2000000) only [Ty.w, simprocAttr, k1, k2, q1, q2, q2p, hlA, Bool.not_true, not_false_eq_true, not_true_eq_false, if_true, if_false]); rfl) (fun hb => ?_) (fun hb => ?_) <;> (try simp only [hb0, decide_eq_true_eq, decide_eq_false_iff_not, simprocAttr] at hb) <;> (try (exfalso; omega))) | (with_reducible refine ite_in (fun hb => ?_) (fun hb => ?_) <;> (try simp only [Decidable.not_not] at hb) <;> (try simp only [hb, if_true, if_false, not_false_eq_true, not_true_eq_false, ↓reduceIte]) <;> (try simp only [hb0, decide_eq_true_eq, decide_eq_false_iff_not, simprocAttr] at hb) <;> (try (exfalso; omega))) | (refine hK _ _ ?_; clear hK; (try simp only [pst0, simprocAttr])))
              refine owp_useQ (containsFunc_c hal hfc) (by (try simp only [Ty.w, simprocAttr, k1, k2, q1, q2, q3]); try rfl) ?_; simp (maxSteps := 2000000) only [Ty.w, simprocAttr, k1, k2, q1, q2, q3]
              repeat' (first | (refine a_block ?_) | (refine a_skip ?_; (try simp only [pst0, simprocAttr])) | (refine hK _ _ ?_; clear hK; (try simp only [pst0, simprocAttr])))
              simp (maxSteps := 2000000) only [Ty.w, simprocAttr, Ty.all, Fm.cells]
              exact ⟨0, 0, false, by simp [shapeOf, (show bEq op opAtom = false from k1), (show bEq op opSame = true from k2)], fun _ => by simp [termsOk, (show bEq op opAtom = false from k1), (show bEq op opSame = true from k2), (show emptyB name = true from q1), (show args.length = 2 by simp at q2; omega), q3], rfl, rfl, rfl⟩
      | false =>
        cases k3 : (op.data.toList == (#[60] : Array UInt8).toList) with
        | true =>
          repeat' (first | (refine a_seq (fun K hK => ?_)) | (refine a_block ?_) | ((first | refine a_regionS ?_ | refine a_region (fun K hK => ?_)); simp (maxSteps := 2000000) only [Ty.w, simprocAttr, k1, k2, k3, hlK]) | (refine a_skip ?_; (try simp only [pst0, simprocAttr])) | (refine a_cond _ (by (try simp (maxSteps := 2000000) only [Ty.w, simprocAttr, k1, k2, k3, hlK]); rfl) (fun hb => ?_) (fun hb => ?_) <;> (try simp only [hb0, decide_eq_true_eq, decide_eq_false_iff_not, simprocAttr] at hb) <;> (try (exfalso; omega))) | (refine hK _ _ ?_; clear hK; (try simp only [pst0, simprocAttr])))
          simp (maxSteps := 2000000) only [Ty.w, simprocAttr, Ty.all, Fm.cells]
          exact ⟨2, 0, false, by simp [shapeOf, (show bEq op opAtom = false from k1), (show bEq op opSame = false from k2), (show bEq op opLt = true from k3)], fun hh => by simp [(show bEq op opAtom = false from k1), (show bEq op opSame = false from k2)] at hh, rfl, rfl, rfl⟩
        | false =>
          cases k4 : (op.data.toList == (#[60, 61] : Array UInt8).toList) with
          | true =>
            repeat' (first | (refine a_seq (fun K hK => ?_)) | (refine a_block ?_) | ((first | refine a_regionS ?_ | refine a_region (fun K hK => ?_)); simp (maxSteps := 2000000) only [Ty.w, simprocAttr, k1, k2, k3, k4, hlK]) | (refine a_skip ?_; (try simp only [pst0, simprocAttr])) | (refine a_cond _ (by (try simp (maxSteps := 2000000) only [Ty.w, simprocAttr, k1, k2, k3, k4, hlK]); rfl) (fun hb => ?_) (fun hb => ?_) <;> (try simp only [hb0, decide_eq_true_eq, decide_eq_false_iff_not, simprocAttr] at hb) <;> (try (exfalso; omega))) | (refine hK _ _ ?_; clear hK; (try simp only [pst0, simprocAttr])))
            simp (maxSteps := 2000000) only [Ty.w, simprocAttr, Ty.all, Fm.cells]
            exact ⟨2, 0, false, by simp [shapeOf, (show bEq op opAtom = false from k1), (show bEq op opSame = false from k2), (show bEq op opLt = false from k3), (show bEq op opLe = true from k4)], fun hh => by simp [(show bEq op opAtom = false from k1), (show bEq op opSame = false from k2)] at hh, rfl, rfl, rfl⟩
          | false =>
            cases k5 : (op.data.toList == (#[61] : Array UInt8).toList) with
            | true =>
              repeat' (first | (refine a_seq (fun K hK => ?_)) | (refine a_block ?_) | ((first | refine a_regionS ?_ | refine a_region (fun K hK => ?_)); simp (maxSteps := 2000000) only [Ty.w, simprocAttr, k1, k2, k3, k4, k5, hlK]) | (refine a_cond _ (by (try simp (maxSteps := 2000000) only [Ty.w, simprocAttr, k1, k2, k3, k4, k5, hlK]); rfl) (fun hb => ?_) (fun hb => ?_) <;> (try simp only [hb0, decide_eq_true_eq, decide_eq_false_iff_not, simprocAttr] at hb) <;> (try (exfalso; omega))) | (refine hK _ _ ?_; clear hK; (try simp only [pst0, simprocAttr])))
              simp (maxSteps := 2000000) only [Ty.w, simprocAttr, Ty.all, Fm.cells]
              exact ⟨2, 0, false, by simp [shapeOf, (show bEq op opAtom = false from k1), (show bEq op opSame = false from k2), (show bEq op opLt = false from k3), (show bEq op opLe = false from k4), (show bEq op opEq = true from k5)], fun hh => by simp [(show bEq op opAtom = false from k1), (show bEq op opSame = false from k2)] at hh, rfl, rfl, rfl⟩
            | false =>
              cases k6 : (op.data.toList == (#[97, 110, 100] : Array UInt8).toList) with
              | true =>
                repeat' (first | (refine a_seq (fun K hK => ?_)) | (refine a_block ?_) | ((first | refine a_regionS ?_ | refine a_region (fun K hK => ?_)); simp (maxSteps := 2000000) only [Ty.w, simprocAttr, k1, k2, k3, k4, k5, k6, hlK]) | (refine a_skip ?_; (try simp only [pst0, simprocAttr])) | (refine a_cond _ (by (try simp (maxSteps := 2000000) only [Ty.w, simprocAttr, k1, k2, k3, k4, k5, k6, hlK]); rfl) (fun hb => ?_) (fun hb => ?_) <;> (try simp only [hb0, decide_eq_true_eq, decide_eq_false_iff_not, simprocAttr] at hb) <;> (try (exfalso; omega))) | (refine hK _ _ ?_; clear hK; (try simp only [pst0, simprocAttr])))
                simp (maxSteps := 2000000) only [Ty.w, simprocAttr, Ty.all, Fm.cells]
                exact ⟨0, kids.length, false, by simp [shapeOf, (show bEq op opAtom = false from k1), (show bEq op opSame = false from k2), (show bEq op opLt = false from k3), (show bEq op opLe = false from k4), (show bEq op opEq = false from k5), (show bEq op opAnd = true from k6)], fun hh => by simp [(show bEq op opAtom = false from k1), (show bEq op opSame = false from k2)] at hh, rfl, rfl, rfl⟩
              | false =>
                cases k7 : (op.data.toList == (#[111, 114] : Array UInt8).toList) with
                | true =>
                  repeat' (first | (refine a_seq (fun K hK => ?_)) | (refine a_block ?_) | ((first | refine a_regionS ?_ | refine a_region (fun K hK => ?_)); simp (maxSteps := 2000000) only [Ty.w, simprocAttr, k1, k2, k3, k4, k5, k6, k7, hlK]) | (refine a_cond _ (by (try simp (maxSteps := 2000000) only [Ty.w, simprocAttr, k1, k2, k3, k4, k5, k6, k7, hlK]); rfl) (fun hb => ?_) (fun hb => ?_) <;> (try simp only [hb0, decide_eq_true_eq, decide_eq_false_iff_not, simprocAttr] at hb) <;> (try (exfalso; omega))) | (refine hK _ _ ?_; clear hK; (try simp only [pst0, simprocAttr])))
                  simp (maxSteps := 2000000) only [Ty.w, simprocAttr, Ty.all, Fm.cells]
                  exact ⟨0, kids.length, false, by simp [shapeOf, (show bEq op opAtom = false from k1), (show bEq op opSame = false from k2), (show bEq op opLt = false from k3), (show bEq op opLe = false from k4), (show bEq op opEq = false from k5), (show bEq op opAnd = false from k6), (show bEq op opOr = true from k7)], fun hh => by simp [(show bEq op opAtom = false from k1), (show bEq op opSame = false from k2)] at hh, rfl, rfl, rfl⟩
                | false =>
                  cases k8 : (op.data.toList == (#[110, 111, 116] : Array UInt8).toList) with
                  | true =>
                    repeat' (first | (refine a_seq (fun K hK => ?_)) | (refine a_block ?_) | ((first | refine a_regionS ?_ | refine a_region (fun K hK => ?_)); simp (maxSteps := 2000000) only [Ty.w, simprocAttr, k1, k2, k3, k4, k5, k6, k7, k8, hlK]) | (refine a_cond _ (by (try simp (maxSteps := 2000000) only [Ty.w, simprocAttr, k1, k2, k3, k4, k5, k6, k7, k8, hlK]); rfl) (fun hb => ?_) (fun hb => ?_) <;> (try simp only [hb0, decide_eq_true_eq, decide_eq_false_iff_not, simprocAttr] at hb) <;> (try (exfalso; omega))) | (refine hK _ _ ?_; clear hK; (try simp only [pst0, simprocAttr])))
                    simp (maxSteps := 2000000) only [Ty.w, simprocAttr, Ty.all, Fm.cells]
                    exact ⟨0, 1, false, by simp [shapeOf, (show bEq op opAtom = false from k1), (show bEq op opSame = false from k2), (show bEq op opLt = false from k3), (show bEq op opLe = false from k4), (show bEq op opEq = false from k5), (show bEq op opAnd = false from k6), (show bEq op opOr = false from k7), (show bEq op opNot = true from k8)], fun hh => by simp [(show bEq op opAtom = false from k1), (show bEq op opSame = false from k2)] at hh, rfl, rfl, rfl⟩
                  | false =>
                    cases k9 : (op.data.toList == (#[105, 109, 112, 108, 121] : Array UInt8).toList) with
                    | true =>
                      repeat' (first | (refine a_seq (fun K hK => ?_)) | (refine a_block ?_) | ((first | refine a_regionS ?_ | refine a_region (fun K hK => ?_)); simp (maxSteps := 2000000) only [Ty.w, simprocAttr, k1, k2, k3, k4, k5, k6, k7, k8, k9, hlK]) | (refine a_cond _ (by (try simp (maxSteps := 2000000) only [Ty.w, simprocAttr, k1, k2, k3, k4, k5, k6, k7, k8, k9, hlK]); rfl) (fun hb => ?_) (fun hb => ?_) <;> (try simp only [hb0, decide_eq_true_eq, decide_eq_false_iff_not, simprocAttr] at hb) <;> (try (exfalso; omega))) | (refine hK _ _ ?_; clear hK; (try simp only [pst0, simprocAttr])))
                      simp (maxSteps := 2000000) only [Ty.w, simprocAttr, Ty.all, Fm.cells]
                      exact ⟨0, 2, false, by simp [shapeOf, (show bEq op opAtom = false from k1), (show bEq op opSame = false from k2), (show bEq op opLt = false from k3), (show bEq op opLe = false from k4), (show bEq op opEq = false from k5), (show bEq op opAnd = false from k6), (show bEq op opOr = false from k7), (show bEq op opNot = false from k8), (show bEq op opImp = true from k9)], fun hh => by simp [(show bEq op opAtom = false from k1), (show bEq op opSame = false from k2)] at hh, rfl, rfl, rfl⟩
                    | false =>
                      cases k10 : (op.data.toList == (#[102, 111, 114, 97, 108, 108] : Array UInt8).toList) with
                      | true =>
                        repeat' (first | (refine a_seq (fun K hK => ?_)) | (refine a_block ?_) | ((first | refine a_regionS ?_ | refine a_region (fun K hK => ?_)); simp (maxSteps := 2000000) only [Ty.w, simprocAttr, k1, k2, k3, k4, k5, k6, k7, k8, k9, k10, hlK]) | (refine a_skip ?_; (try simp only [pst0, simprocAttr])) | (refine a_cond _ (by (try simp (maxSteps := 2000000) only [Ty.w, simprocAttr, k1, k2, k3, k4, k5, k6, k7, k8, k9, k10, hlK]); rfl) (fun hb => ?_) (fun hb => ?_) <;> (try simp only [hb0, decide_eq_true_eq, decide_eq_false_iff_not, simprocAttr] at hb) <;> (try (exfalso; omega))) | (refine hK _ _ ?_; clear hK; (try simp only [pst0, simprocAttr])))
                        simp (maxSteps := 2000000) only [Ty.w, simprocAttr, Ty.all, Fm.cells]
                        exact ⟨0, 1, true, by simp [shapeOf, (show bEq op opAtom = false from k1), (show bEq op opSame = false from k2), (show bEq op opLt = false from k3), (show bEq op opLe = false from k4), (show bEq op opEq = false from k5), (show bEq op opAnd = false from k6), (show bEq op opOr = false from k7), (show bEq op opNot = false from k8), (show bEq op opImp = false from k9), (show bEq op opAll = true from k10)], fun hh => by simp [(show bEq op opAtom = false from k1), (show bEq op opSame = false from k2)] at hh, rfl, rfl, rfl⟩
                      | false =>
                        cases k11 : (op.data.toList == (#[101, 120, 105, 115, 116, 115] : Array UInt8).toList) with
                        | true =>
                          repeat' (first | (refine a_seq (fun K hK => ?_)) | (refine a_block ?_) | ((first | refine a_regionS ?_ | refine a_region (fun K hK => ?_)); simp (maxSteps := 2000000) only [Ty.w, simprocAttr, k1, k2, k3, k4, k5, k6, k7, k8, k9, k10, k11, hlK]) | (refine a_cond _ (by (try simp (maxSteps := 2000000) only [Ty.w, simprocAttr, k1, k2, k3, k4, k5, k6, k7, k8, k9, k10, k11, hlK]); rfl) (fun hb => ?_) (fun hb => ?_) <;> (try simp only [hb0, decide_eq_true_eq, decide_eq_false_iff_not, simprocAttr] at hb) <;> (try (exfalso; omega))) | (refine hK _ _ ?_; clear hK; (try simp only [pst0, simprocAttr])))
                          simp (maxSteps := 2000000) only [Ty.w, simprocAttr, Ty.all, Fm.cells]
                          exact ⟨0, 1, true, by simp [shapeOf, (show bEq op opAtom = false from k1), (show bEq op opSame = false from k2), (show bEq op opLt = false from k3), (show bEq op opLe = false from k4), (show bEq op opEq = false from k5), (show bEq op opAnd = false from k6), (show bEq op opOr = false from k7), (show bEq op opNot = false from k8), (show bEq op opImp = false from k9), (show bEq op opAll = false from k10), (show bEq op opSome = true from k11)], fun hh => by simp [(show bEq op opAtom = false from k1), (show bEq op opSame = false from k2)] at hh, rfl, rfl, rfl⟩
                        | false =>
                          have hp := hFf (by simp [partsOk, shapeOf, termsOk, (show bEq op opAtom = false from k1), (show bEq op opSame = false from k2), (show bEq op opLt = false from k3), (show bEq op opLe = false from k4), (show bEq op opEq = false from k5), (show bEq op opAnd = false from k6), (show bEq op opOr = false from k7), (show bEq op opNot = false from k8), (show bEq op opImp = false from k9), (show bEq op opAll = false from k10), (show bEq op opSome = false from k11)])
                          subst hp
                          repeat' (first | (refine a_seq (fun K hK => ?_)) | ((first | refine a_regionS ?_ | refine a_ret ?_); simp (maxSteps := 2000000) only [Ty.w, simprocAttr, k1, k2, k3, k4, k5, k6, k7, k8, k9, k10, k11]) | (refine a_cond _ (by (try simp (maxSteps := 2000000) only [Ty.w, simprocAttr, k1, k2, k3, k4, k5, k6, k7, k8, k9, k10, k11]); rfl) (fun hb => ?_) (fun hb => ?_) <;> (try simp only [hb0, decide_eq_true_eq, decide_eq_false_iff_not, simprocAttr] at hb) <;> (try (exfalso; omega))) | (refine hK _ _ ?_; clear hK; (try simp only [pst0, simprocAttr])))
                          all_goals first | exact G1 | exact ⟨rfl, G1⟩
  · rintro S h' ⟨rfl, g1, g2, g3, e, m, q, hs, ht, g7, g8, g9⟩
    simp only [Fm.cells] at g3
    have hO : headOk op name args params.length exprs.length kids.length = (termsOk op name args && decide (exprs.length = e) && decide (kids.length = m) && (decide (params.length = 0) || q)) := by unfold headOk; rw [hs]
    repeat' (with_reducible refine a_hold 24 ?_)
    refine ⟨?_⟩
    refine a_cut (fun S h2 => h2 = h' ∧ S 1 = .sc (.int .i64 d) ∧ S 2 = .ptr id 0 0 ∧ S 3 = .cptr (Fm.mk op name args params exprs kids).cells ∧ headOk op name args params.length exprs.length kids.length = true) ?_ ?_
    · have hFh : headOk op name args params.length exprs.length kids.length = false → F = (false, n + 1) := fun hh => hFf (by rw [partsOk_head, hh]; try rfl)
      have tA : bEq op opAtom = (op.data.toList == (#[97, 116, 111, 109] : Array UInt8).toList) := rfl
      have tS : bEq op opSame = (op.data.toList == (#[115, 97, 109, 101] : Array UInt8).toList) := rfl
      clear hFf hFt ih hs
      cases k1 : (op.data.toList == (#[97, 116, 111, 109] : Array UInt8).toList) with
      | true =>
        have hts := ht (by rw [tA, k1]; try rfl)
        cases c1 : ((exprs.length : Int) == (e : Int)) with
        | false =>
          have hp := hFh (by rw [hO]; simp [(show ¬ exprs.length = e by simp at c1; omega)])
          subst hp
          have c1p := eq_false (ne_of_beq_false c1)
          have c1i : ¬ exprs.length = e := by have := ne_of_beq_false c1; omega
          repeat' (first | (refine a_seq (fun K hK => ?_)) | ((first | refine a_regionS ?_ | refine a_ret ?_); simp (maxSteps := 2000000) only [Ty.w, simprocAttr, g1, g2, g3, g7, g8, g9, hlA, hlP, hlE, hlK, k1, c1, c1p, Bool.not_true, Bool.not_false, not_false_eq_true, not_true_eq_false, if_true, if_false]) | (with_reducible refine ite_in (fun hb => ?_) (fun hb => ?_) <;> (try simp only [Decidable.not_not] at hb) <;> (try simp only [hb, if_true, if_false, not_false_eq_true, not_true_eq_false, ↓reduceIte]) <;> (try simp only [hb0, decide_eq_true_eq, decide_eq_false_iff_not, simprocAttr] at hb) <;> (try (exfalso; omega))) | (refine hK _ _ ?_; clear hK; (try simp only [pst0, simprocAttr])))
          all_goals first | exact G1 | exact ⟨rfl, G1⟩
        | true =>
          have c1p := eq_true (eq_of_beq c1)
          have c1i : exprs.length = e := by have := eq_of_beq c1; omega
          cases c2 : ((kids.length : Int) == (m : Int)) with
          | false =>
            have c2p := eq_false (ne_of_beq_false c2)
            have c2i : ¬ kids.length = m := by have := ne_of_beq_false c2; omega
            have hp := hFh (by rw [hO]; simp [(show ¬ kids.length = m by simp at c2; omega)])
            subst hp
            repeat' (first | (refine a_seq (fun K hK => ?_)) | ((first | refine a_regionS ?_ | refine a_ret ?_); simp (maxSteps := 2000000) only [Ty.w, simprocAttr, g1, g2, g3, g7, g8, g9, hlA, hlP, hlE, hlK, k1, c1, c2, c1p, c2p, Bool.not_true, Bool.not_false, not_false_eq_true, not_true_eq_false, if_true, if_false]) | (with_reducible refine ite_in (fun hb => ?_) (fun hb => ?_) <;> (try simp only [Decidable.not_not] at hb) <;> (try simp only [hb, if_true, if_false, not_false_eq_true, not_true_eq_false, ↓reduceIte]) <;> (try simp only [hb0, decide_eq_true_eq, decide_eq_false_iff_not, simprocAttr] at hb) <;> (try (exfalso; omega))) | (refine hK _ _ ?_; clear hK; (try simp only [pst0, simprocAttr])))
            all_goals first | exact G1 | exact ⟨rfl, G1⟩
          | true =>
            have c2p := eq_true (eq_of_beq c2)
            have c2i : kids.length = m := by have := eq_of_beq c2; omega
            cases c3 : decide ((params.length : Int) > 0) with
            | false =>
              have c3e : params = [] := List.eq_nil_of_length_eq_zero (by have := of_decide_eq_false c3; omega)
              repeat' (first | (refine a_seq (fun K hK => ?_)) | (refine a_regionS ?_; simp (maxSteps := 2000000) only [Ty.w, simprocAttr, g1, g2, g3, g7, g8, g9, hlA, hlP, hlE, hlK, k1, c1, c2, c3, c1p, c2p, Bool.not_true, Bool.not_false, not_false_eq_true, not_true_eq_false, if_true, if_false]) | (refine a_skip ?_; (try simp only [pst0, simprocAttr])) | (refine a_cond _ (by (try simp (maxSteps := 2000000) only [Ty.w, simprocAttr, g1, g2, g3, g7, g8, g9, hlA, hlP, hlE, hlK, k1, c1, c2, c3, c1p, c2p, Bool.not_true, Bool.not_false, not_false_eq_true, not_true_eq_false, if_true, if_false]); rfl) (fun hb => ?_) (fun hb => ?_) <;> (try simp only [hb0, decide_eq_true_eq, decide_eq_false_iff_not, simprocAttr] at hb) <;> (try (exfalso; omega))) | (with_reducible refine ite_in (fun hb => ?_) (fun hb => ?_) <;> (try simp only [Decidable.not_not] at hb) <;> (try simp only [hb, if_true, if_false, not_false_eq_true, not_true_eq_false, ↓reduceIte]) <;> (try simp only [hb0, decide_eq_true_eq, decide_eq_false_iff_not, simprocAttr] at hb) <;> (try (exfalso; omega))) | (refine hK _ _ ?_; clear hK; (try simp only [pst0, simprocAttr])))
              simp (maxSteps := 2000000) only [Ty.w, simprocAttr, Ty.all, g1, g2, g3, Fm.cells]
              rw [hO, hts]; simp [(show exprs.length = e by simp at c1; omega), (show kids.length = m by simp at c2; omega), c3e]
            | true =>
              cases q with
              | false =>
                have hp := hFh (by rw [hO]; simp [(show ¬ params.length = 0 by have := of_decide_eq_true c3; omega)])
                subst hp
                repeat' (first | (refine a_seq (fun K hK => ?_)) | ((first | refine a_regionS ?_ | refine a_ret ?_); simp (maxSteps := 2000000) only [Ty.w, simprocAttr, g1, g2, g3, g7, g8, g9, hlA, hlP, hlE, hlK, k1, c1, c2, c3, c1p, c2p, Bool.not_true, Bool.not_false, not_false_eq_true, not_true_eq_false, if_true, if_false]) | (with_reducible refine ite_in (fun hb => ?_) (fun hb => ?_) <;> (try simp only [Decidable.not_not] at hb) <;> (try simp only [hb, if_true, if_false, not_false_eq_true, not_true_eq_false, ↓reduceIte]) <;> (try simp only [hb0, decide_eq_true_eq, decide_eq_false_iff_not, simprocAttr] at hb) <;> (try (exfalso; omega))) | (refine hK _ _ ?_; clear hK; (try simp only [pst0, simprocAttr])))
                all_goals first | exact G1 | exact ⟨rfl, G1⟩
              | true =>
                repeat' (first | (refine a_seq (fun K hK => ?_)) | (refine a_regionS ?_; simp (maxSteps := 2000000) only [Ty.w, simprocAttr, g1, g2, g3, g7, g8, g9, hlA, hlP, hlE, hlK, k1, c1, c2, c3, c1p, c2p, Bool.not_true, Bool.not_false, not_false_eq_true, not_true_eq_false, if_true, if_false]) | (refine a_skip ?_; (try simp only [pst0, simprocAttr])) | (refine a_cond _ (by (try simp (maxSteps := 2000000) only [Ty.w, simprocAttr, g1, g2, g3, g7, g8, g9, hlA, hlP, hlE, hlK, k1, c1, c2, c3, c1p, c2p, Bool.not_true, Bool.not_false, not_false_eq_true, not_true_eq_false, if_true, if_false]); rfl) (fun hb => ?_) (fun hb => ?_) <;> (try simp only [hb0, decide_eq_true_eq, decide_eq_false_iff_not, simprocAttr] at hb) <;> (try (exfalso; omega))) | (with_reducible refine ite_in (fun hb => ?_) (fun hb => ?_) <;> (try simp only [Decidable.not_not] at hb) <;> (try simp only [hb, if_true, if_false, not_false_eq_true, not_true_eq_false, ↓reduceIte]) <;> (try simp only [hb0, decide_eq_true_eq, decide_eq_false_iff_not, simprocAttr] at hb) <;> (try (exfalso; omega))) | (refine hK _ _ ?_; clear hK; (try simp only [pst0, simprocAttr])))
                simp (maxSteps := 2000000) only [Ty.w, simprocAttr, Ty.all, g1, g2, g3, Fm.cells]
                rw [hO, hts]; simp [(show exprs.length = e by simp at c1; omega), (show kids.length = m by simp at c2; omega)]
      | false =>
        cases k2 : (op.data.toList == (#[115, 97, 109, 101] : Array UInt8).toList) with
        | true =>
          have hts := ht (by rw [tS, k2]; simp)
          cases c1 : ((exprs.length : Int) == (e : Int)) with
          | false =>
            have hp := hFh (by rw [hO]; simp [(show ¬ exprs.length = e by simp at c1; omega)])
            subst hp
            have c1p := eq_false (ne_of_beq_false c1)
            have c1i : ¬ exprs.length = e := by have := ne_of_beq_false c1; omega
            repeat' (first | (refine a_seq (fun K hK => ?_)) | ((first | refine a_regionS ?_ | refine a_ret ?_); simp (maxSteps := 2000000) only [Ty.w, simprocAttr, g1, g2, g3, g7, g8, g9, hlA, hlP, hlE, hlK, k1, k2, c1, c1p, Bool.not_true, Bool.not_false, not_false_eq_true, not_true_eq_false, if_true, if_false]) | (with_reducible refine ite_in (fun hb => ?_) (fun hb => ?_) <;> (try simp only [Decidable.not_not] at hb) <;> (try simp only [hb, if_true, if_false, not_false_eq_true, not_true_eq_false, ↓reduceIte]) <;> (try simp only [hb0, decide_eq_true_eq, decide_eq_false_iff_not, simprocAttr] at hb) <;> (try (exfalso; omega))) | (refine hK _ _ ?_; clear hK; (try simp only [pst0, simprocAttr])))
            all_goals first | exact G1 | exact ⟨rfl, G1⟩
          | true =>
            have c1p := eq_true (eq_of_beq c1)
            have c1i : exprs.length = e := by have := eq_of_beq c1; omega
            cases c2 : ((kids.length : Int) == (m : Int)) with
            | false =>
              have c2p := eq_false (ne_of_beq_false c2)
              have c2i : ¬ kids.length = m := by have := ne_of_beq_false c2; omega
              have hp := hFh (by rw [hO]; simp [(show ¬ kids.length = m by simp at c2; omega)])
              subst hp
              repeat' (first | (refine a_seq (fun K hK => ?_)) | ((first | refine a_regionS ?_ | refine a_ret ?_); simp (maxSteps := 2000000) only [Ty.w, simprocAttr, g1, g2, g3, g7, g8, g9, hlA, hlP, hlE, hlK, k1, k2, c1, c2, c1p, c2p, Bool.not_true, Bool.not_false, not_false_eq_true, not_true_eq_false, if_true, if_false]) | (with_reducible refine ite_in (fun hb => ?_) (fun hb => ?_) <;> (try simp only [Decidable.not_not] at hb) <;> (try simp only [hb, if_true, if_false, not_false_eq_true, not_true_eq_false, ↓reduceIte]) <;> (try simp only [hb0, decide_eq_true_eq, decide_eq_false_iff_not, simprocAttr] at hb) <;> (try (exfalso; omega))) | (refine hK _ _ ?_; clear hK; (try simp only [pst0, simprocAttr])))
              all_goals first | exact G1 | exact ⟨rfl, G1⟩
            | true =>
              have c2p := eq_true (eq_of_beq c2)
              have c2i : kids.length = m := by have := eq_of_beq c2; omega
              cases c3 : decide ((params.length : Int) > 0) with
              | false =>
                have c3e : params = [] := List.eq_nil_of_length_eq_zero (by have := of_decide_eq_false c3; omega)
                repeat' (first | (refine a_seq (fun K hK => ?_)) | (refine a_regionS ?_; simp (maxSteps := 2000000) only [Ty.w, simprocAttr, g1, g2, g3, g7, g8, g9, hlA, hlP, hlE, hlK, k1, k2, c1, c2, c3, c1p, c2p, Bool.not_true, Bool.not_false, not_false_eq_true, not_true_eq_false, if_true, if_false]) | (refine a_skip ?_; (try simp only [pst0, simprocAttr])) | (refine a_cond _ (by (try simp (maxSteps := 2000000) only [Ty.w, simprocAttr, g1, g2, g3, g7, g8, g9, hlA, hlP, hlE, hlK, k1, k2, c1, c2, c3, c1p, c2p, Bool.not_true, Bool.not_false, not_false_eq_true, not_true_eq_false, if_true, if_false]); rfl) (fun hb => ?_) (fun hb => ?_) <;> (try simp only [hb0, decide_eq_true_eq, decide_eq_false_iff_not, simprocAttr] at hb) <;> (try (exfalso; omega))) | (with_reducible refine ite_in (fun hb => ?_) (fun hb => ?_) <;> (try simp only [Decidable.not_not] at hb) <;> (try simp only [hb, if_true, if_false, not_false_eq_true, not_true_eq_false, ↓reduceIte]) <;> (try simp only [hb0, decide_eq_true_eq, decide_eq_false_iff_not, simprocAttr] at hb) <;> (try (exfalso; omega))) | (refine hK _ _ ?_; clear hK; (try simp only [pst0, simprocAttr])))
                simp (maxSteps := 2000000) only [Ty.w, simprocAttr, Ty.all, g1, g2, g3, Fm.cells]
                rw [hO, hts]; simp [(show exprs.length = e by simp at c1; omega), (show kids.length = m by simp at c2; omega), c3e]
              | true =>
                cases q with
                | false =>
                  have hp := hFh (by rw [hO]; simp [(show ¬ params.length = 0 by have := of_decide_eq_true c3; omega)])
                  subst hp
                  repeat' (first | (refine a_seq (fun K hK => ?_)) | ((first | refine a_regionS ?_ | refine a_ret ?_); simp (maxSteps := 2000000) only [Ty.w, simprocAttr, g1, g2, g3, g7, g8, g9, hlA, hlP, hlE, hlK, k1, k2, c1, c2, c3, c1p, c2p, Bool.not_true, Bool.not_false, not_false_eq_true, not_true_eq_false, if_true, if_false]) | (with_reducible refine ite_in (fun hb => ?_) (fun hb => ?_) <;> (try simp only [Decidable.not_not] at hb) <;> (try simp only [hb, if_true, if_false, not_false_eq_true, not_true_eq_false, ↓reduceIte]) <;> (try simp only [hb0, decide_eq_true_eq, decide_eq_false_iff_not, simprocAttr] at hb) <;> (try (exfalso; omega))) | (refine hK _ _ ?_; clear hK; (try simp only [pst0, simprocAttr])))
                  all_goals first | exact G1 | exact ⟨rfl, G1⟩
                | true =>
                  repeat' (first | (refine a_seq (fun K hK => ?_)) | (refine a_regionS ?_; simp (maxSteps := 2000000) only [Ty.w, simprocAttr, g1, g2, g3, g7, g8, g9, hlA, hlP, hlE, hlK, k1, k2, c1, c2, c3, c1p, c2p, Bool.not_true, Bool.not_false, not_false_eq_true, not_true_eq_false, if_true, if_false]) | (refine a_skip ?_; (try simp only [pst0, simprocAttr])) | (refine a_cond _ (by (try simp (maxSteps := 2000000) only [Ty.w, simprocAttr, g1, g2, g3, g7, g8, g9, hlA, hlP, hlE, hlK, k1, k2, c1, c2, c3, c1p, c2p, Bool.not_true, Bool.not_false, not_false_eq_true, not_true_eq_false, if_true, if_false]); rfl) (fun hb => ?_) (fun hb => ?_) <;> (try simp only [hb0, decide_eq_true_eq, decide_eq_false_iff_not, simprocAttr] at hb) <;> (try (exfalso; omega))) | (with_reducible refine ite_in (fun hb => ?_) (fun hb => ?_) <;> (try simp only [Decidable.not_not] at hb) <;> (try simp only [hb, if_true, if_false, not_false_eq_true, not_true_eq_false, ↓reduceIte]) <;> (try simp only [hb0, decide_eq_true_eq, decide_eq_false_iff_not, simprocAttr] at hb) <;> (try (exfalso; omega))) | (refine hK _ _ ?_; clear hK; (try simp only [pst0, simprocAttr])))
                  simp (maxSteps := 2000000) only [Ty.w, simprocAttr, Ty.all, g1, g2, g3, Fm.cells]
                  rw [hO, hts]; simp [(show exprs.length = e by simp at c1; omega), (show kids.length = m by simp at c2; omega)]
        | false =>
          cases q1 : (name.data.toList == (#[] : Array UInt8).toList) with
          | false =>
            have hp := hFh (by rw [hO]; simp [termsOk, tA, tS, k1, k2, (show emptyB name = false from q1)])
            subst hp
            repeat' (first | (refine a_seq (fun K hK => ?_)) | ((first | refine a_regionS ?_ | refine a_ret ?_); simp (maxSteps := 2000000) only [Ty.w, simprocAttr, g1, g2, g3, g7, g8, g9, hlA, hlP, hlE, hlK, k1, k2, q1, Bool.not_true, Bool.not_false]) | (refine hK _ _ ?_; clear hK; (try simp only [pst0, simprocAttr])))
            all_goals first | exact G1 | exact ⟨rfl, G1⟩
          | true =>
            cases q2 : decide ((args.length : Int) > 0) with
            | true =>
              have hp := hFh (by rw [hO]; cases args with | nil => simp at q2 | cons a l => simp [termsOk, tA, tS, k1, k2])
              subst hp
              repeat' (first | (refine a_seq (fun K hK => ?_)) | ((first | refine a_regionS ?_ | refine a_ret ?_); simp (maxSteps := 2000000) only [Ty.w, simprocAttr, g1, g2, g3, g7, g8, g9, hlA, hlP, hlE, hlK, k1, k2, q1, q2, Bool.not_true, Bool.not_false]) | (refine hK _ _ ?_; clear hK; (try simp only [pst0, simprocAttr])))
              all_goals first | exact G1 | exact ⟨rfl, G1⟩
            | false =>
              have hts : termsOk op name args = true := by cases args with | nil => simp [termsOk, tA, tS, k1, k2, (show emptyB name = true from q1)] | cons a l => simp at q2
              cases c1 : ((exprs.length : Int) == (e : Int)) with
              | false =>
                have hp := hFh (by rw [hO]; simp [(show ¬ exprs.length = e by simp at c1; omega)])
                subst hp
                have c1p := eq_false (ne_of_beq_false c1)
                have c1i : ¬ exprs.length = e := by have := ne_of_beq_false c1; omega
                repeat' (first | (refine a_seq (fun K hK => ?_)) | ((first | refine a_regionS ?_ | refine a_ret ?_); simp (maxSteps := 2000000) only [Ty.w, simprocAttr, g1, g2, g3, g7, g8, g9, hlA, hlP, hlE, hlK, k1, k2, q1, q2, c1, c1p, Bool.not_true, Bool.not_false, not_false_eq_true, not_true_eq_false, if_true, if_false]) | (with_reducible refine ite_in (fun hb => ?_) (fun hb => ?_) <;> (try simp only [Decidable.not_not] at hb) <;> (try simp only [hb, if_true, if_false, not_false_eq_true, not_true_eq_false, ↓reduceIte]) <;> (try simp only [hb0, decide_eq_true_eq, decide_eq_false_iff_not, simprocAttr] at hb) <;> (try (exfalso; omega))) | (refine hK _ _ ?_; clear hK; (try simp only [pst0, simprocAttr])))
                all_goals first | exact G1 | exact ⟨rfl, G1⟩
              | true =>
                have c1p := eq_true (eq_of_beq c1)
                have c1i : exprs.length = e := by have := eq_of_beq c1; omega
                cases c2 : ((kids.length : Int) == (m : Int)) with
                | false =>
                  have c2p := eq_false (ne_of_beq_false c2)
                  have c2i : ¬ kids.length = m := by have := ne_of_beq_false c2; omega
                  have hp := hFh (by rw [hO]; simp [(show ¬ kids.length = m by simp at c2; omega)])
                  subst hp
                  repeat' (first | (refine a_seq (fun K hK => ?_)) | ((first | refine a_regionS ?_ | refine a_ret ?_); simp (maxSteps := 2000000) only [Ty.w, simprocAttr, g1, g2, g3, g7, g8, g9, hlA, hlP, hlE, hlK, k1, k2, q1, q2, c1, c2, c1p, c2p, Bool.not_true, Bool.not_false, not_false_eq_true, not_true_eq_false, if_true, if_false]) | (with_reducible refine ite_in (fun hb => ?_) (fun hb => ?_) <;> (try simp only [Decidable.not_not] at hb) <;> (try simp only [hb, if_true, if_false, not_false_eq_true, not_true_eq_false, ↓reduceIte]) <;> (try simp only [hb0, decide_eq_true_eq, decide_eq_false_iff_not, simprocAttr] at hb) <;> (try (exfalso; omega))) | (refine hK _ _ ?_; clear hK; (try simp only [pst0, simprocAttr])))
                  all_goals first | exact G1 | exact ⟨rfl, G1⟩
                | true =>
                  have c2p := eq_true (eq_of_beq c2)
                  have c2i : kids.length = m := by have := eq_of_beq c2; omega
                  cases c3 : decide ((params.length : Int) > 0) with
                  | false =>
                    have c3e : params = [] := List.eq_nil_of_length_eq_zero (by have := of_decide_eq_false c3; omega)
                    repeat' (first | (refine a_seq (fun K hK => ?_)) | (refine a_regionS ?_; simp (maxSteps := 2000000) only [Ty.w, simprocAttr, g1, g2, g3, g7, g8, g9, hlA, hlP, hlE, hlK, k1, k2, q1, q2, c1, c2, c3, c1p, c2p, Bool.not_true, Bool.not_false, not_false_eq_true, not_true_eq_false, if_true, if_false]) | (refine a_skip ?_; (try simp only [pst0, simprocAttr])) | (refine a_cond _ (by (try simp (maxSteps := 2000000) only [Ty.w, simprocAttr, g1, g2, g3, g7, g8, g9, hlA, hlP, hlE, hlK, k1, k2, q1, q2, c1, c2, c3, c1p, c2p, Bool.not_true, Bool.not_false, not_false_eq_true, not_true_eq_false, if_true, if_false]); rfl) (fun hb => ?_) (fun hb => ?_) <;> (try simp only [hb0, decide_eq_true_eq, decide_eq_false_iff_not, simprocAttr] at hb) <;> (try (exfalso; omega))) | (with_reducible refine ite_in (fun hb => ?_) (fun hb => ?_) <;> (try simp only [Decidable.not_not] at hb) <;> (try simp only [hb, if_true, if_false, not_false_eq_true, not_true_eq_false, ↓reduceIte]) <;> (try simp only [hb0, decide_eq_true_eq, decide_eq_false_iff_not, simprocAttr] at hb) <;> (try (exfalso; omega))) | (refine hK _ _ ?_; clear hK; (try simp only [pst0, simprocAttr])))
                    simp (maxSteps := 2000000) only [Ty.w, simprocAttr, Ty.all, g1, g2, g3, Fm.cells]
                    rw [hO, hts]; simp [(show exprs.length = e by simp at c1; omega), (show kids.length = m by simp at c2; omega), c3e]
                  | true =>
                    cases q with
                    | false =>
                      have hp := hFh (by rw [hO]; simp [(show ¬ params.length = 0 by have := of_decide_eq_true c3; omega)])
                      subst hp
                      repeat' (first | (refine a_seq (fun K hK => ?_)) | ((first | refine a_regionS ?_ | refine a_ret ?_); simp (maxSteps := 2000000) only [Ty.w, simprocAttr, g1, g2, g3, g7, g8, g9, hlA, hlP, hlE, hlK, k1, k2, q1, q2, c1, c2, c3, c1p, c2p, Bool.not_true, Bool.not_false, not_false_eq_true, not_true_eq_false, if_true, if_false]) | (with_reducible refine ite_in (fun hb => ?_) (fun hb => ?_) <;> (try simp only [Decidable.not_not] at hb) <;> (try simp only [hb, if_true, if_false, not_false_eq_true, not_true_eq_false, ↓reduceIte]) <;> (try simp only [hb0, decide_eq_true_eq, decide_eq_false_iff_not, simprocAttr] at hb) <;> (try (exfalso; omega))) | (refine hK _ _ ?_; clear hK; (try simp only [pst0, simprocAttr])))
                      all_goals first | exact G1 | exact ⟨rfl, G1⟩
                    | true =>
                      repeat' (first | (refine a_seq (fun K hK => ?_)) | (refine a_regionS ?_; simp (maxSteps := 2000000) only [Ty.w, simprocAttr, g1, g2, g3, g7, g8, g9, hlA, hlP, hlE, hlK, k1, k2, q1, q2, c1, c2, c3, c1p, c2p, Bool.not_true, Bool.not_false, not_false_eq_true, not_true_eq_false, if_true, if_false]) | (refine a_skip ?_; (try simp only [pst0, simprocAttr])) | (refine a_cond _ (by (try simp (maxSteps := 2000000) only [Ty.w, simprocAttr, g1, g2, g3, g7, g8, g9, hlA, hlP, hlE, hlK, k1, k2, q1, q2, c1, c2, c3, c1p, c2p, Bool.not_true, Bool.not_false, not_false_eq_true, not_true_eq_false, if_true, if_false]); rfl) (fun hb => ?_) (fun hb => ?_) <;> (try simp only [hb0, decide_eq_true_eq, decide_eq_false_iff_not, simprocAttr] at hb) <;> (try (exfalso; omega))) | (with_reducible refine ite_in (fun hb => ?_) (fun hb => ?_) <;> (try simp only [Decidable.not_not] at hb) <;> (try simp only [hb, if_true, if_false, not_false_eq_true, not_true_eq_false, ↓reduceIte]) <;> (try simp only [hb0, decide_eq_true_eq, decide_eq_false_iff_not, simprocAttr] at hb) <;> (try (exfalso; omega))) | (refine hK _ _ ?_; clear hK; (try simp only [pst0, simprocAttr])))
                      simp (maxSteps := 2000000) only [Ty.w, simprocAttr, Ty.all, g1, g2, g3, Fm.cells]
                      rw [hO, hts]; simp [(show exprs.length = e by simp at c1; omega), (show kids.length = m by simp at c2; omega)]
    · clear g1 g2 g3 g7 g8 g9 ht hO hs
      rintro S h2 ⟨rfl, g1, g2, g3, hH⟩
      simp only [Fm.cells] at g3
      repeat' (with_reducible refine a_hold 26 ?_)
      refine ⟨?_⟩
      refine a_cut (fun S h' => S 1 = .sc (.int .i64 d) ∧ S 2 = .ptr id 0 0 ∧ S 3 = .cptr (Fm.mk op name args params exprs kids).cells ∧ GrowX h id (cntO (n + 1)) h' ∧ params.all pmOk = true) ?_ ?_
      · have hFp : params.all pmOk = false → F = (false, n + 1) := fun hh => hFf (by rw [partsOk_head, hh]; simp)
        clear hFf hFt ih
        repeat' (first | (refine a_seq (fun K hK => ?_)) | (refine a_block ?_) | (refine a_regionS ?_; simp (maxSteps := 2000000) only [Ty.w, simprocAttr, g1, g2, g3, hlP]) | (refine hK _ _ ?_; clear hK; (try simp only [pst0, simprocAttr])))
        refine a_loop (fun c S h' => S 1 = .sc (.int .i64 d) ∧ S 2 = .ptr id 0 0 ∧ S 3 = .cptr (Fm.mk op name args params exprs kids).cells ∧ S 116 = .imm 2 (pmRows params) ∧ S 117 = .sc (.int .i64 params.length) ∧ ∃ k : Nat, S 118 = .sc (.int .i64 k) ∧ k ≤ params.length ∧ c = params.length - k ∧ GrowX h id (cntO (n + 1)) h' ∧ params.all pmOk = (params.drop k).all pmOk) params.length ?_ ?_
        · simp only [Ty.w, simprocAttr, g1, g2, g3, Fm.cells]
          exact ⟨0, rfl, by omega, rfl, G1, rfl⟩
        · clear G1 hO1 g1 g2 g3
          rintro c S h' ⟨g1, g2, g3, g116, g117, k, g118, hk, rfl, hG, hall⟩
          simp only [Fm.cells] at g3
          by_cases hlt : k < params.length
          · have hdk : decide ((k : Int) < (params.length : Int)) = true := by simp; omega
            have w7 : IntKind.i64.wrap ((k : Int) + 1) = k + 1 := by rw [wrap64 (by omega) (by omega)]
            obtain ⟨p, hx⟩ : ∃ p, params[k]? = some p := ⟨_, List.getElem?_eq_getElem hlt⟩
            have hr := pmRows_get hx
            have hpk := hps p (List.mem_of_getElem? hx)
            obtain ⟨hp1, hp2⟩ := hpk
            have hp1' : p.name.size ≤ 9223372036854775807 := by unfold bigN at hp1; omega
            have hG2 : GrowX h id (cntO (n + 1)) ((h'.new (.arr 2 [[.sc (.string ⟨#[]⟩), .sc (.string ⟨#[]⟩)]])).set h'.next (.arr 2 [[sPV p.name, sPV p.type]])) := (hG.new hid).set hid hG.le
            rw [drop_get hx] at hall
            simp only [List.all_cons, pmOk] at hall
            cases v1 : varB p.name with
            | false =>
              have hp := hFp (by rw [hall, v1]; try rfl)
              subst hp
              repeat' (first | (refine a_seq (fun K hK => ?_)) | (refine a_regionS ?_; simp (maxSteps := 2000000) only [Ty.w, simprocAttr, g1, g2, g3, g116, g117, g118, hdk, hr]) | (refine a_skip ?_; (try simp only [pst0, simprocAttr])) | (refine a_cond _ (by (try simp (maxSteps := 2000000) only [Ty.w, simprocAttr, g1, g2, g3, g116, g117, g118, hdk, hr]); rfl) (fun hb => ?_) (fun hb => ?_) <;> (try simp only [hb0, decide_eq_true_eq, decide_eq_false_iff_not, simprocAttr] at hb) <;> (try (exfalso; omega))) | (refine hK _ _ ?_; clear hK; (try simp only [pst0, simprocAttr])))
              refine owp_useQ (fvariable_c (s := p.name) hp1') (by (try simp only [Ty.w, simprocAttr, g1, g2, g3, g116, g117, g118, v1]); try rfl) ?_; simp (maxSteps := 2000000) only [Ty.w, simprocAttr, g1, g2, g3, g116, g117, g118, v1]
              repeat' (first | (refine a_seq (fun K hK => ?_)) | ((first | refine a_regionS ?_ | refine a_ret ?_); simp (maxSteps := 2000000) only [Ty.w, simprocAttr, g1, g2, g3, g116, g117, g118, v1, Bool.not_false]) | (refine hK _ _ ?_; clear hK; (try simp only [pst0, simprocAttr])))
              first | exact hG2 | exact ⟨rfl, hG2⟩
            | true =>
              cases v2 : typedB p.type with
              | false =>
                have hp := hFp (by rw [hall, v1, v2]; try rfl)
                subst hp
                repeat' (first | (refine a_seq (fun K hK => ?_)) | (refine a_regionS ?_; simp (maxSteps := 2000000) only [Ty.w, simprocAttr, g1, g2, g3, g116, g117, g118, hdk, hr]) | (refine a_skip ?_; (try simp only [pst0, simprocAttr])) | (refine a_cond _ (by (try simp (maxSteps := 2000000) only [Ty.w, simprocAttr, g1, g2, g3, g116, g117, g118, hdk, hr]); rfl) (fun hb => ?_) (fun hb => ?_) <;> (try simp only [hb0, decide_eq_true_eq, decide_eq_false_iff_not, simprocAttr] at hb) <;> (try (exfalso; omega))) | (refine hK _ _ ?_; clear hK; (try simp only [pst0, simprocAttr])))
                refine owp_useQ (fvariable_c (s := p.name) hp1') (by (try simp only [Ty.w, simprocAttr, g1, g2, g3, g116, g117, g118, v1]); try rfl) ?_; simp (maxSteps := 2000000) only [Ty.w, simprocAttr, g1, g2, g3, g116, g117, g118, v1]
                skip
                refine owp_useQ (typed_c (s := p.type) hp2) (by (try simp only [Ty.w, simprocAttr, g1, g2, g3, g116, g117, g118, v1, v2]); try rfl) ?_; simp (maxSteps := 2000000) only [Ty.w, simprocAttr, g1, g2, g3, g116, g117, g118, v1, v2]
                repeat' (first | (refine a_seq (fun K hK => ?_)) | ((first | refine a_regionS ?_ | refine a_ret ?_); simp (maxSteps := 2000000) only [Ty.w, simprocAttr, g1, g2, g3, g116, g117, g118, v1, v2, Bool.not_false, Bool.not_true]) | (refine hK _ _ ?_; clear hK; (try simp only [pst0, simprocAttr])))
                first | exact hG2 | exact ⟨rfl, hG2⟩
              | true =>
                rw [v1, v2] at hall
                repeat' (first | (refine a_seq (fun K hK => ?_)) | (refine a_regionS ?_; simp (maxSteps := 2000000) only [Ty.w, simprocAttr, g1, g2, g3, g116, g117, g118, hdk, hr]) | (refine a_skip ?_; (try simp only [pst0, simprocAttr])) | (refine a_cond _ (by (try simp (maxSteps := 2000000) only [Ty.w, simprocAttr, g1, g2, g3, g116, g117, g118, hdk, hr]); rfl) (fun hb => ?_) (fun hb => ?_) <;> (try simp only [hb0, decide_eq_true_eq, decide_eq_false_iff_not, simprocAttr] at hb) <;> (try (exfalso; omega))) | (refine hK _ _ ?_; clear hK; (try simp only [pst0, simprocAttr])))
                refine owp_useQ (fvariable_c (s := p.name) hp1') (by (try simp only [Ty.w, simprocAttr, g1, g2, g3, g116, g117, g118, v1]); try rfl) ?_; simp (maxSteps := 2000000) only [Ty.w, simprocAttr, g1, g2, g3, g116, g117, g118, v1]
                skip
                refine owp_useQ (typed_c (s := p.type) hp2) (by (try simp only [Ty.w, simprocAttr, g1, g2, g3, g116, g117, g118, v1, v2]); try rfl) ?_; simp (maxSteps := 2000000) only [Ty.w, simprocAttr, g1, g2, g3, g116, g117, g118, v1, v2]
                repeat' (first | (refine a_block ?_) | (refine a_regionS ?_; simp (maxSteps := 2000000) only [Ty.w, simprocAttr, g1, g2, g3, g116, g117, g118, v1, v2, w7, Bool.not_true]) | (refine a_skip ?_; (try simp only [pst0, simprocAttr])) | (refine hK _ _ ?_; clear hK; (try simp only [pst0, simprocAttr])))
                exact ⟨params.length - (k + 1), by omega, by simp only [Fm.cells], k + 1, by simp, by omega, rfl, hG2, by simpa using hall⟩
          · have hdk : decide ((k : Int) < (params.length : Int)) = false := by simp; omega
            rw [List.drop_eq_nil_of_le (by omega)] at hall
            repeat' (first | (refine a_seq (fun K hK => ?_)) | (refine a_regionS ?_; simp (maxSteps := 2000000) only [Ty.w, simprocAttr, g1, g2, g3, g116, g117, g118, hdk]) | (refine a_exit ?_; (try simp only [pst0, simprocAttr])) | (refine a_cond _ (by (try simp (maxSteps := 2000000) only [Ty.w, simprocAttr, g1, g2, g3, g116, g117, g118, hdk]); rfl) (fun hb => ?_) (fun hb => ?_) <;> (try simp only [hb0, decide_eq_true_eq, decide_eq_false_iff_not, simprocAttr] at hb) <;> (try (exfalso; omega))) | (refine hK _ _ ?_; clear hK; (try simp only [pst0, simprocAttr])))
            simp (maxSteps := 2000000) only [Ty.w, simprocAttr, Ty.all, g1, g2, g3, Fm.cells]
            exact ⟨hG, hall⟩
      · clear g1 g2 g3 G1 hO1
        rintro S h' ⟨g1, g2, g3, hG, hall⟩
        simp only [Fm.cells] at g3
        have hFe := hFt (by rw [partsOk_head, hH, hall]; try rfl)
        clear hFt hFf hH hall
        repeat' (with_reducible refine a_hold 32 ?_)
        refine ⟨?_⟩
        refine a_cut (fun S h' => S 1 = .sc (.int .i64 d) ∧ S 2 = .ptr id 0 0 ∧ S 3 = .cptr (Fm.mk op name args params exprs kids).cells ∧ ∃ n' : Nat, n' ≤ 4096 ∧ GrowX h id (cntO n') h' ∧ F = shapedMs kids (d + 1) n') ?_ ?_
        · clear ih
          repeat' (first | (refine a_seq (fun K hK => ?_)) | (refine a_block ?_) | (refine a_regionS ?_; simp (maxSteps := 2000000) only [Ty.w, simprocAttr, g1, g2, g3, hlE]) | (refine hK _ _ ?_; clear hK; (try simp only [pst0, simprocAttr])))
          refine a_loop (fun c S h' => S 1 = .sc (.int .i64 d) ∧ S 2 = .ptr id 0 0 ∧ S 3 = .cptr (Fm.mk op name args params exprs kids).cells ∧ S 134 = .imm 5 (Ex.rows exprs) ∧ S 135 = .sc (.int .i64 exprs.length) ∧ ∃ k n' : Nat, S 136 = .sc (.int .i64 k) ∧ k ≤ exprs.length ∧ c = exprs.length - k ∧ n' ≤ 4096 ∧ GrowX h id (cntO n') h' ∧ F = (match formedMs (exprs.drop k) (d + 1) n' with
            | (true, c') => shapedMs kids (d + 1) c'
            | (false, c') => (false, c'))) exprs.length ?_ ?_
          · simp only [Ty.w, simprocAttr, g1, g2, g3, Fm.cells]
            exact ⟨0, n + 1, rfl, by omega, rfl, by omega, hG, hFe⟩
          · clear g1 g2 g3 hG hFe
            rintro c S h' ⟨g1, g2, g3, g134, g135, k, n', g136, hk, rfl, hn', hG, hFe⟩
            simp only [Fm.cells] at g3
            by_cases hlt : k < exprs.length
            · have hdk : decide ((k : Int) < (exprs.length : Int)) = true := by simp; omega
              have w7 : IntKind.i64.wrap ((k : Int) + 1) = k + 1 := by rw [wrap64 (by omega) (by omega)]
              obtain ⟨x, hx⟩ : ∃ x, exprs[k]? = some x := ⟨_, List.getElem?_eq_getElem hlt⟩
              have hmem := List.mem_of_getElem? hx
              have hr := Ex.rows_get hx
              have hne : id ≠ h'.next := by have := hG.le; omega
              have hcx := formed_c x (hes x hmem) (d + 1) n' (by omega) hn' id ((h'.new (.arr 5 [[.sc (.string ⟨#[]⟩), .sc (.string ⟨#[]⟩), .sc (.int .i64 0), .sc (.slice none 0 0), .sc (.slice none 0 0)]])).set h'.next (.arr 5 [x.cells])) (by simp only [Heap.set, Heap.new]; rw [if_neg hne, if_neg hne]; exact hG.at_)
              have hG2 : GrowX h id (cntO n') ((h'.new (.arr 5 [[.sc (.string ⟨#[]⟩), .sc (.string ⟨#[]⟩), .sc (.int .i64 0), .sc (.slice none 0 0), .sc (.slice none 0 0)]])).set h'.next (.arr 5 [x.cells])) := (hG.new hid).set hid hG.le
              have hle := formedM_le x (d + 1) n'
              rw [drop_get hx] at hFe
              simp only [formedMs] at hFe
              generalize formedM x (d + 1) n' = V at hcx hle hFe
              obtain ⟨b, n''⟩ := V
              simp only [natc] at hcx hle hFe
              obtain ⟨xo, xn, xv, xa, xk⟩ := x
              simp only [Ex.cells] at hr hcx hG2
              repeat' (first | (refine a_seq (fun K hK => ?_)) | (refine a_regionS ?_; simp (maxSteps := 2000000) only [Ty.w, simprocAttr, g1, g2, g3, g134, g135, g136, hdk, hr, wd]) | (refine a_skip ?_; (try simp only [pst0, simprocAttr])) | (refine a_cond _ (by (try simp (maxSteps := 2000000) only [Ty.w, simprocAttr, g1, g2, g3, g134, g135, g136, hdk, hr, wd]); rfl) (fun hb => ?_) (fun hb => ?_) <;> (try simp only [hb0, decide_eq_true_eq, decide_eq_false_iff_not, simprocAttr] at hb) <;> (try (exfalso; omega))) | (refine hK _ _ ?_; clear hK; (try simp only [pst0, simprocAttr])))
              refine owp_useH (hcx) (by (try simp only [Ty.w, simprocAttr, g1, g2, g3, g134, g135, g136, hr, wd]); try rfl) ?_; simp (maxSteps := 2000000) only [Ty.w, simprocAttr, g1, g2, g3, g134, g135, g136, hr, wd]
              cases b with
              | false =>
                simp only at hFe
                subst hFe
                repeat' (first | (refine a_seq (fun K hK => ?_)) | ((first | refine a_regionS ?_ | refine a_ret ?_); simp (maxSteps := 2000000) only [Ty.w, simprocAttr, g1, g2, g3, g134, g135, g136, Bool.not_false]) | (refine hK _ _ ?_; clear hK; (try simp only [pst0, simprocAttr])))
                first | exact hG2.put | exact ⟨rfl, hG2.put⟩
              | true =>
                simp only at hFe
                repeat' (first | (refine a_block ?_) | (refine a_regionS ?_; simp (maxSteps := 2000000) only [Ty.w, simprocAttr, g1, g2, g3, g134, g135, g136, w7, Bool.not_true]) | (refine a_skip ?_; (try simp only [pst0, simprocAttr])) | (refine hK _ _ ?_; clear hK; (try simp only [pst0, simprocAttr])))
                exact ⟨exprs.length - (k + 1), by omega, by simp only [Fm.cells], k + 1, n'', by simp, by omega, rfl, hle rfl, hG2.put, hFe⟩
            · have hdk : decide ((k : Int) < (exprs.length : Int)) = false := by simp; omega
              rw [List.drop_eq_nil_of_le (by omega)] at hFe
              simp only [formedMs] at hFe
              repeat' (first | (refine a_seq (fun K hK => ?_)) | (refine a_regionS ?_; simp (maxSteps := 2000000) only [Ty.w, simprocAttr, g1, g2, g3, g134, g135, g136, hdk]) | (refine a_exit ?_; (try simp only [pst0, simprocAttr])) | (refine a_cond _ (by (try simp (maxSteps := 2000000) only [Ty.w, simprocAttr, g1, g2, g3, g134, g135, g136, hdk]); rfl) (fun hb => ?_) (fun hb => ?_) <;> (try simp only [hb0, decide_eq_true_eq, decide_eq_false_iff_not, simprocAttr] at hb) <;> (try (exfalso; omega))) | (refine hK _ _ ?_; clear hK; (try simp only [pst0, simprocAttr])))
              simp (maxSteps := 2000000) only [Ty.w, simprocAttr, Ty.all, g1, g2, g3, Fm.cells]
              exact ⟨n', hn', hG, hFe⟩
        · clear g1 g2 g3 hG hFe
          rintro S h' ⟨g1, g2, g3, n0, hn0, hG, hFe⟩
          simp only [Fm.cells] at g3
          repeat' (first | (refine a_seq (fun K hK => ?_)) | (refine a_block ?_) | (refine a_regionS ?_; simp (maxSteps := 2000000) only [Ty.w, simprocAttr, g1, g2, g3, hlK]) | (refine hK _ _ ?_; clear hK; (try simp only [pst0, simprocAttr])))
          refine a_loop (fun c S h' => S 1 = .sc (.int .i64 d) ∧ S 2 = .ptr id 0 0 ∧ S 148 = .imm 6 (Fm.rows kids) ∧ S 149 = .sc (.int .i64 kids.length) ∧ ∃ k n' : Nat, S 150 = .sc (.int .i64 k) ∧ k ≤ kids.length ∧ c = kids.length - k ∧ n' ≤ 4096 ∧ GrowX h id (cntO n') h' ∧ F = shapedMs (kids.drop k) (d + 1) n') kids.length ?_ ?_
          · simp only [Ty.w, simprocAttr, g1, g2]
            exact ⟨0, n0, rfl, by omega, rfl, hn0, hG, hFe⟩
          · clear g1 g2 g3 hG hFe
            rintro c S h' ⟨g1, g2, g148, g149, k, n', g150, hk, rfl, hn', hG, hFe⟩
            by_cases hlt : k < kids.length
            · have hdk : decide ((k : Int) < (kids.length : Int)) = true := by simp; omega
              have w7 : IntKind.i64.wrap ((k : Int) + 1) = k + 1 := by rw [wrap64 (by omega) (by omega)]
              obtain ⟨x, hx⟩ : ∃ x, kids[k]? = some x := ⟨_, List.getElem?_eq_getElem hlt⟩
              have hmem := List.mem_of_getElem? hx
              have hr := Fm.rows_get hx
              have hne : id ≠ h'.next := by have := hG.le; omega
              have hcx := ih x hmem (hks x hmem) (d + 1) n' (by omega) hn' id ((h'.new (.arr 6 [[.sc (.string ⟨#[]⟩), .sc (.string ⟨#[]⟩), .sc (.slice none 0 0), .sc (.slice none 0 0), .sc (.slice none 0 0), .sc (.slice none 0 0)]])).set h'.next (.arr 6 [x.cells])) (by simp only [Heap.set, Heap.new]; rw [if_neg hne, if_neg hne]; exact hG.at_)
              have hG2 : GrowX h id (cntO n') ((h'.new (.arr 6 [[.sc (.string ⟨#[]⟩), .sc (.string ⟨#[]⟩), .sc (.slice none 0 0), .sc (.slice none 0 0), .sc (.slice none 0 0), .sc (.slice none 0 0)]])).set h'.next (.arr 6 [x.cells])) := (hG.new hid).set hid hG.le
              have hle := shapedM_le x (d + 1) n'
              rw [drop_get hx] at hFe
              simp only [shapedMs] at hFe
              generalize shapedM x (d + 1) n' = V at hcx hle hFe
              obtain ⟨b, n''⟩ := V
              simp only [natc] at hcx hle hFe
              obtain ⟨xo, xn, xa, xp, xe, xk⟩ := x
              simp only [Fm.cells] at hr hcx hG2
              repeat' (first | (refine a_seq (fun K hK => ?_)) | (refine a_regionS ?_; simp (maxSteps := 2000000) only [Ty.w, simprocAttr, g1, g2, g148, g149, g150, hdk, hr, wd]) | (refine a_skip ?_; (try simp only [pst0, simprocAttr])) | (refine a_cond _ (by (try simp (maxSteps := 2000000) only [Ty.w, simprocAttr, g1, g2, g148, g149, g150, hdk, hr, wd]); rfl) (fun hb => ?_) (fun hb => ?_) <;> (try simp only [hb0, decide_eq_true_eq, decide_eq_false_iff_not, simprocAttr] at hb) <;> (try (exfalso; omega))) | (refine hK _ _ ?_; clear hK; (try simp only [pst0, simprocAttr])))
              refine owp_useH (hcx) (by (try simp only [Ty.w, simprocAttr, g1, g2, g148, g149, g150, hr, wd]); try rfl) ?_; simp (maxSteps := 2000000) only [Ty.w, simprocAttr, g1, g2, g148, g149, g150, hr, wd]
              cases b with
              | false =>
                simp only at hFe
                subst hFe
                repeat' (first | (refine a_seq (fun K hK => ?_)) | ((first | refine a_regionS ?_ | refine a_ret ?_); simp (maxSteps := 2000000) only [Ty.w, simprocAttr, g1, g2, g148, g149, g150, Bool.not_false]) | (refine hK _ _ ?_; clear hK; (try simp only [pst0, simprocAttr])))
                first | exact hG2.put | exact ⟨rfl, hG2.put⟩
              | true =>
                simp only at hFe
                repeat' (first | (refine a_block ?_) | (refine a_regionS ?_; simp (maxSteps := 2000000) only [Ty.w, simprocAttr, g1, g2, g148, g149, g150, w7, Bool.not_true]) | (refine a_skip ?_; (try simp only [pst0, simprocAttr])) | (refine hK _ _ ?_; clear hK; (try simp only [pst0, simprocAttr])))
                exact ⟨kids.length - (k + 1), by omega, k + 1, n'', by simp, by omega, rfl, hle rfl, hG2.put, hFe⟩
            · have hdk : decide ((k : Int) < (kids.length : Int)) = false := by simp; omega
              rw [List.drop_eq_nil_of_le (by omega)] at hFe
              simp only [shapedMs] at hFe
              subst hFe
              repeat' (first | (refine a_seq (fun K hK => ?_)) | ((first | refine a_regionS ?_ | refine a_ret ?_); simp (maxSteps := 2000000) only [Ty.w, simprocAttr, g1, g2, g148, g149, g150, hdk]) | (refine a_exit ?_; (try simp only [pst0, simprocAttr])) | (refine a_cond _ (by (try simp (maxSteps := 2000000) only [Ty.w, simprocAttr, g1, g2, g148, g149, g150, hdk]); rfl) (fun hb => ?_) (fun hb => ?_) <;> (try simp only [hb0, decide_eq_true_eq, decide_eq_false_iff_not, simprocAttr] at hb) <;> (try (exfalso; omega))) | ((first | refine hK _ _ ?_ | (clear hK; refine hK _ _ ?_)); clear hK; (try simp only [pst0, simprocAttr])))
              first | exact hG | exact ⟨rfl, hG⟩
end Go.Proofs.Ytjlkapgpjamnkaa
namespace Go.AM
mutual
def Fm.small : Fm → Prop
  | .mk _ _ args params exprs kids => args.length ≤ 1048576 ∧ params.length ≤ 1048576 ∧ Ex.smalls exprs ∧ kids.length ≤ 1048576 ∧ Fm.smalls kids
def Fm.smalls : List Fm → Prop
  | [] => True
  | k :: ks => k.small ∧ Fm.smalls ks
end
theorem Fm.smalls_iff : {l : List Fm} → (Fm.smalls l ↔ ∀ k ∈ l, k.small)
  | [] => by simp [Fm.smalls]
  | k :: ks => by simp [Fm.smalls, Fm.smalls_iff (l := ks)]
end Go.AM
namespace Go.Proofs.Ytjlkapgpjamnkaa
open Go.AM
set_option maxHeartbeats 4000000
set_option maxRecDepth 20000
/-- where write stands: the result's variable, the variable out and its elements -/
structure WrI (h : Heap) (L : List Sx) (h' : Heap) : Prop where
  grow : Grow h h'
  ex : ∃ p H, h.next + 1 < h'.next ∧ h'.obj h.next = some (.arr 6 [[.sc (.int .i64 0), .sc (.int .i64 0), .sc (.int .i64 0), .sc (.int .i64 0), .sc (.string ⟨#[]⟩), .sc (.slice none 0 0)]]) ∧
    h'.obj (h.next + 1) = some (.arr 6 [[.sc (.int .i64 3), .sc (.int .i64 0), .sc (.int .i64 0), .sc (.int .i64 0), .sc (.string ⟨#[]⟩), p]]) ∧ Tl h' (h.next + 2) 6 p (Sx.rows L) ∧
    isTail h' p = some (H, Sx.rows L) ∧ zOk h' 6 p = true ∧ H.next = h'.next ∧ (∀ j, j < h.next + 2 → H.obj j = h'.obj j) ∧ Grow h H ∧ p.cells = [p] ∧ oneC p = true
theorem WrI.mk2 {h h' : Heap} {L : List Sx} {p : PV} (g : Grow h h') (hn : h.next + 1 < h'.next) (o1 : h'.obj h.next = some (.arr 6 [[.sc (.int .i64 0), .sc (.int .i64 0), .sc (.int .i64 0), .sc (.int .i64 0), .sc (.string ⟨#[]⟩), .sc (.slice none 0 0)]])) (o2 : h'.obj (h.next + 1) = some (.arr 6 [[.sc (.int .i64 3), .sc (.int .i64 0), .sc (.int .i64 0), .sc (.int .i64 0), .sc (.string ⟨#[]⟩), p]])) (tl : Tl h' (h.next + 2) 6 p (Sx.rows L)) : WrI h L h' := by
  obtain ⟨H, t1, t2, t3, t4, t5⟩ := tl.tail
  have hk := t5 h ⟨g.le, g.old⟩ (by omega)
  refine ⟨g, p, H, hn, o1, o2, tl, t1, t2, t3, t4, ⟨hk.1, hk.2⟩, ?_, ?_⟩
  · rcases tl with ⟨_, rfl | rfl⟩ | ⟨_, _, _, rfl, _⟩ <;> rfl
  · rcases tl with ⟨_, rfl | rfl⟩ | ⟨_, _, _, rfl, _⟩ <;> rfl
theorem Tl.low {h : Heap} {a b z : Nat} {p : PV} {rows : List (List PV)} (t : Tl h a z p rows) (hab : b ≤ a) : Tl h b z p rows := by
  rcases t with ht | ⟨id, h1, h2⟩
  · exact .inl ht
  · exact .inr ⟨id, by omega, h2⟩
theorem WrI.push {h h' H : Heap} {L : List Sx} {X : Sx} {m : Nat} (hn : h.next + 1 < h'.next) (o1 : h'.obj h.next = some (.arr 6 [[.sc (.int .i64 0), .sc (.int .i64 0), .sc (.int .i64 0), .sc (.int .i64 0), .sc (.string ⟨#[]⟩), .sc (.slice none 0 0)]])) (t3 : H.next = h'.next) (t4 : ∀ j, j < h.next + 2 → H.obj j = h'.obj j) (g : Grow h H) (hm : m = L.length + 1) :
    WrI h (L ++ [X]) ((H.new (.arr 6 (Sx.rows L ++ [X.cells]))).set (h.next + 1) (.arr 6 [[.sc (.int .i64 3), .sc (.int .i64 0), .sc (.int .i64 0), .sc (.int .i64 0), .sc (.string ⟨#[]⟩), .own h'.next 0 m]])) := by
  have e1 : Sx.rows (L ++ [X]) = Sx.rows L ++ [X.cells] := by simp [Sx.rows_map]
  have n1 : ¬ h.next = h.next + 1 := by omega
  have n2 : ¬ h.next = H.next := by omega
  refine WrI.mk2 (p := .own h'.next 0 m) ((g.new _).set (by omega) _) (by simp only [Heap.set, Heap.new]; omega) ?_ ?_ ?_
  rotate_left
  · simp only [Heap.set, if_true]
  · rw [e1, ← t3]
    have : Tl (H.new (.arr 6 (Sx.rows L ++ [X.cells]))) (h.next + 2) 6 (.own H.next 0 m) (Sx.rows L ++ [X.cells]) := Tl.grow (by omega) (by rw [hm]; simp [Sx.rows_len])
    exact this.up (Nat.le_refl _) (fun j hj _ => by simp only [Heap.set]; rw [if_neg (by omega)])
  · simp only [Heap.set, Heap.new, n1, n2, if_false]
    rw [t4 _ (by omega)]; exact o1
theorem a_heap {P : Program} {ow : Nat → Bool} {wf : FuncId → Bool} {n : Nat} {Q : Post} {s : Slots} {h0 : Heap} {c : Code} (I : Heap → Prop) (hi : I h0) (hh : ∀ h', I h' → awp P ow wf n c Q s h') : awp P ow wf n c Q s h0 := hh _ hi
theorem write_c : ∀ f : Fm, f.small → shapedF f = true → ∀ h : Heap, PCall Try.prog 65 [.agg f.cells] h fun r h' => r = .agg (fmW f).cells ∧ h' = h := by
  refine Fm.ind ?_
  intro op name args params exprs kids ih hsm hsh h
  simp only [Fm.small] at hsm
  obtain ⟨hal, hpl, hes, hkl, hks⟩ := hsm
  rw [Ex.smalls_iff] at hes
  rw [Fm.smalls_iff] at hks
  simp only [shapedF, Bool.and_eq_true] at hsh
  obtain ⟨⟨hpo, hse⟩, hsk⟩ := hsh
  rw [shapedFs_iff] at hsk
  rw [List.all_eq_true] at hse
  have hlK := Fm.rows_len kids
  unfold fmW
  refine PCall.frz Ty.hb_65 ?_
  cases k1 : (op.data.toList == (#[97, 116, 111, 109] : Array UInt8).toList) with
  | true =>
    rw [if_pos (show bEq op opAtom = true from k1)]
    have hw : ∀ h : Heap, PCall Try.prog 109 [sPV name, .imm 1 (strRows args)] h fun r h' => r = .agg (wordsM name args).cells ∧ h' = h := fun h => words_c hal
    have hfz := fun (n : Nat) (h : Heap) => sx_frz n h (wordsM name args)
    simp only [Fm.cells]
    generalize wordsM name args = X at hw hfz ⊢
    obtain ⟨ki, va, li, co, te, ks⟩ := X
    simp only [Sx.cells] at hw hfz ⊢
    refine pcall_body (ow := fun _ => false) (wf := fun _ => false) Ty.mixed Try.func65 rfl Ty.hb_65 (by rw [Try.ntmps65]; simp) ?_
    rw [Try.ntmps65, Try.results65]
    repeat' (first | (refine a_seq (fun K hK => ?_)) | (refine a_regionS ?_; simp (maxSteps := 2000000) only [Ty.w, simprocAttr, k1]) | (refine hK _ _ ?_; clear hK; (try simp only [pst0, simprocAttr])))
    refine owp_useQ (hw _) (by (try simp only [Ty.w, simprocAttr, k1]); try rfl) ?_; simp (maxSteps := 2000000) only [Ty.w, simprocAttr, k1]
    repeat' (first | (refine a_ret ?_; simp (maxSteps := 2000000) only [Ty.w, simprocAttr]) | (refine hK _ _ ?_; clear hK; (try simp only [pst0, simprocAttr])))
    refine ⟨?_, ((Grow.refl h).new _).set (Nat.le_refl _) _⟩
    simp only [FrzTo]
    exact ⟨_, rfl, hfz _ _⟩
  | false =>
    cases k2 : (op.data.toList == (#[115, 97, 109, 101] : Array UInt8).toList) with
    | true =>
      rw [if_neg (by rw [(show bEq op opAtom = false from k1)]; simp)]
      rw [if_pos (show bEq op opSame = true from k2)]
      have hw : ∀ h : Heap, PCall Try.prog 109 [sPV ⟨#[61]⟩, .imm 1 (strRows args)] h fun r h' => r = .agg (wordsM opEq args).cells ∧ h' = h := fun h => words_c hal
      have hfz := fun (n : Nat) (h : Heap) => sx_frz n h (wordsM opEq args)
      simp only [Fm.cells]
      generalize wordsM opEq args = X at hw hfz ⊢
      obtain ⟨ki, va, li, co, te, ks⟩ := X
      simp only [Sx.cells] at hw hfz ⊢
      refine pcall_body (ow := fun _ => false) (wf := fun _ => false) Ty.mixed Try.func65 rfl Ty.hb_65 (by rw [Try.ntmps65]; simp) ?_
      rw [Try.ntmps65, Try.results65]
      repeat' (first | (refine a_seq (fun K hK => ?_)) | (refine a_regionS ?_; simp (maxSteps := 2000000) only [Ty.w, simprocAttr, k1, k2]) | (refine hK _ _ ?_; clear hK; (try simp only [pst0, simprocAttr])))
      refine owp_useQ (hw _) (by (try simp only [Ty.w, simprocAttr, k1, k2]); try rfl) ?_; simp (maxSteps := 2000000) only [Ty.w, simprocAttr, k1, k2]
      repeat' (first | (refine a_ret ?_; simp (maxSteps := 2000000) only [Ty.w, simprocAttr]) | (refine hK _ _ ?_; clear hK; (try simp only [pst0, simprocAttr])))
      refine ⟨?_, ((Grow.refl h).new _).set (Nat.le_refl _) _⟩
      simp only [FrzTo]
      exact ⟨_, rfl, hfz _ _⟩
    | false =>
      rw [if_neg (by rw [(show bEq op opAtom = false from k1)]; simp), if_neg (by rw [(show bEq op opSame = false from k2)]; simp)]
      cases k3 : (op.data.toList == (#[60] : Array UInt8).toList) with
      | true =>
        rw [if_pos (by simp [isCmp, (show bEq op opAtom = false from k1), (show bEq op opSame = false from k2), (show bEq op opLt = true from k3)])]
        have hx2 : exprs.length = 2 := by have q := hpo; simp [partsOk, shapeOf, (show bEq op opAtom = false from k1), (show bEq op opSame = false from k2), (show bEq op opLt = true from k3)] at q; omega
        obtain ⟨a, b, rfl⟩ : ∃ a b, exprs = [a, b] := by
          match exprs, hx2 with
          | [a, b], _ => exact ⟨a, b, rfl⟩
        have ca := writeE_c a (hes a (by simp)) (hse a (by simp))
        have cb := writeE_c b (hes b (by simp)) (hse b (by simp))
        have hw := fun h : Heap => word_c (h := h) (s := op)
        simp only [List.map_cons, List.map_nil]
        have hfz := fun (n : Nat) (h : Heap) => sx_frz n h (listM [wordM op, exW a, exW b])
        have hl := fun h : Heap => list_c (h := h) (p := .imm 6 (Sx.rows [wordM op, exW a, exW b])) rfl (fun _ => frz_imm (sxs_in _ _))
        generalize exW a = xa at ca hfz hl ⊢
        generalize exW b = xb at cb hfz hl ⊢
        clear ih hks hpo hse hsk hes
        obtain ⟨aop, aname, an, aargs, akids⟩ := a
        obtain ⟨bop, bname, bn, bargs, bkids⟩ := b
        obtain ⟨ki, va, li, co, te, ks⟩ := xa
        obtain ⟨ki2, va2, li2, co2, te2, ks2⟩ := xb
        simp only [Fm.cells, Ex.cells, Ex.rows, listM, Sx.cells, Sx.rows, wordM] at ca cb hw hfz hl ⊢
        refine pcall_body (ow := fun _ => false) (wf := fun _ => false) Ty.mixed Try.func65 rfl Ty.hb_65 (by rw [Try.ntmps65]; simp) ?_
        rw [Try.ntmps65, Try.results65]
        repeat' (first | (refine a_seq (fun K hK => ?_)) | ((first | refine a_regionS ?_ | refine a_drawS (by decide +kernel) ?_); simp (maxSteps := 2000000) only [Ty.w, simprocAttr, k1, k2, k3]) | (refine a_skip ?_; (try simp only [pst0, simprocAttr])) | (refine a_cond _ (by (try simp (maxSteps := 2000000) only [Ty.w, simprocAttr, k1, k2, k3]); rfl) (fun hb => ?_) (fun hb => ?_) <;> (try simp only [hb0, decide_eq_true_eq, decide_eq_false_iff_not, simprocAttr] at hb) <;> (try (exfalso; omega))) | (refine hK _ _ ?_; clear hK; (try simp only [pst0, simprocAttr])))
        (first | refine a_dcall0 (hw _) (by (try simp only [Ty.w, simprocAttr, ]); try rfl) ?_ | refine a_dcallA (hw _) (by (try simp only [Ty.w, simprocAttr, ]); try rfl) (by simp only [Ty.w, simprocAttr, ]; try trivial) ?_); simp (maxSteps := 2000000) only [Ty.w, simprocAttr, Option.getD_some, ]
        skip
        (first | refine a_dcall0 (ca _) (by (try simp only [Ty.w, simprocAttr, ]); try rfl) ?_ | refine a_dcallA (ca _) (by (try simp only [Ty.w, simprocAttr, ]); try rfl) (by simp only [Ty.w, simprocAttr, ]; try trivial) ?_); simp (maxSteps := 2000000) only [Ty.w, simprocAttr, Option.getD_some, ]
        skip
        (first | refine a_dcall0 (cb _) (by (try simp only [Ty.w, simprocAttr, ]); try rfl) ?_ | refine a_dcallA (cb _) (by (try simp only [Ty.w, simprocAttr, ]); try rfl) (by simp only [Ty.w, simprocAttr, ]; try trivial) ?_); simp (maxSteps := 2000000) only [Ty.w, simprocAttr, Option.getD_some, ]
        skip
        (first | refine a_dcall0 (hl _) (by (try simp only [Ty.w, simprocAttr, ]); try rfl) ?_ | refine a_dcallA (hl _) (by (try simp only [Ty.w, simprocAttr, ]); try rfl) (by simp only [Ty.w, simprocAttr, ]; try trivial) ?_); simp (maxSteps := 2000000) only [Ty.w, simprocAttr, Option.getD_some, ]
        repeat' (first | (refine a_ret ?_; simp (maxSteps := 2000000) only [Ty.w, simprocAttr]) | (refine hK _ _ ?_; clear hK; (try simp only [pst0, simprocAttr])) | (with_reducible refine a_past2 (by simp only [List.forall_mem_cons, Ty.w, simprocAttr]; (repeat' apply And.intro) <;> first | trivial | exact .inl (by decide +kernel)) ?_; try simp (maxSteps := 2000000) only [Ty.w, simprocAttr]))
        refine ⟨?_, ((Grow.refl h).new _).set (Nat.le_refl _) _⟩
        simp only [FrzTo]
        exact ⟨_, rfl, hfz _ _⟩
      | false =>
        cases k4 : (op.data.toList == (#[60, 61] : Array UInt8).toList) with
        | true =>
          rw [if_pos (by simp [isCmp, (show bEq op opAtom = false from k1), (show bEq op opSame = false from k2), (show bEq op opLt = false from k3), (show bEq op opLe = true from k4)])]
          have hx2 : exprs.length = 2 := by have q := hpo; simp [partsOk, shapeOf, (show bEq op opAtom = false from k1), (show bEq op opSame = false from k2), (show bEq op opLt = false from k3), (show bEq op opLe = true from k4)] at q; omega
          obtain ⟨a, b, rfl⟩ : ∃ a b, exprs = [a, b] := by
            match exprs, hx2 with
            | [a, b], _ => exact ⟨a, b, rfl⟩
          have ca := writeE_c a (hes a (by simp)) (hse a (by simp))
          have cb := writeE_c b (hes b (by simp)) (hse b (by simp))
          have hw := fun h : Heap => word_c (h := h) (s := op)
          simp only [List.map_cons, List.map_nil]
          have hfz := fun (n : Nat) (h : Heap) => sx_frz n h (listM [wordM op, exW a, exW b])
          have hl := fun h : Heap => list_c (h := h) (p := .imm 6 (Sx.rows [wordM op, exW a, exW b])) rfl (fun _ => frz_imm (sxs_in _ _))
          generalize exW a = xa at ca hfz hl ⊢
          generalize exW b = xb at cb hfz hl ⊢
          clear ih hks hpo hse hsk hes
          obtain ⟨aop, aname, an, aargs, akids⟩ := a
          obtain ⟨bop, bname, bn, bargs, bkids⟩ := b
          obtain ⟨ki, va, li, co, te, ks⟩ := xa
          obtain ⟨ki2, va2, li2, co2, te2, ks2⟩ := xb
          simp only [Fm.cells, Ex.cells, Ex.rows, listM, Sx.cells, Sx.rows, wordM] at ca cb hw hfz hl ⊢
          refine pcall_body (ow := fun _ => false) (wf := fun _ => false) Ty.mixed Try.func65 rfl Ty.hb_65 (by rw [Try.ntmps65]; simp) ?_
          rw [Try.ntmps65, Try.results65]
          repeat' (first | (refine a_seq (fun K hK => ?_)) | ((first | refine a_regionS ?_ | refine a_drawS (by decide +kernel) ?_); simp (maxSteps := 2000000) only [Ty.w, simprocAttr, k1, k2, k3, k4]) | (refine a_skip ?_; (try simp only [pst0, simprocAttr])) | (refine a_cond _ (by (try simp (maxSteps := 2000000) only [Ty.w, simprocAttr, k1, k2, k3, k4]); rfl) (fun hb => ?_) (fun hb => ?_) <;> (try simp only [hb0, decide_eq_true_eq, decide_eq_false_iff_not, simprocAttr] at hb) <;> (try (exfalso; omega))) | (refine hK _ _ ?_; clear hK; (try simp only [pst0, simprocAttr])))
          (first | refine a_dcall0 (hw _) (by (try simp only [Ty.w, simprocAttr, ]); try rfl) ?_ | refine a_dcallA (hw _) (by (try simp only [Ty.w, simprocAttr, ]); try rfl) (by simp only [Ty.w, simprocAttr, ]; try trivial) ?_); simp (maxSteps := 2000000) only [Ty.w, simprocAttr, Option.getD_some, ]
          skip
          (first | refine a_dcall0 (ca _) (by (try simp only [Ty.w, simprocAttr, ]); try rfl) ?_ | refine a_dcallA (ca _) (by (try simp only [Ty.w, simprocAttr, ]); try rfl) (by simp only [Ty.w, simprocAttr, ]; try trivial) ?_); simp (maxSteps := 2000000) only [Ty.w, simprocAttr, Option.getD_some, ]
          skip
          (first | refine a_dcall0 (cb _) (by (try simp only [Ty.w, simprocAttr, ]); try rfl) ?_ | refine a_dcallA (cb _) (by (try simp only [Ty.w, simprocAttr, ]); try rfl) (by simp only [Ty.w, simprocAttr, ]; try trivial) ?_); simp (maxSteps := 2000000) only [Ty.w, simprocAttr, Option.getD_some, ]
          skip
          (first | refine a_dcall0 (hl _) (by (try simp only [Ty.w, simprocAttr, ]); try rfl) ?_ | refine a_dcallA (hl _) (by (try simp only [Ty.w, simprocAttr, ]); try rfl) (by simp only [Ty.w, simprocAttr, ]; try trivial) ?_); simp (maxSteps := 2000000) only [Ty.w, simprocAttr, Option.getD_some, ]
          repeat' (first | (refine a_ret ?_; simp (maxSteps := 2000000) only [Ty.w, simprocAttr]) | (refine hK _ _ ?_; clear hK; (try simp only [pst0, simprocAttr])) | (with_reducible refine a_past2 (by simp only [List.forall_mem_cons, Ty.w, simprocAttr]; (repeat' apply And.intro) <;> first | trivial | exact .inl (by decide +kernel)) ?_; try simp (maxSteps := 2000000) only [Ty.w, simprocAttr]))
          refine ⟨?_, ((Grow.refl h).new _).set (Nat.le_refl _) _⟩
          simp only [FrzTo]
          exact ⟨_, rfl, hfz _ _⟩
        | false =>
          cases k5 : (op.data.toList == (#[61] : Array UInt8).toList) with
          | true =>
            rw [if_pos (by simp [isCmp, (show bEq op opAtom = false from k1), (show bEq op opSame = false from k2), (show bEq op opLt = false from k3), (show bEq op opLe = false from k4), (show bEq op opEq = true from k5)])]
            have hx2 : exprs.length = 2 := by have q := hpo; simp [partsOk, shapeOf, (show bEq op opAtom = false from k1), (show bEq op opSame = false from k2), (show bEq op opLt = false from k3), (show bEq op opLe = false from k4), (show bEq op opEq = true from k5)] at q; omega
            obtain ⟨a, b, rfl⟩ : ∃ a b, exprs = [a, b] := by
              match exprs, hx2 with
              | [a, b], _ => exact ⟨a, b, rfl⟩
            have ca := writeE_c a (hes a (by simp)) (hse a (by simp))
            have cb := writeE_c b (hes b (by simp)) (hse b (by simp))
            have hw := fun h : Heap => word_c (h := h) (s := op)
            simp only [List.map_cons, List.map_nil]
            have hfz := fun (n : Nat) (h : Heap) => sx_frz n h (listM [wordM op, exW a, exW b])
            have hl := fun h : Heap => list_c (h := h) (p := .imm 6 (Sx.rows [wordM op, exW a, exW b])) rfl (fun _ => frz_imm (sxs_in _ _))
            generalize exW a = xa at ca hfz hl ⊢
            generalize exW b = xb at cb hfz hl ⊢
            clear ih hks hpo hse hsk hes
            obtain ⟨aop, aname, an, aargs, akids⟩ := a
            obtain ⟨bop, bname, bn, bargs, bkids⟩ := b
            obtain ⟨ki, va, li, co, te, ks⟩ := xa
            obtain ⟨ki2, va2, li2, co2, te2, ks2⟩ := xb
            simp only [Fm.cells, Ex.cells, Ex.rows, listM, Sx.cells, Sx.rows, wordM] at ca cb hw hfz hl ⊢
            refine pcall_body (ow := fun _ => false) (wf := fun _ => false) Ty.mixed Try.func65 rfl Ty.hb_65 (by rw [Try.ntmps65]; simp) ?_
            rw [Try.ntmps65, Try.results65]
            repeat' (first | (refine a_seq (fun K hK => ?_)) | ((first | refine a_regionS ?_ | refine a_drawS (by decide +kernel) ?_); simp (maxSteps := 2000000) only [Ty.w, simprocAttr, k1, k2, k3, k4, k5]) | (refine a_cond _ (by (try simp (maxSteps := 2000000) only [Ty.w, simprocAttr, k1, k2, k3, k4, k5]); rfl) (fun hb => ?_) (fun hb => ?_) <;> (try simp only [hb0, decide_eq_true_eq, decide_eq_false_iff_not, simprocAttr] at hb) <;> (try (exfalso; omega))) | (refine hK _ _ ?_; clear hK; (try simp only [pst0, simprocAttr])))
            (first | refine a_dcall0 (hw _) (by (try simp only [Ty.w, simprocAttr, ]); try rfl) ?_ | refine a_dcallA (hw _) (by (try simp only [Ty.w, simprocAttr, ]); try rfl) (by simp only [Ty.w, simprocAttr, ]; try trivial) ?_); simp (maxSteps := 2000000) only [Ty.w, simprocAttr, Option.getD_some, ]
            skip
            (first | refine a_dcall0 (ca _) (by (try simp only [Ty.w, simprocAttr, ]); try rfl) ?_ | refine a_dcallA (ca _) (by (try simp only [Ty.w, simprocAttr, ]); try rfl) (by simp only [Ty.w, simprocAttr, ]; try trivial) ?_); simp (maxSteps := 2000000) only [Ty.w, simprocAttr, Option.getD_some, ]
            skip
            (first | refine a_dcall0 (cb _) (by (try simp only [Ty.w, simprocAttr, ]); try rfl) ?_ | refine a_dcallA (cb _) (by (try simp only [Ty.w, simprocAttr, ]); try rfl) (by simp only [Ty.w, simprocAttr, ]; try trivial) ?_); simp (maxSteps := 2000000) only [Ty.w, simprocAttr, Option.getD_some, ]
            skip
            (first | refine a_dcall0 (hl _) (by (try simp only [Ty.w, simprocAttr, ]); try rfl) ?_ | refine a_dcallA (hl _) (by (try simp only [Ty.w, simprocAttr, ]); try rfl) (by simp only [Ty.w, simprocAttr, ]; try trivial) ?_); simp (maxSteps := 2000000) only [Ty.w, simprocAttr, Option.getD_some, ]
            repeat' (first | (refine a_ret ?_; simp (maxSteps := 2000000) only [Ty.w, simprocAttr]) | (refine hK _ _ ?_; clear hK; (try simp only [pst0, simprocAttr])) | (with_reducible refine a_past2 (by simp only [List.forall_mem_cons, Ty.w, simprocAttr]; (repeat' apply And.intro) <;> first | trivial | exact .inl (by decide +kernel)) ?_; try simp (maxSteps := 2000000) only [Ty.w, simprocAttr]))
            refine ⟨?_, ((Grow.refl h).new _).set (Nat.le_refl _) _⟩
            simp only [FrzTo]
            exact ⟨_, rfl, hfz _ _⟩
          | false =>
            rw [if_neg (by simp [isCmp, (show bEq op opLt = false from k3), (show bEq op opLe = false from k4), (show bEq op opEq = false from k5)])]
            clear hse hes hpo
            simp only [Fm.cells]
            refine pcall_body (ow := fun _ => false) (wf := fun _ => false) Ty.mixed Try.func65 rfl Ty.hb_65 (by rw [Try.ntmps65]; simp) ?_
            rw [Try.ntmps65, Try.results65]
            repeat' (first | (refine a_seq (fun K hK => ?_)) | (refine a_block ?_) | (refine a_regionS ?_; simp (maxSteps := 2000000) only [Ty.w, simprocAttr, k1, k2, k3, k4, k5]) | (refine a_skip ?_; (try simp only [pst0, simprocAttr])) | (refine a_cond _ (by (try simp (maxSteps := 2000000) only [Ty.w, simprocAttr, k1, k2, k3, k4, k5]); rfl) (fun hb => ?_) (fun hb => ?_) <;> (try simp only [hb0, decide_eq_true_eq, decide_eq_false_iff_not, simprocAttr] at hb) <;> (try (exfalso; omega))) | (refine hK _ _ ?_; clear hK; (try simp only [pst0, simprocAttr])))
            refine owp_useQ (list_c (p := .sc (.slice none 0 0)) rfl (fun _ => by simp only [FrzTo])) (by (try simp only [Ty.w, simprocAttr, k1]); try rfl) ?_; simp (maxSteps := 2000000) only [Ty.w, simprocAttr, k1]
            repeat' (first | (with_reducible refine a_hold 11 ?_) | (refine hK _ _ ?_; clear hK; (try simp only [pst0, simprocAttr])))
            refine ⟨?_⟩
            refine a_heap (WrI h []) ?_ (fun H0 hI => ?_)
            · refine WrI.mk2 (p := .sc (.slice none 0 0)) ((((Grow.refl h).new _).new _).set (by omega) _) (by simp [Heap.new, Heap.set]) (by simp [Heap.new, Heap.set]) (by simp [Heap.new, Heap.set]) Tl.nil
            refine a_cut (fun S h' => S 1 = .cptr (Fm.mk op name args params exprs kids).cells ∧ S 2 = .ptr h.next 0 0 ∧ S 3 = .ptr (h.next + 1) 0 0 ∧ WrI h (if (bEq op opAnd && kids.isEmpty) = true then [] else [wordM op]) h') ?_ ?_
            · have n6 : bEq op opAnd = (op.data.toList == (#[97, 110, 100] : Array UInt8).toList) := rfl
              cases k6 : (op.data.toList == (#[97, 110, 100] : Array UInt8).toList) with
              | false =>
                rw [if_neg (by rw [n6, k6]; simp)]
                obtain ⟨hg, p, H, hn, o1, o2, tl, t1, t2, t3, t4, hgH, hpc, hp1⟩ := hI
                have hw : ∀ (s : ByteArray) (h : Heap), PCall Try.prog 111 [sPV s] h fun r h' => r = .agg (wordM s).cells ∧ h' = h := fun s h => word_c
                simp only [wordM, Sx.cells, Sx.rows] at hw
                have o2H : H.obj (h.next + 1) = _ := (t4 _ (by omega)).trans o2
                have n2 : (h.next + 1 = H.next) = False := by simp; omega
                have hpr : (Sx.rows ([] : List Sx)).length = 0 := rfl
                have hpush := fun X : Sx => WrI.push (L := []) (X := X) (m := 1) hn o1 t3 t4 hgH rfl
                generalize Sx.rows [] = R at t1 hpr hpush
                repeat' (first | (refine a_seq (fun K hK => ?_)) | ((first | refine a_regionS ?_ | refine a_drawS (by decide +kernel) ?_); simp (maxSteps := 2000000) only [Ty.w, simprocAttr, k6, Bool.not_false, o2, o2H, n2, t1, t2, hpr, hpc, hp1]) | (refine a_cond _ (by (try simp (maxSteps := 2000000) only [Ty.w, simprocAttr, k6, Bool.not_false, o2, o2H, n2, t1, t2, hpr, hpc, hp1]); rfl) (fun hb => ?_) (fun hb => ?_) <;> (try simp only [hb0, decide_eq_true_eq, decide_eq_false_iff_not, simprocAttr] at hb) <;> (try (exfalso; omega))) | (refine hK _ _ ?_; clear hK; (try simp only [pst0, simprocAttr])))
                (first | refine a_dcall0 (hw op _) (by (try simp only [Ty.w, simprocAttr, k6, Bool.not_false, o2, o2H]); try rfl) ?_ | refine a_dcallA (hw op _) (by (try simp only [Ty.w, simprocAttr, k6, Bool.not_false, o2, o2H]); try rfl) (by simp only [Ty.w, simprocAttr, k6, Bool.not_false, o2, o2H]; try trivial) ?_); simp (maxSteps := 2000000) only [Ty.w, simprocAttr, Option.getD_some, k6, Bool.not_false, o2, o2H]
                repeat' (first | (with_reducible refine a_past2 (by simp only [List.forall_mem_cons, Ty.w, simprocAttr, k6, Bool.not_false, o2, o2H, n2, t1, t2, hpr, hpc, hp1]; (repeat' apply And.intro) <;> first | trivial | exact .inl (by decide +kernel)) ?_; try simp (maxSteps := 2000000) only [Ty.w, simprocAttr, k6, Bool.not_false, o2, o2H, n2, t1, t2, hpr, hpc, hp1]) | (rw [if_pos]; rotate_left 1; omega; simp (maxSteps := 2000000) only [Ty.w, simprocAttr, k6, Bool.not_false, o2, o2H, n2, t1, t2, hpr, hpc, hp1]))
                (simp (maxSteps := 2000000) only [Ty.w, simprocAttr, Ty.all, Fm.cells])
                exact hpush (wordM op)
              | true =>
                cases q6 : decide ((kids.length : Int) > 0) with
                | false =>
                  have hk0 : kids.isEmpty = true := by cases kids with | nil => rfl | cons a l => simp at q6
                  rw [if_pos (by rw [n6, k6, hk0]; try rfl)]
                  repeat' (first | (refine a_seq (fun K hK => ?_)) | (refine a_regionS ?_; simp (maxSteps := 2000000) only [Ty.w, simprocAttr, k6, q6, hlK, Bool.not_true]) | (refine a_skip ?_; (try simp only [pst0, simprocAttr])) | (refine a_cond _ (by (try simp (maxSteps := 2000000) only [Ty.w, simprocAttr, k6, q6, hlK, Bool.not_true]); rfl) (fun hb => ?_) (fun hb => ?_) <;> (try simp only [hb0, decide_eq_true_eq, decide_eq_false_iff_not, simprocAttr] at hb) <;> (try (exfalso; omega))) | (refine hK _ _ ?_; clear hK; (try simp only [pst0, simprocAttr])))
                  (simp (maxSteps := 2000000) only [Ty.w, simprocAttr, Ty.all, Fm.cells])
                  exact hI
                | true =>
                  have hk0 : kids.isEmpty = false := by cases kids with | nil => simp at q6 | cons a l => rfl
                  rw [if_neg (by rw [hk0]; simp)]
                  obtain ⟨hg, p, H, hn, o1, o2, tl, t1, t2, t3, t4, hgH, hpc, hp1⟩ := hI
                  have hw : ∀ (s : ByteArray) (h : Heap), PCall Try.prog 111 [sPV s] h fun r h' => r = .agg (wordM s).cells ∧ h' = h := fun s h => word_c
                  simp only [wordM, Sx.cells, Sx.rows] at hw
                  have o2H : H.obj (h.next + 1) = _ := (t4 _ (by omega)).trans o2
                  have n2 : (h.next + 1 = H.next) = False := by simp; omega
                  have hpr : (Sx.rows ([] : List Sx)).length = 0 := rfl
                  have hpush := fun X : Sx => WrI.push (L := []) (X := X) (m := 1) hn o1 t3 t4 hgH rfl
                  generalize Sx.rows [] = R at t1 hpr hpush
                  repeat' (first | (refine a_seq (fun K hK => ?_)) | ((first | refine a_regionS ?_ | refine a_drawS (by decide +kernel) ?_); simp (maxSteps := 2000000) only [Ty.w, simprocAttr, k6, q6, hlK, Bool.not_true, o2, o2H, n2, t1, t2, hpr, hpc, hp1]) | (refine a_cond _ (by (try simp (maxSteps := 2000000) only [Ty.w, simprocAttr, k6, q6, hlK, Bool.not_true, o2, o2H, n2, t1, t2, hpr, hpc, hp1]); rfl) (fun hb => ?_) (fun hb => ?_) <;> (try simp only [hb0, decide_eq_true_eq, decide_eq_false_iff_not, simprocAttr] at hb) <;> (try (exfalso; omega))) | (refine hK _ _ ?_; clear hK; (try simp only [pst0, simprocAttr])))
                  (first | refine a_dcall0 (hw op _) (by (try simp only [Ty.w, simprocAttr, k6, q6, hlK, Bool.not_true, o2, o2H]); try rfl) ?_ | refine a_dcallA (hw op _) (by (try simp only [Ty.w, simprocAttr, k6, q6, hlK, Bool.not_true, o2, o2H]); try rfl) (by simp only [Ty.w, simprocAttr, k6, q6, hlK, Bool.not_true, o2, o2H]; try trivial) ?_); simp (maxSteps := 2000000) only [Ty.w, simprocAttr, Option.getD_some, k6, q6, hlK, Bool.not_true, o2, o2H]
                  repeat' (first | (with_reducible refine a_past2 (by simp only [List.forall_mem_cons, Ty.w, simprocAttr, k6, q6, hlK, Bool.not_true, o2, o2H, n2, t1, t2, hpr, hpc, hp1]; (repeat' apply And.intro) <;> first | trivial | exact .inl (by decide +kernel)) ?_; try simp (maxSteps := 2000000) only [Ty.w, simprocAttr, k6, q6, hlK, Bool.not_true, o2, o2H, n2, t1, t2, hpr, hpc, hp1]) | (rw [if_pos]; rotate_left 1; omega; simp (maxSteps := 2000000) only [Ty.w, simprocAttr, k6, q6, hlK, Bool.not_true, o2, o2H, n2, t1, t2, hpr, hpc, hp1]))
                  (simp (maxSteps := 2000000) only [Ty.w, simprocAttr, Ty.all, Fm.cells])
                  exact hpush (wordM op)
            · clear hI
              obtain ⟨L0, hL0, hl0⟩ : ∃ L0 : List Sx, (if (bEq op opAnd && kids.isEmpty) = true then [] else [wordM op]) = L0 ∧ L0.length ≤ 1 := ⟨_, rfl, by split <;> simp⟩
              rw [hL0]
              rintro S h' ⟨g1, g2, g3, hI⟩
              simp only [Fm.cells] at g1
              repeat' (with_reducible refine a_hold 13 ?_)
              refine ⟨?_⟩
              refine a_cut (fun S h' => S 1 = .cptr (Fm.mk op name args params exprs kids).cells ∧ S 2 = .ptr h.next 0 0 ∧ S 3 = .ptr (h.next + 1) 0 0 ∧ WrI h (L0 ++ (if isQ op = true then [listM (paramsW params)] else [])) h') ?_ ?_
              · have n7 : bEq op opAll = (op.data.toList == (#[102, 111, 114, 97, 108, 108] : Array UInt8).toList) := rfl
                have n8 : bEq op opSome = (op.data.toList == (#[101, 120, 105, 115, 116, 115] : Array UInt8).toList) := rfl
                cases k7 : (op.data.toList == (#[102, 111, 114, 97, 108, 108] : Array UInt8).toList) with
                | true =>
                  rw [if_pos (by simp [isQ, n7, n8, k7])]
                  obtain ⟨hg, p, H, hn, o1, o2, tl, t1, t2, t3, t4, hgH, hpc, hp1⟩ := hI
                  have hwp := writeParams_c (l := params) hpl
                  have hli : ∀ h : Heap, PCall Try.prog 110 [.imm 6 (Sx.rows (paramsW params))] h fun r h' => r = .agg (listM (paramsW params)).cells ∧ h' = h := fun h => list_c rfl (fun _ => frz_imm (sxs_in _ _))
                  generalize hX : listM (paramsW params) = X at hli ⊢
                  clear hX
                  generalize Sx.rows (paramsW params) = PR at hwp hli
                  have o2H : H.obj (h.next + 1) = _ := (t4 _ (by omega)).trans o2
                  have n2 : (h.next + 1 = H.next) = False := by simp; omega
                  have hpr := Sx.rows_len L0
                  have hpush := WrI.push (L := L0) (X := X) (m := L0.length + 1) hn o1 t3 t4 hgH rfl
                  generalize Sx.rows L0 = R at t1 hpr hpush
                  have hb : (L0.length + 1) * 72 ≤ 140737488355328 := by omega
                  obtain ⟨ki, va, li, co, te, ks⟩ := X
                  simp only [Sx.cells] at hli hpush
                  repeat' (first | (refine a_seq (fun K hK => ?_)) | ((first | refine a_regionS ?_ | refine a_drawS (by decide +kernel) ?_); simp (maxSteps := 2000000) only [Ty.w, simprocAttr, g1, g2, g3, k7, o2, o2H, n2, t1, t2, hpr, hpc, hp1, hb]) | (refine a_cond _ (by (try simp (maxSteps := 2000000) only [Ty.w, simprocAttr, g1, g2, g3, k7, o2, o2H, n2, t1, t2, hpr, hpc, hp1, hb]); rfl) (fun hb => ?_) (fun hb => ?_) <;> (try simp only [hb0, decide_eq_true_eq, decide_eq_false_iff_not, simprocAttr] at hb) <;> (try (exfalso; omega))) | (refine hK _ _ ?_; clear hK; (try simp only [pst0, simprocAttr])))
                  (first | refine a_dcall0 (hwp _) (by (try simp only [Ty.w, simprocAttr, g1, g2, g3, k7, o2, o2H]); try rfl) ?_ | refine a_dcallA (hwp _) (by (try simp only [Ty.w, simprocAttr, g1, g2, g3, k7, o2, o2H]); try rfl) (by simp only [Ty.w, simprocAttr, g1, g2, g3, k7, o2, o2H]; try trivial) ?_); simp (maxSteps := 2000000) only [Ty.w, simprocAttr, Option.getD_some, g1, g2, g3, k7, o2, o2H]
                  skip
                  (first | refine a_dcall0 (hli _) (by (try simp only [Ty.w, simprocAttr, g1, g2, g3, k7, o2, o2H]); try rfl) ?_ | refine a_dcallA (hli _) (by (try simp only [Ty.w, simprocAttr, g1, g2, g3, k7, o2, o2H]); try rfl) (by simp only [Ty.w, simprocAttr, g1, g2, g3, k7, o2, o2H]; try trivial) ?_); simp (maxSteps := 2000000) only [Ty.w, simprocAttr, Option.getD_some, g1, g2, g3, k7, o2, o2H]
                  repeat' (first | (with_reducible refine a_past2 (by simp only [List.forall_mem_cons, Ty.w, simprocAttr, g1, g2, g3, k7, o2, o2H, n2, t1, t2, hpr, hpc, hp1, hb]; (repeat' apply And.intro) <;> first | trivial | exact .inl (by decide +kernel)) ?_; try simp (maxSteps := 2000000) only [Ty.w, simprocAttr, g1, g2, g3, k7, o2, o2H, n2, t1, t2, hpr, hpc, hp1, hb]) | (rw [if_pos]; rotate_left 1; omega; simp (maxSteps := 2000000) only [Ty.w, simprocAttr, g1, g2, g3, k7, o2, o2H, n2, t1, t2, hpr, hpc, hp1, hb]))
                  (simp (maxSteps := 2000000) only [Ty.w, simprocAttr, Ty.all, g1, g2, g3, Fm.cells])
                  exact hpush
                | false =>
                  cases k8 : (op.data.toList == (#[101, 120, 105, 115, 116, 115] : Array UInt8).toList) with
                  | true =>
                    rw [if_pos (by simp [isQ, n7, n8, k8])]
                    obtain ⟨hg, p, H, hn, o1, o2, tl, t1, t2, t3, t4, hgH, hpc, hp1⟩ := hI
                    have hwp := writeParams_c (l := params) hpl
                    have hli : ∀ h : Heap, PCall Try.prog 110 [.imm 6 (Sx.rows (paramsW params))] h fun r h' => r = .agg (listM (paramsW params)).cells ∧ h' = h := fun h => list_c rfl (fun _ => frz_imm (sxs_in _ _))
                    generalize hX : listM (paramsW params) = X at hli ⊢
                    clear hX
                    generalize Sx.rows (paramsW params) = PR at hwp hli
                    have o2H : H.obj (h.next + 1) = _ := (t4 _ (by omega)).trans o2
                    have n2 : (h.next + 1 = H.next) = False := by simp; omega
                    have hpr := Sx.rows_len L0
                    have hpush := WrI.push (L := L0) (X := X) (m := L0.length + 1) hn o1 t3 t4 hgH rfl
                    generalize Sx.rows L0 = R at t1 hpr hpush
                    have hb : (L0.length + 1) * 72 ≤ 140737488355328 := by omega
                    obtain ⟨ki, va, li, co, te, ks⟩ := X
                    simp only [Sx.cells] at hli hpush
                    repeat' (first | (refine a_seq (fun K hK => ?_)) | ((first | refine a_regionS ?_ | refine a_drawS (by decide +kernel) ?_); simp (maxSteps := 2000000) only [Ty.w, simprocAttr, g1, g2, g3, k7, k8, o2, o2H, n2, t1, t2, hpr, hpc, hp1, hb]) | (refine a_cond _ (by (try simp (maxSteps := 2000000) only [Ty.w, simprocAttr, g1, g2, g3, k7, k8, o2, o2H, n2, t1, t2, hpr, hpc, hp1, hb]); rfl) (fun hb => ?_) (fun hb => ?_) <;> (try simp only [hb0, decide_eq_true_eq, decide_eq_false_iff_not, simprocAttr] at hb) <;> (try (exfalso; omega))) | (refine hK _ _ ?_; clear hK; (try simp only [pst0, simprocAttr])))
                    (first | refine a_dcall0 (hwp _) (by (try simp only [Ty.w, simprocAttr, g1, g2, g3, k7, k8, o2, o2H]); try rfl) ?_ | refine a_dcallA (hwp _) (by (try simp only [Ty.w, simprocAttr, g1, g2, g3, k7, k8, o2, o2H]); try rfl) (by simp only [Ty.w, simprocAttr, g1, g2, g3, k7, k8, o2, o2H]; try trivial) ?_); simp (maxSteps := 2000000) only [Ty.w, simprocAttr, Option.getD_some, g1, g2, g3, k7, k8, o2, o2H]
                    skip
                    (first | refine a_dcall0 (hli _) (by (try simp only [Ty.w, simprocAttr, g1, g2, g3, k7, k8, o2, o2H]); try rfl) ?_ | refine a_dcallA (hli _) (by (try simp only [Ty.w, simprocAttr, g1, g2, g3, k7, k8, o2, o2H]); try rfl) (by simp only [Ty.w, simprocAttr, g1, g2, g3, k7, k8, o2, o2H]; try trivial) ?_); simp (maxSteps := 2000000) only [Ty.w, simprocAttr, Option.getD_some, g1, g2, g3, k7, k8, o2, o2H]
                    repeat' (first | (with_reducible refine a_past2 (by simp only [List.forall_mem_cons, Ty.w, simprocAttr, g1, g2, g3, k7, k8, o2, o2H, n2, t1, t2, hpr, hpc, hp1, hb]; (repeat' apply And.intro) <;> first | trivial | exact .inl (by decide +kernel)) ?_; try simp (maxSteps := 2000000) only [Ty.w, simprocAttr, g1, g2, g3, k7, k8, o2, o2H, n2, t1, t2, hpr, hpc, hp1, hb]) | (rw [if_pos]; rotate_left 1; omega; simp (maxSteps := 2000000) only [Ty.w, simprocAttr, g1, g2, g3, k7, k8, o2, o2H, n2, t1, t2, hpr, hpc, hp1, hb]))
                    (simp (maxSteps := 2000000) only [Ty.w, simprocAttr, Ty.all, g1, g2, g3, Fm.cells])
                    exact hpush
                  | false =>
                    rw [if_neg (by simp [isQ, n7, n8, k7, k8]), List.append_nil]
                    repeat' (first | (refine a_seq (fun K hK => ?_)) | (refine a_regionS ?_; simp (maxSteps := 2000000) only [Ty.w, simprocAttr, g1, g2, g3, k7, k8]) | (refine a_skip ?_; (try simp only [pst0, simprocAttr])) | (refine a_cond _ (by (try simp (maxSteps := 2000000) only [Ty.w, simprocAttr, g1, g2, g3, k7, k8]); rfl) (fun hb => ?_) (fun hb => ?_) <;> (try simp only [hb0, decide_eq_true_eq, decide_eq_false_iff_not, simprocAttr] at hb) <;> (try (exfalso; omega))) | (refine hK _ _ ?_; clear hK; (try simp only [pst0, simprocAttr])))
                    (simp (maxSteps := 2000000) only [Ty.w, simprocAttr, Ty.all, g1, g2, g3, Fm.cells])
                    exact hI
              · clear hI g1 g2 g3
                obtain ⟨L1, hL1, hl1⟩ : ∃ L1 : List Sx, L0 ++ (if isQ op = true then [listM (paramsW params)] else []) = L1 ∧ L1.length ≤ 2 := ⟨_, rfl, by split <;> simp <;> omega⟩
                rw [hL1]
                rw [fmWs_map]
                clear hL1 hL0 hl0
                rintro S h' ⟨g1, g2, g3, hI⟩
                simp only [Fm.cells] at g1
                have hrl : ∀ k, (L1 ++ (kids.take k).map fmW).length ≤ 1048578 := fun k => by simp; omega
                repeat' (first | (refine a_seq (fun K hK => ?_)) | (refine a_block ?_) | (refine a_regionS ?_; simp (maxSteps := 2000000) only [Ty.w, simprocAttr, g1, g2, g3, hlK]) | (refine hK _ _ ?_; clear hK; (try simp only [pst0, simprocAttr])))
                refine a_loop (fun c S h' => S 2 = .ptr h.next 0 0 ∧ S 3 = .ptr (h.next + 1) 0 0 ∧ S 75 = .imm 6 (Fm.rows kids) ∧ S 76 = .sc (.int .i64 kids.length) ∧ ∃ k : Nat, S 77 = .sc (.int .i64 k) ∧ k ≤ kids.length ∧ c = kids.length - k ∧ WrI h (L1 ++ (kids.take k).map fmW) h') kids.length ?_ ?_
                · simp only [Ty.w, simprocAttr, g2, g3]
                  refine ⟨0, rfl, by omega, rfl, ?_⟩
                  simpa using hI
                · clear hI g1 g2 g3
                  rintro c S h' ⟨g2, g3, g75, g76, k, g77, hk, rfl, hI⟩
                  by_cases hlt : k < kids.length
                  · have hdk : decide ((k : Int) < (kids.length : Int)) = true := by simp; omega
                    have w7 : IntKind.i64.wrap ((k : Int) + 1) = k + 1 := by rw [wrap64 (by omega) (by omega)]
                    obtain ⟨x, hx⟩ : ∃ x, kids[k]? = some x := ⟨_, List.getElem?_eq_getElem hlt⟩
                    have hmem := List.mem_of_getElem? hx
                    have hr := Fm.rows_get hx
                    have hcx := ih x hmem (hks x hmem) (hsk x hmem)
                    have hL : L1 ++ (kids.take (k + 1)).map fmW = L1 ++ (kids.take k).map fmW ++ [fmW x] := by rw [List.take_add_one, hx]; simp
                    have hrk := hrl k
                    generalize L1 ++ (kids.take k).map fmW = L2 at hI hrk hL
                    obtain ⟨hg, p, H, hn, o1, o2, tl, t1, t2, t3, t4, hgH, hpc, hp1⟩ := hI
                    generalize fmW x = X at hcx hL
                    obtain ⟨xo, xn, xa, xp, xe, xk⟩ := x
                    obtain ⟨ki, va, li, co, te, ks⟩ := X
                    simp only [Fm.cells, Sx.cells] at hr hcx
                    clear t1 t2 t3 t4 hgH H
                    have hG2 : Grow h ((h'.new (.arr 6 [[.sc (.string ⟨#[]⟩), .sc (.string ⟨#[]⟩), .sc (.slice none 0 0), .sc (.slice none 0 0), .sc (.slice none 0 0), .sc (.slice none 0 0)]])).set h'.next (.arr 6 [[sPV xo, sPV xn, .imm 1 (strRows xa), .imm 2 (pmRows xp), .imm 5 (Ex.rows xe), .imm 6 (Fm.rows xk)]])) := (hg.new _).set hg.le _
                    have m1 : ¬ h.next = h'.next := by omega
                    have m2 : ¬ h.next + 1 = h'.next := by omega
                    have m2' : (h.next + 1 = h'.next) = False := eq_false m2
                    have tl2 := tl.up (h' := ((h'.new (.arr 6 [[.sc (.string ⟨#[]⟩), .sc (.string ⟨#[]⟩), .sc (.slice none 0 0), .sc (.slice none 0 0), .sc (.slice none 0 0), .sc (.slice none 0 0)]])).set h'.next (.arr 6 [[sPV xo, sPV xn, .imm 1 (strRows xa), .imm 2 (pmRows xp), .imm 5 (Ex.rows xe), .imm 6 (Fm.rows xk)]]))) (by simp [Heap.set, Heap.new]) fun j _ hj => by simp only [Heap.set, Heap.new]; rw [if_neg (by omega), if_neg (by omega)]
                    obtain ⟨H, t1, t2, t3, t4, t5⟩ := tl2.tail
                    have hgH := t5 h ⟨hG2.le, hG2.old⟩ (by omega)
                    have o1x : ((h'.new (.arr 6 [[.sc (.string ⟨#[]⟩), .sc (.string ⟨#[]⟩), .sc (.slice none 0 0), .sc (.slice none 0 0), .sc (.slice none 0 0), .sc (.slice none 0 0)]])).set h'.next (.arr 6 [[sPV xo, sPV xn, .imm 1 (strRows xa), .imm 2 (pmRows xp), .imm 5 (Ex.rows xe), .imm 6 (Fm.rows xk)]])).obj h.next = some (.arr 6 [[.sc (.int .i64 0), .sc (.int .i64 0), .sc (.int .i64 0), .sc (.int .i64 0), .sc (.string ⟨#[]⟩), .sc (.slice none 0 0)]]) := by simp only [Heap.set, Heap.new, m1, if_false]; exact o1
                    have o2H : H.obj (h.next + 1) = _ := (t4 _ (by omega)).trans (show ((h'.new (.arr 6 [[.sc (.string ⟨#[]⟩), .sc (.string ⟨#[]⟩), .sc (.slice none 0 0), .sc (.slice none 0 0), .sc (.slice none 0 0), .sc (.slice none 0 0)]])).set h'.next (.arr 6 [[sPV xo, sPV xn, .imm 1 (strRows xa), .imm 2 (pmRows xp), .imm 5 (Ex.rows xe), .imm 6 (Fm.rows xk)]])).obj (h.next + 1) = _ by simp only [Heap.set, Heap.new, m2, if_false]; exact o2)
                    have t3' : H.next = h'.next + 1 := by rw [t3]; simp [Heap.new, Heap.set]
                    have n2 : (h.next + 1 = H.next) = False := by simp; omega
                    have hpr := Sx.rows_len L2
                    have hpush := WrI.push (h' := ((h'.new (.arr 6 [[.sc (.string ⟨#[]⟩), .sc (.string ⟨#[]⟩), .sc (.slice none 0 0), .sc (.slice none 0 0), .sc (.slice none 0 0), .sc (.slice none 0 0)]])).set h'.next (.arr 6 [[sPV xo, sPV xn, .imm 1 (strRows xa), .imm 2 (pmRows xp), .imm 5 (Ex.rows xe), .imm 6 (Fm.rows xk)]]))) (L := L2) (X := .mk ki va li co te ks) (m := L2.length + 1) (by simp only [Heap.set, Heap.new]; omega) o1x t3 t4 ⟨hgH.1, hgH.2⟩ rfl
                    have hb : (L2.length + 1) * 72 ≤ 140737488355328 := by omega
                    simp only [Sx.cells] at hpush
                    clear tl tl2 t5
                    generalize Sx.rows L2 = R at t1 hpr hpush
                    repeat' (first | (refine a_seq (fun K hK => ?_)) | ((first | refine a_regionS ?_ | refine a_draw (by decide +kernel) (fun K hK => ?_)); simp (maxSteps := 2000000) only [Ty.w, simprocAttr, g2, g3, g75, g76, g77, hdk, hr, m2', o2, o2H, n2, t1, t2, hpr, hpc, hp1, hb]) | (refine a_skip ?_; (try simp only [pst0, simprocAttr])) | (refine a_cond _ (by (try simp (maxSteps := 2000000) only [Ty.w, simprocAttr, g2, g3, g75, g76, g77, hdk, hr, m2', o2, o2H, n2, t1, t2, hpr, hpc, hp1, hb]); rfl) (fun hb => ?_) (fun hb => ?_) <;> (try simp only [hb0, decide_eq_true_eq, decide_eq_false_iff_not, simprocAttr] at hb) <;> (try (exfalso; omega))) | (refine hK _ _ ?_; clear hK; (try simp only [pst0, simprocAttr])))
                    (first | refine a_dcall0 (hcx _) (by (try simp only [Ty.w, simprocAttr, g2, g3, g75, g76, g77, m2', o2, o2H]); try rfl) ?_ | refine a_dcallA (hcx _) (by (try simp only [Ty.w, simprocAttr, g2, g3, g75, g76, g77, m2', o2, o2H]); try rfl) (by simp only [Ty.w, simprocAttr, g2, g3, g75, g76, g77, m2', o2, o2H]; try trivial) ?_); simp (maxSteps := 2000000) only [Ty.w, simprocAttr, Option.getD_some, g2, g3, g75, g76, g77, m2', o2, o2H]
                    repeat' (first | (refine a_regionS ?_; simp (maxSteps := 2000000) only [Ty.w, simprocAttr, g2, g3, g75, g76, g77, w7, m2', o2, o2H, n2, t1, t2, hpr, hpc, hp1, hb]) | (refine hK _ _ ?_; clear hK; (try simp only [pst0, simprocAttr])) | (with_reducible refine a_past2 (by simp only [List.forall_mem_cons, Ty.w, simprocAttr, g2, g3, g75, g76, g77, w7, m2', o2, o2H, n2, t1, t2, hpr, hpc, hp1, hb]; (repeat' apply And.intro) <;> first | trivial | exact .inl (by decide +kernel)) ?_; try simp (maxSteps := 2000000) only [Ty.w, simprocAttr, g2, g3, g75, g76, g77, w7, m2', o2, o2H, n2, t1, t2, hpr, hpc, hp1, hb]) | (rw [if_pos]; rotate_left 1; omega; simp (maxSteps := 2000000) only [Ty.w, simprocAttr, g2, g3, g75, g76, g77, w7, m2', o2, o2H, n2, t1, t2, hpr, hpc, hp1, hb]))
                    exact ⟨kids.length - (k + 1), by omega, k + 1, by simp, by omega, rfl, by rw [hL]; exact hpush⟩
                  · have hdk : decide ((k : Int) < (kids.length : Int)) = false := by simp; omega
                    have hke : k = kids.length := by omega
                    subst hke
                    rw [List.take_length] at hI
                    obtain ⟨hg, p, H, hn, o1, o2, tl, t1, t2, t3, t4, hgH, hpc, hp1⟩ := hI
                    repeat' (first | (refine a_seq (fun K hK => ?_)) | ((first | refine a_regionS ?_ | refine a_ret ?_); simp (maxSteps := 2000000) only [Ty.w, simprocAttr, g2, g3, g75, g76, g77, hdk, o1, o2, hpc]) | (refine a_exit ?_; (try simp only [pst0, simprocAttr])) | (refine a_cond _ (by (try simp (maxSteps := 2000000) only [Ty.w, simprocAttr, g2, g3, g75, g76, g77, hdk, o1, o2, hpc]); rfl) (fun hb => ?_) (fun hb => ?_) <;> (try simp only [hb0, decide_eq_true_eq, decide_eq_false_iff_not, simprocAttr] at hb) <;> (try (exfalso; omega))) | ((first | refine hK _ _ ?_ | (clear hK; refine hK _ _ ?_)); clear hK; (try simp only [pst0, simprocAttr])) | (rw [if_pos]; rotate_left 1; omega; simp (maxSteps := 2000000) only [Ty.w, simprocAttr, g2, g3, g75, g76, g77, hdk, o1, o2, hpc]))
                    refine ⟨?_, hg.set (Nat.le_refl _) _⟩
                    have tl2 : Tl (h'.set h.next (.arr 6 [[.sc (.int .i64 3), .sc (.int .i64 0), .sc (.int .i64 0), .sc (.int .i64 0), .sc (.string ⟨#[]⟩), p]])) (h.next + 2) 6 p (Sx.rows (L1 ++ kids.map fmW)) := tl.up (Nat.le_refl _) fun j hj _ => by simp only [Heap.set]; rw [if_neg (by omega)]
                    simp only [listM, Sx.cells, FrzTo, FrzL]
                    exact ⟨_, rfl, rfl, rfl, rfl, rfl, rfl, by have := tl_frzX (Tl.low tl2 (show h.next ≤ h.next + 2 by omega)); simpa only [FrzTo] using this, trivial⟩
theorem paramsW_ok : ∀ l : List Pm, (∀ p ∈ l, p.ok) → Sx.oks (paramsW l)
  | [], _ => by simp [paramsW, Sx.oks]
  | p :: l, h => by
    have hp := h p (by simp)
    simp only [paramsW, Sx.oks]
    exact ⟨wordM_ok hp.1, wordM_ok (by simp [bigN, ByteArray.size]), wordM_ok hp.2, paramsW_ok l fun q hq => h q (by simp [hq])⟩
theorem parts_cmp {op name : ByteArray} {args : List ByteArray} {params : List Pm} {ne nk : Nat} (h1 : ¬ bEq op opAtom = true) (h2 : ¬ bEq op opSame = true) (h3 : isCmp op = true) (hp : partsOk op name args params ne nk = true) : ne = 2 := by
  unfold partsOk shapeOf at hp
  rw [if_neg h1, if_neg h2] at hp
  simp only [isCmp, Bool.or_eq_true] at h3
  by_cases k1 : bEq op opLt = true
  · simp [k1] at hp; omega
  by_cases k2 : bEq op opLe = true
  · simp [k1, k2] at hp; omega
  have k3 : bEq op opEq = true := by rcases h3 with (h3 | h3) | h3 <;> simp_all
  simp [k1, k2, k3] at hp; omega
theorem fmW_ok : ∀ f : Fm, f.ok → f.small → shapedF f = true → (fmW f).ok := by
  refine Fm.ind ?_
  intro op name args params exprs kids ih hok hsm hsh
  simp only [Fm.ok] at hok
  simp only [Fm.small] at hsm
  simp only [shapedF, Bool.and_eq_true] at hsh
  obtain ⟨⟨hpo, _⟩, hsh⟩ := hsh
  rw [shapedFs_iff] at hsh
  obtain ⟨hop, hname, hargs, ⟨_, hps⟩, ⟨_, hes⟩, _, hks⟩ := hok
  obtain ⟨hal, hpl, hse, hkl, hsk⟩ := hsm
  rw [Fm.oks_iff] at hks
  rw [Ex.oks_iff] at hes
  have hse := Ex.smalls_iff.1 hse
  have hsk := Fm.smalls_iff.1 hsk
  unfold fmW
  split
  · exact wordsM_ok hname hal hargs.2
  split
  · exact wordsM_ok (by simp [opEq, bigN, ByteArray.size]) hal hargs.2
  split
  · rename_i c1 c2 c3
    have h2 := parts_cmp c1 c2 c3 hpo
    refine listM_ok (by simp only [List.length_cons, List.length_map]; unfold bigN; omega) (Sx.oks_iff.2 ?_)
    intro k hk
    simp only [List.mem_cons, List.mem_map] at hk
    rcases hk with rfl | ⟨e, he, rfl⟩
    · exact wordM_ok hop
    · exact exW_ok e (hes e he) (hse e he)
  · rw [fmWs_map]
    refine listM_ok ?_ (Sx.oks_iff.2 ?_)
    · simp only [List.length_append, List.length_map]
      have a1 : (if (bEq op opAnd && kids.isEmpty) = true then [] else [wordM op]).length ≤ 1 := by split <;> simp
      have a2 : (if isQ op = true then [listM (paramsW params)] else []).length ≤ 1 := by split <;> simp
      unfold bigN; omega
    · intro k hk
      simp only [List.mem_append, List.mem_map] at hk
      rcases hk with (hk | hk) | ⟨e, he, rfl⟩
      · split at hk
        · simp at hk
        · simp only [List.mem_singleton] at hk; subst hk; exact wordM_ok hop
      · split at hk
        · simp only [List.mem_singleton] at hk; subst hk
          exact listM_ok (by rw [paramsW_len]; unfold bigN; omega) (paramsW_ok _ hps)
        · simp at hk
      · exact ih e he (hks e he) (hsk e he) (hsh e he)
theorem formedMs_shaped : ∀ (l : List Ex) (d n : Nat), (formedMs l d n).1 = true → ∀ e ∈ l, shapedE e = true
  | [], _, _, _ => by simp
  | e :: l, d, n, h => by
    unfold formedMs at h
    have h1 := formedM_shaped e d n
    split at h
    · rename_i c he
      rw [he] at h1
      intro x hx
      rcases List.mem_cons.1 hx with rfl | hx
      · exact h1 rfl
      · exact formedMs_shaped l d c h x hx
    · simp at h
mutual
theorem shapedM_F : ∀ (f : Fm) (d n : Nat), (shapedM f d n).1 = true → shapedF f = true
  | .mk op name args params exprs kids, d, n, h => by
    unfold shapedM at h
    split at h
    · split at h
      · rename_i hp
        have h1 := formedMs_shaped exprs (d + 1) (n + 1)
        split at h
        · rename_i c he
          rw [he] at h1
          simp only [shapedF, Bool.and_eq_true, List.all_eq_true]
          exact ⟨⟨hp, h1 rfl⟩, shapedMs_F kids (d + 1) c h⟩
        · simp at h
      · simp at h
    · simp at h
theorem shapedMs_F : ∀ (l : List Fm) (d n : Nat), (shapedMs l d n).1 = true → shapedFs l = true
  | [], _, _, _ => by simp [shapedFs]
  | k :: l, d, n, h => by
    unfold shapedMs at h
    have h1 := shapedM_F k d n
    split at h
    · rename_i c he
      rw [he] at h1
      simp only [shapedFs, Bool.and_eq_true]
      exact ⟨h1 rfl, shapedMs_F l d c h⟩
    · simp at h
end
theorem fvalid_c {f : Fm} (hok : f.ok) (hsm : f.small) (h : Heap) : PCall Try.prog 26 [.agg f.cells] h fun r h' => r = .sc (.bool (validF f)) ∧ h' = h := by
  have hf := shaped_c f hok 0 0 (by omega) (by omega) h.next (h.new (.arr 1 [[.sc (.int .i64 0)]])) (by simp [Heap.new, cntO])
  have hsh := shapedM_F f 0 0
  have hx := fmW_ok f hok hsm
  have hw0 := write_c f hsm
  have hv : validF f = ((shapedM f 0 0).1 && (svalid (fmW f) 0 0).1) := rfl
  rw [hv]
  refine PCall.quiet Ty.hb_26 ?_
  generalize shapedM f 0 0 = V at hf hsh ⊢
  obtain ⟨b, c⟩ := V
  cases b with
  | false =>
    obtain ⟨op, name, args, params, exprs, kids⟩ := f
    simp only [Fm.cells, Int.natCast_zero] at hf ⊢
    refine pcall_body (ow := fun t => t == 5) (wf := fun _ => false) Ty.mixed Try.func26 rfl Ty.hb_26 (by rw [Try.ntmps26]; simp) ?_
    rw [Try.ntmps26, Try.results26]
    repeat' (first | (refine a_seq (fun K hK => ?_)) | (refine a_regionS ?_; simp (maxSteps := 2000000) only [Ty.w, simprocAttr]) | (refine hK _ _ ?_; clear hK; (try simp only [pst0, simprocAttr])))
    refine owp_useH (hf) (by (try simp only [Ty.w, simprocAttr, ]); try rfl) ?_; simp (maxSteps := 2000000) only [Ty.w, simprocAttr, ]
    repeat' (first | (refine a_ret ?_; simp (maxSteps := 2000000) only [Ty.w, simprocAttr]) | (refine hK _ _ ?_; clear hK; (try simp only [pst0, simprocAttr])))
    exact ((Grow.refl h).new _).set (Nat.le_refl _) _
  | true =>
    have hw := hw0 (hsh rfl)
    have hvv := svalid_c (hx (hsh rfl))
    clear hw0
    generalize fmW f = X at hw hvv ⊢
    obtain ⟨op, name, args, params, exprs, kids⟩ := f
    obtain ⟨ki, va, li, co, te, ks⟩ := X
    simp only [Fm.cells, Sx.cells, Int.natCast_zero] at hf hw hvv ⊢
    refine pcall_body (ow := fun t => t == 5) (wf := fun _ => false) Ty.mixed Try.func26 rfl Ty.hb_26 (by rw [Try.ntmps26]; simp) ?_
    rw [Try.ntmps26, Try.results26]
    repeat' (first | (refine a_seq (fun K hK => ?_)) | (refine a_regionS ?_; simp (maxSteps := 2000000) only [Ty.w, simprocAttr]) | (refine hK _ _ ?_; clear hK; (try simp only [pst0, simprocAttr])))
    refine owp_useH (hf) (by (try simp only [Ty.w, simprocAttr, ]); try rfl) ?_; simp (maxSteps := 2000000) only [Ty.w, simprocAttr, ]
    skip
    refine owp_useQ (hw _) (by (try simp only [Ty.w, simprocAttr, ]); try rfl) ?_; simp (maxSteps := 2000000) only [Ty.w, simprocAttr, ]
    skip
    refine owp_useQ (hvv _) (by (try simp only [Ty.w, simprocAttr, ]); try rfl) ?_; simp (maxSteps := 2000000) only [Ty.w, simprocAttr, ]
    repeat' (first | (refine a_ret ?_; simp (maxSteps := 2000000) only [Ty.w, simprocAttr]) | (refine hK _ _ ?_; clear hK; (try simp only [pst0, simprocAttr])))
    exact ((Grow.refl h).new _).set (Nat.le_refl _) _
theorem fWrite_c {f : Fm} (hok : f.ok) (hsm : f.small) (h : Heap) : PCall Try.prog 28 [.agg f.cells] h fun r h' => r = (if validF f then .tup [.agg (fmW f).cells, .sc .nilIface] else .tup [.agg zeroSx.cells, errV 2]) ∧ h' = h := by
  have hv := fvalid_c hok hsm
  refine PCall.frz Ty.hb_28 ?_
  cases hb : validF f with
  | false =>
    rw [hb] at hv
    obtain ⟨op, name, args, params, exprs, kids⟩ := f
    simp only [Fm.cells, Bool.false_eq_true, if_false] at hv ⊢
    refine pcall_body (ow := fun _ => false) (wf := fun _ => false) Ty.mixed Try.func28 rfl Ty.hb_28 (by rw [Try.ntmps28]; simp) ?_
    rw [Try.ntmps28, Try.results28]
    repeat' (first | (refine a_seq (fun K hK => ?_)) | (refine a_regionS ?_; simp (maxSteps := 2000000) only [Ty.w, simprocAttr]) | (refine hK _ _ ?_; clear hK; (try simp only [pst0, simprocAttr])))
    refine owp_useQ (hv _) (by (try simp only [Ty.w, simprocAttr, Bool.not_false]); try rfl) ?_; simp (maxSteps := 2000000) only [Ty.w, simprocAttr, Bool.not_false]
    repeat' (first | (refine a_seq (fun K hK => ?_)) | ((first | refine a_regionS ?_ | refine a_ret ?_); simp (maxSteps := 2000000) only [Ty.w, simprocAttr, Bool.not_false]) | (refine hK _ _ ?_; clear hK; (try simp only [pst0, simprocAttr])))
    refine ⟨?_, ((Grow.refl h).new _).set (Nat.le_refl _) _⟩
    simp only [zeroSx, errV, Sx.cells, Sx.rows, FrzTo, FrzL]
    exact ⟨_, rfl, ⟨_, rfl, rfl, rfl, rfl, rfl, rfl, .inr (.inl ⟨rfl, .inr rfl⟩), trivial⟩, rfl, trivial⟩
  | true =>
    rw [hb] at hv
    have hsh := shapedM_F f 0 0 (by unfold validF at hb; simp only [Bool.and_eq_true] at hb; exact hb.1)
    have hw := write_c f hsm hsh
    have hfz := fun (n : Nat) (h : Heap) => sx_frz n h (fmW f)
    generalize fmW f = X at hw hfz ⊢
    obtain ⟨op, name, args, params, exprs, kids⟩ := f
    obtain ⟨ki, va, li, co, te, ks⟩ := X
    simp only [Fm.cells, Sx.cells, if_true] at hv hw hfz ⊢
    refine pcall_body (ow := fun _ => false) (wf := fun _ => false) Ty.mixed Try.func28 rfl Ty.hb_28 (by rw [Try.ntmps28]; simp) ?_
    rw [Try.ntmps28, Try.results28]
    repeat' (first | (refine a_seq (fun K hK => ?_)) | (refine a_regionS ?_; simp (maxSteps := 2000000) only [Ty.w, simprocAttr]) | (refine hK _ _ ?_; clear hK; (try simp only [pst0, simprocAttr])))
    refine owp_useQ (hv _) (by (try simp only [Ty.w, simprocAttr, Bool.not_true]); try rfl) ?_; simp (maxSteps := 2000000) only [Ty.w, simprocAttr, Bool.not_true]
    repeat' (first | (refine a_seq (fun K hK => ?_)) | (refine a_regionS ?_; simp (maxSteps := 2000000) only [Ty.w, simprocAttr, Bool.not_true]) | (refine a_skip ?_; (try simp only [pst0, simprocAttr])) | (refine a_cond _ (by (try simp (maxSteps := 2000000) only [Ty.w, simprocAttr, Bool.not_true]); rfl) (fun hb => ?_) (fun hb => ?_) <;> (try simp only [hb0, decide_eq_true_eq, decide_eq_false_iff_not, simprocAttr] at hb) <;> (try (exfalso; omega))) | (refine hK _ _ ?_; clear hK; (try simp only [pst0, simprocAttr])))
    refine owp_useQ (hw _) (by (try simp only [Ty.w, simprocAttr, ]); try rfl) ?_; simp (maxSteps := 2000000) only [Ty.w, simprocAttr, ]
    repeat' (first | (refine a_ret ?_; simp (maxSteps := 2000000) only [Ty.w, simprocAttr]) | (refine hK _ _ ?_; clear hK; (try simp only [pst0, simprocAttr])))
    refine ⟨?_, ((Grow.refl h).new _).set (Nat.le_refl _) _⟩
    simp only [FrzTo, FrzL]
    exact ⟨_, rfl, ⟨_, rfl, hfz _ _⟩, rfl, trivial⟩
end Go.Proofs.Ytjlkapgpjamnkaa
namespace Go.AM
mutual
def Ex.nodes : Ex → Nat
  | .mk _ _ _ _ kids => Ex.nodess kids + 1
def Ex.nodess : List Ex → Nat
  | [] => 0
  | k :: ks => k.nodes + Ex.nodess ks
end
mutual
def Fm.nodes : Fm → Nat
  | .mk _ _ _ _ exprs kids => Ex.nodess exprs + Fm.nodess kids + 1
def Fm.nodess : List Fm → Nat
  | [] => 0
  | k :: ks => k.nodes + Fm.nodess ks
end
mutual
theorem Ex.size_eq : ∀ e : Ex, e.nodes ≤ bigN → e.size = e.nodes
  | .mk _ _ _ _ kids, h => by
    simp only [Ex.nodes] at h
    have := Ex.sizes_eq kids 1 (by omega)
    simp only [Ex.size, Ex.nodes]
    rw [show (1 : Int) = ((1 : Nat) : Int) from rfl, this]; omega
theorem Ex.sizes_eq : ∀ (l : List Ex) (m : Nat), m + Ex.nodess l ≤ bigN → Ex.sizes (m : Int) l = ((m + Ex.nodess l : Nat) : Int)
  | [], m, _ => by simp [Ex.sizes, Ex.nodess]
  | k :: ks, m, h => by
    simp only [Ex.nodess] at h
    have h1 := Ex.size_eq k (by omega)
    have h2 := Ex.sizes_eq ks (m + k.nodes) (by omega)
    unfold bigN at h
    simp only [Ex.sizes, Ex.nodess]
    rw [h1, wrap64 (by omega) (by omega), show (m : Int) + (k.nodes : Int) = ((m + k.nodes : Nat) : Int) by omega, h2]
    omega
end
mutual
theorem Fm.size_eq : ∀ f : Fm, f.nodes ≤ bigN → f.size = f.nodes
  | .mk _ _ _ _ exprs kids, h => by
    simp only [Fm.nodes] at h
    have h1 := Ex.sizes_eq exprs 1 (by omega)
    have h2 := Fm.sizes_eq kids (1 + Ex.nodess exprs) (by omega)
    simp only [Fm.size, Fm.nodes]
    rw [show (1 : Int) = ((1 : Nat) : Int) from rfl, h1, h2]; omega
theorem Fm.sizes_eq : ∀ (l : List Fm) (m : Nat), m + Fm.nodess l ≤ bigN → Fm.sizes (m : Int) l = ((m + Fm.nodess l : Nat) : Int)
  | [], m, _ => by simp [Fm.sizes, Fm.nodess]
  | k :: ks, m, h => by
    simp only [Fm.nodess] at h
    have h1 := Fm.size_eq k (by omega)
    have h2 := Fm.sizes_eq ks (m + k.nodes) (by omega)
    unfold bigN at h
    simp only [Fm.sizes, Fm.nodess]
    rw [h1, wrap64 (by omega) (by omega), show (m : Int) + (k.nodes : Int) = ((m + k.nodes : Nat) : Int) by omega, h2]
    omega
end
theorem bsEq_refl : ∀ l : List ByteArray, bsEq l l = true
  | [] => rfl
  | a :: l => by simp [bsEq, bEq, bsEq_refl l]
theorem pmsEq_refl : ∀ l : List Pm, pmsEq l l = true
  | [] => rfl
  | a :: l => by simp [pmsEq, pmEq, bEq, pmsEq_refl l]
mutual
theorem Ex.same_refl : ∀ e : Ex, e.same e = true
  | .mk _ _ _ args kids => by simp [Ex.same, bEq, bsEq_refl, Ex.sames_refl kids]
theorem Ex.sames_refl : ∀ l : List Ex, Ex.sames l l = true
  | [] => rfl
  | k :: ks => by simp [Ex.sames, Ex.same_refl k, Ex.sames_refl ks]
end
mutual
theorem Fm.same_refl : ∀ f : Fm, f.same f = true
  | .mk _ _ args params exprs kids => by simp [Fm.same, bEq, bsEq_refl, pmsEq_refl, Ex.sames_refl, Fm.sames_refl kids]
theorem Fm.sames_refl : ∀ l : List Fm, Fm.sames l l = true
  | [] => rfl
  | k :: ks => by simp [Fm.sames, Fm.same_refl k, Fm.sames_refl ks]
end
end Go.AM
namespace Go.Proofs.Ytjlkapgpjamnkaa
open Go.AM
theorem formedM_nodes : ∀ (e : Ex) (d n : Nat), (formedM e d n).1 = true → (formedM e d n).2 = n + e.nodes := by
  refine Ex.ind ?_
  intro op name nn args kids ih d n
  unfold formedM
  have hk0 : kids.isEmpty = true → Ex.nodess kids = 0 := by cases kids <;> simp [Ex.nodess]
  split
  · split
    · intro h
      simp only [Bool.and_eq_true] at h
      simp only [Ex.nodes, hk0 h.1.2]
    · split
      · intro h
        simp only [Bool.and_eq_true] at h
        simp only [Ex.nodes, hk0 h.1.1.2]
      · split
        · split
          · split
            · rename_i a b
              have ha := ih a (by simp) (d + 1) (n + 1)
              split
              · rename_i c he
                rw [he] at ha
                have h1 := ha rfl
                intro h
                rw [ih b (by simp) (d + 1) c h]
                simp only at h1
                simp only [Ex.nodes, Ex.nodess]; omega
              · simp
            · simp
          · simp
        · simp
  · simp
theorem formedMs_nodes : ∀ (l : List Ex) (d n : Nat), (formedMs l d n).1 = true → (formedMs l d n).2 = n + Ex.nodess l
  | [], d, n => by simp [formedMs, Ex.nodess]
  | e :: l, d, n => by
    unfold formedMs
    have h1 := formedM_nodes e d n
    split
    · rename_i c he
      rw [he] at h1
      intro h
      rw [formedMs_nodes l d c h]
      have := h1 rfl
      simp only at this
      simp only [Ex.nodess]; omega
    · simp
mutual
theorem shapedM_nodes : ∀ (f : Fm) (d n : Nat), (shapedM f d n).1 = true → (shapedM f d n).2 = n + f.nodes
  | .mk op name args params exprs kids, d, n => by
    unfold shapedM
    split
    · split
      · have h1 := formedMs_nodes exprs (d + 1) (n + 1)
        split
        · rename_i c he
          rw [he] at h1
          intro h
          rw [shapedMs_nodes kids (d + 1) c h]
          have := h1 rfl
          simp only at this
          simp only [Fm.nodes]; omega
        · simp
      · simp
    · simp
theorem shapedMs_nodes : ∀ (l : List Fm) (d n : Nat), (shapedMs l d n).1 = true → (shapedMs l d n).2 = n + Fm.nodess l
  | [], d, n => by simp [shapedMs, Fm.nodess]
  | k :: l, d, n => by
    unfold shapedMs
    have h1 := shapedM_nodes k d n
    split
    · rename_i c he
      rw [he] at h1
      intro h
      rw [shapedMs_nodes l d c h]
      have := h1 rfl
      simp only at this
      simp only [Fm.nodess]; omega
    · simp
end
/-- a formula that is valid has at most 4096 nodes, and Size counts them -/
theorem validF_size {f : Fm} (h : validF f = true) : f.size = f.nodes ∧ f.nodes ≤ 4096 ∧ 1 ≤ f.nodes := by
  unfold validF at h
  simp only [Bool.and_eq_true] at h
  have h1 := shapedM_nodes f 0 0 h.1
  have h2 := shapedM_le f 0 0 h.1
  have h3 : f.nodes ≤ 4096 := by omega
  refine ⟨Fm.size_eq f (by unfold bigN; omega), h3, ?_⟩
  cases f; simp only [Fm.nodes]; omega
theorem validF_shaped {f : Fm} (h : validF f = true) : shapedF f = true := by
  unfold validF at h
  simp only [Bool.and_eq_true] at h
  exact shapedM_F f 0 0 h.1
theorem zeroFm_ok : zeroFm.ok ∧ zeroFm.small := by
  simp only [zeroFm, Fm.ok, Fm.oks, Ex.oks, Fm.small, Fm.smalls, Ex.smalls, List.length_nil]
  refine ⟨⟨by simp [bigN, ByteArray.size], by simp [bigN, ByteArray.size], ⟨by simp, by simp⟩, ⟨by simp, by simp⟩, ⟨by simp, trivial⟩, by simp, trivial⟩, by omega, by omega, trivial, by omega, trivial⟩
theorem textOf_ok {x : Sx} (h : x.ok) : (textOf x).size ≤ bigN := by
  obtain ⟨_, _, _, _, t, _⟩ := x
  simp only [Sx.ok] at h
  exact h.2.2.1
theorem pmsOf_ok {t : ByteArray} {l : List ByteArray} (ht : t.size ≤ bigN) (hl : ∀ s ∈ l, s.size ≤ bigN) : ∀ p ∈ pmsOf t l, p.ok := by
  intro p hp
  simp only [pmsOf, List.mem_map] at hp
  obtain ⟨s, hs, rfl⟩ := hp
  exact ⟨hl s hs, ht⟩
theorem pmsOf_len (t : ByteArray) (l : List ByteArray) : (pmsOf t l).length = l.length := by simp [pmsOf]
theorem opObj_size : opObj.size ≤ bigN := by simp [opObj, bigN, ByteArray.size]
theorem paramsL_ok (vars : Bool) : ∀ (n : Nat) (l : List Sx), l.length ≤ n → (∀ x ∈ l, x.ok) → ∀ (don : List Pm) (pen : List ByteArray), (∀ p ∈ don, p.ok) → (∀ s ∈ pen, s.size ≤ bigN) →
    (∀ p ∈ (paramsL vars l don pen).1, p.ok) ∧ (paramsL vars l don pen).1.length ≤ don.length + pen.length + l.length := by
  intro n
  induction n with
  | zero =>
    intro l hl _ don pen hd hp
    match l, hl with
    | [], _ =>
      unfold paramsL
      simp only [List.mem_append, List.length_append, pmsOf_len, List.length_nil]
      exact ⟨fun p h => h.elim (hd p) (pmsOf_ok opObj_size hp p), by omega⟩
  | succ n ihn =>
    intro l hl hx don pen hd hp
    match l, hl, hx with
    | [], _, _ =>
      unfold paramsL
      simp only [List.mem_append, List.length_append, pmsOf_len, List.length_nil]
      exact ⟨fun p h => h.elim (hd p) (pmsOf_ok opObj_size hp p), by omega⟩
    | x :: l, hl, hx =>
      have hxo := hx x (by simp)
      have hlo : ∀ y ∈ l, y.ok := fun y hy => hx y (by simp [hy])
      unfold paramsL
      cases isWrd x with
      | false => simp
      | true =>
        simp only [cond_true]
        cases bEq (textOf x) opMin with
        | true =>
          simp only [cond_true]
          cases l with
          | nil => simp
          | cons t l' =>
            simp only
            cases (!pen.isEmpty && isWrd t) with
            | false => simp
            | true =>
              cases typedB (textOf t) with
              | false => simp
              | true =>
                simp only [cond_true]
                have := ihn l' (by simp at hl; omega) (fun y hy => hlo y (by simp [hy])) (don ++ pmsOf (textOf t) pen) [] (fun p h => (List.mem_append.1 h).elim (hd p) (pmsOf_ok (textOf_ok (hlo t (by simp))) hp p)) (by simp)
                refine ⟨this.1, Nat.le_trans this.2 ?_⟩
                simp only [List.length_append, pmsOf_len, List.length_nil, List.length_cons]; omega
        | false =>
          simp only [cond_false]
          cases (bif vars then varB (textOf x) else nameB (textOf x)) with
          | false => simp
          | true =>
            simp only [cond_true]
            have := ihn l (by simp at hl; omega) hlo don (pen ++ [textOf x]) hd (fun s h => (List.mem_append.1 h).elim (hp s) (fun h => by simp at h; rw [h]; exact textOf_ok hxo))
            refine ⟨this.1, Nat.le_trans this.2 ?_⟩
            simp only [List.length_append, List.length_nil, List.length_cons]; omega
theorem fm_mk_ok {op name : ByteArray} {args : List ByteArray} {params : List Pm} {exprs : List Ex} {kids : List Fm} (h1 : op.size ≤ bigN) (h2 : name.size ≤ bigN) (h3 : args.length ≤ 1048576) (h4 : ∀ s ∈ args, s.size ≤ bigN) (h5 : params.length ≤ 1048576) (h6 : ∀ p ∈ params, p.ok)
    (h7 : exprs.length ≤ 2) (h8 : ∀ e ∈ exprs, e.ok ∧ e.small) (h9 : kids.length ≤ 1048576) (h10 : ∀ k ∈ kids, k.ok ∧ k.small) : (Fm.mk op name args params exprs kids).ok ∧ (Fm.mk op name args params exprs kids).small := by
  simp only [Fm.ok, Fm.small]
  rw [Fm.oks_iff, Ex.oks_iff, Ex.smalls_iff, Fm.smalls_iff]
  refine ⟨⟨h1, h2, ⟨by unfold bigN; omega, h4⟩, ⟨by unfold bigN; omega, h6⟩, ⟨by unfold bigN; omega, fun e he => (h8 e he).1⟩, by unfold bigN; omega, fun k hk => (h10 k hk).1⟩, h3, h5, fun e he => (h8 e he).2, h9, fun k hk => (h10 k hk).2⟩
theorem empty_size : (⟨#[]⟩ : ByteArray).size ≤ bigN := by simp [bigN, ByteArray.size]
theorem fin_ok {r : Fm × Int} (h : r.1.ok ∧ r.1.small) : (fin r).1.ok ∧ (fin r).1.small := by
  unfold fin
  cases r.2 == 0 with
  | true => exact h
  | false => exact zeroFm_ok
theorem compareP_ok {w : ByteArray} {x y : Sx} (hw : w.size ≤ bigN) (hx : x.ok) (hy : y.ok) (sx : x.small) (sy : y.small) : (compareP w x y).1.ok ∧ (compareP w x y).1.small := by
  have ex := exprP_ok x hx sx
  have ey := exprP_ok y hy sy
  unfold compareP
  cases (bEq w opEq && kindOf x == 1 && kindOf y == 1) with
  | true =>
    have ht := termsM_ok (l := [x, y]) (by simp [hx, hy])
    simp only [List.length_cons, List.length_nil] at ht
    exact fm_mk_ok (by simp [opSame, bigN, ByteArray.size]) empty_size (by omega) ht.1 (by simp) (by simp) (by simp) (by simp) (by simp) (by simp)
  | false =>
    simp only [cond_false]
    cases (exprP x).2 == 0 with
    | false => exact zeroFm_ok
    | true =>
      cases (exprP y).2 == 0 with
      | false => exact zeroFm_ok
      | true =>
        simp only [cond_true]
        have h2 : ∀ a b : Ex, (a.ok ∧ a.small) → (b.ok ∧ b.small) → ∀ o : ByteArray, o.size ≤ bigN → (Fm.mk o ⟨#[]⟩ [] [] [a, b] []).ok ∧ (Fm.mk o ⟨#[]⟩ [] [] [a, b] []).small := fun a b ha hb o ho =>
          fm_mk_ok ho empty_size (by simp) (by simp) (by simp) (by simp) (by simp) (by simp only [List.mem_cons, List.not_mem_nil, or_false]; rintro e (rfl | rfl); exact ha; exact hb) (by simp) (by simp)
        split
        · exact h2 _ _ ey ex _ (by simp [opLt, bigN, ByteArray.size])
        · split
          · exact h2 _ _ ey ex _ (by simp [opLe, bigN, ByteArray.size])
          · exact h2 _ _ ex ey _ hw
theorem fmPs_ok : ∀ (l : List Sx), (∀ k ∈ l, (fmP k).1.ok ∧ (fmP k).1.small) → (∀ f ∈ (fmPs l).1, f.ok ∧ f.small) ∧ (fmPs l).1.length ≤ l.length
  | [], _ => by simp [fmPs]
  | x :: l, h => by
    have h1 := fmPs_ok l fun k hk => h k (by simp [hk])
    have h2 := h x (by simp)
    simp only [fmPs]
    generalize fmP x = r at h2
    obtain ⟨f, c⟩ := r
    simp only at h2 ⊢
    cases c == 0 with
    | false => simp
    | true =>
      simp only [cond_true]
      generalize fmPs l = r at h1
      obtain ⟨fs, c'⟩ := r
      simp only at h1 ⊢
      cases c' == 0 with
      | false => simp
      | true =>
        simp only [cond_true, List.mem_cons, List.length_cons]
        exact ⟨fun g hg => hg.elim (fun e => by rw [e]; exact h2) (h1.1 g), by omega⟩
theorem fmP_ok : ∀ x : Sx, x.ok → x.small → (fmP x).1.ok ∧ (fmP x).1.small := by
  refine Sx.ind ?_
  intro kind value line col text kids ih hok hsm
  simp only [Sx.ok] at hok
  obtain ⟨_, _, _, hkl, hks⟩ := hok
  clear hkl
  rw [Sx.oks_iff] at hks
  simp only [Sx.small] at hsm
  obtain ⟨hl, hss⟩ := hsm
  rw [Sx.smalls_iff] at hss
  have sub : ∀ l : List Sx, (∀ k ∈ l, k ∈ kids) → (∀ f ∈ (fmPs l).1, f.ok ∧ f.small) ∧ (fmPs l).1.length ≤ l.length := fun l h => fmPs_ok l fun k hk => ih k (h k hk) (hks k (h k hk)) (hss k (h k hk))
  unfold fmP
  split
  · cases kids with
    | nil => exact fm_mk_ok (by simp [opAnd, bigN, ByteArray.size]) empty_size (by simp) (by simp) (by simp) (by simp) (by simp) (by simp) (by simp) (by simp)
    | cons x rest =>
      simp only
      have hxt := textOf_ok (hks x (by simp))
      simp only [List.length_cons] at hl
      cases kindOf x == 1 with
      | false => exact zeroFm_ok
      | true =>
        simp only [cond_true]
        cases (decide (countW (textOf x) ≥ 0) && !(decide (countW (textOf x) = rest.length))) with
        | true => exact zeroFm_ok
        | false =>
          simp only [cond_false]
          cases isQ (textOf x) with
          | true =>
            simp only [cond_true]
            cases rest with
            | nil => exact zeroFm_ok
            | cons p body =>
              simp only
              cases kindOf p == 3 with
              | false => exact zeroFm_ok
              | true =>
                simp only [cond_true]
                have hpo := hks p (by simp)
                have hps := hss p (by simp)
                have hb := sub body fun k hk => by simp [hk]
                simp only [List.length_cons] at hl
                have hpp : (∀ q ∈ (paramsP true (kidsOf p)).1, q.ok) ∧ (paramsP true (kidsOf p)).1.length ≤ 1048576 := by
                  obtain ⟨_, _, _, _, _, pk⟩ := p
                  simp only [Sx.ok] at hpo
                  simp only [Sx.small] at hps
                  have := paramsL_ok true pk.length pk (Nat.le_refl _) (Sx.oks_iff.1 hpo.2.2.2.2) [] [] (by simp) (by simp)
                  simp only [List.length_nil] at this
                  exact ⟨this.1, by have := this.2; simp only [paramsP, kidsOf]; omega⟩
                cases (paramsP true (kidsOf p)).2 == 0 with
                | false => exact zeroFm_ok
                | true =>
                  simp only [cond_true]
                  generalize fmPs body = r at hb
                  obtain ⟨ks, c⟩ := r
                  simp only at hb ⊢
                  cases c == 0 with
                  | false => exact zeroFm_ok
                  | true => exact fm_mk_ok hxt empty_size (by simp) (by simp) hpp.2 hpp.1 (by simp) (by simp) (by omega) hb.1
          | false =>
            simp only [cond_false]
            cases isLst (textOf x) with
            | true =>
              simp only [cond_true]
              have hb := sub rest fun k hk => by simp [hk]
              generalize fmPs rest = r at hb
              obtain ⟨ks, c⟩ := r
              simp only at hb ⊢
              cases c == 0 with
              | false => exact zeroFm_ok
              | true => exact fm_mk_ok hxt empty_size (by simp) (by simp) (by simp) (by simp) (by simp) (by simp) (by omega) hb.1
            | false =>
              simp only [cond_false]
              cases isCmp5 (textOf x) with
              | true =>
                simp only [cond_true]
                split
                · rename_i a b
                  exact fin_ok (compareP_ok hxt (hks a (by simp)) (hks b (by simp)) (hss a (by simp)) (hss b (by simp)))
                · exact zeroFm_ok
              | false =>
                simp only [cond_false]
                cases nameB (textOf x) with
                | false => exact zeroFm_ok
                | true =>
                  have ht := termsM_ok (l := rest) fun y hy => hks y (by simp [hy])
                  simp only [cond_true]
                  cases (termsM rest).2 == 0 with
                  | false => exact zeroFm_ok
                  | true => exact fm_mk_ok (by simp [opAtom, bigN, ByteArray.size]) hxt (by omega) ht.1 (by simp) (by simp) (by simp) (by simp) (by simp) (by simp)
  · exact zeroFm_ok
/-- what formula.Parse gives: the formula and 0, or an error's number -/
def parseF (x : Sx) : Fm × Int :=
  if (svalid x 0 0).1 = true then (if (fmP x).2 = 0 then (if validF (fmP x).1 = true then ((fmP x).1, 0) else (zeroFm, 5)) else (zeroFm, (fmP x).2)) else (zeroFm, 2)
theorem parseF_ok {x : Sx} (hok : x.ok) : (parseF x).1.ok ∧ (parseF x).1.small := by
  unfold parseF
  split
  · rename_i h
    split
    · split
      · exact fmP_ok x hok (svalid_small h)
      · exact zeroFm_ok
    · exact zeroFm_ok
  · exact zeroFm_ok
theorem parseF_valid {x : Sx} (h : (parseF x).2 = 0) : validF (parseF x).1 = true := by
  unfold parseF at h ⊢
  split at h
  · rename_i h1
    rw [if_pos h1]
    split at h
    · rename_i h2
      rw [if_pos h2]
      split at h
      · rename_i h3
        rw [if_pos h3]; exact h3
      · simp at h
    · rename_i h2
      exact absurd h h2
  · simp at h
/-- what is written is parsed again -/
theorem parseF_fmW {f : Fm} (h : validF f = true) : parseF (fmW f) = (f, 0) := by
  have hs := validF_shaped h
  have h2 := h
  unfold validF at h2
  simp only [Bool.and_eq_true] at h2
  unfold parseF
  rw [if_pos h2.2, fmP_fmW f hs]
  simp [h]
end Go.Proofs.Ytjlkapgpjamnkaa
namespace Go.Proofs.Ytjlkapgpjamnkaa
open Go.AM
set_option maxHeartbeats 4000000
set_option maxRecDepth 20000
theorem parse_c : ∀ x : Sx, x.ok → x.small → ∀ h : Heap, PCall Try.prog 73 [.agg x.cells] h fun r h' => r = .tup [.agg (fmP x).1.cells, errP (fmP x).2] ∧ h' = h := by
  refine Sx.ind ?_
  intro kind value line col text kids ih hok hsm h
  have hok' := hok
  simp only [Sx.ok] at hok'
  obtain ⟨_, _, _, _, hks⟩ := hok'
  rw [Sx.oks_iff] at hks
  have hsm' := hsm
  simp only [Sx.small] at hsm'
  have hss := hsm'.2
  rw [Sx.smalls_iff] at hss
  exact parse_step hok hsm (fun x hx => ih x hx (hks x hx) (hss x hx)) h
theorem parseF_err {x : Sx} (h : ((parseF x).2 == 0) = false) : (parseF x).1 = zeroFm := by
  unfold parseF at h ⊢
  split
  · rename_i h1
    rw [if_pos h1] at h
    split
    · rename_i h2
      rw [if_pos h2] at h
      split
      · rename_i h3
        rw [if_pos h3] at h
        simp at h
      · rfl
    · rfl
  · rfl
theorem Parse_c {x : Sx} (hok : x.ok) (h : Heap) : PCall Try.prog 33 [.agg x.cells] h fun r h' => r = .tup [.agg (parseF x).1.cells, errP (parseF x).2] ∧ h' = h := by
  refine PCall.frz Ty.hb_33 ?_
  have hv := fun h : Heap => svalid_c hok h
  have hX : parseF x = (if (svalid x 0 0).1 = true then (if (fmP x).2 = 0 then (if validF (fmP x).1 = true then ((fmP x).1, 0) else (zeroFm, 5)) else (zeroFm, (fmP x).2)) else (zeroFm, 2)) := rfl
  generalize parseF x = F at hX
  have bad : ∀ (c : Int) (h' : Heap), (c == 0) = false → Grow h h' → F = (zeroFm, c) → FrzTo h.next h' (.tup [.agg F.1.cells, errP F.2]) (.tup [.agg [.sc (.string ⟨#[]⟩), .sc (.string ⟨#[]⟩), .sc (.slice none 0 0), .sc (.slice none 0 0), .sc (.slice none 0 0), .sc (.slice none 0 0)], errV c]) ∧ Grow h h' := by
    intro c h' hc hg hF
    subst hF
    have : errP c = errV c := by simp only [errP, hc, cond_false]
    simp only [this]
    refine ⟨?_, hg⟩
    simp only [errV, zeroFm, Fm.cells, Ex.rows, Fm.rows, pmRows, strRows, List.map_nil, FrzTo, FrzL]
    exact ⟨_, rfl, ⟨_, rfl, rfl, rfl, .inr (.inl ⟨rfl, .inr rfl⟩), .inr (.inl ⟨rfl, .inr rfl⟩), .inr (.inl ⟨rfl, .inr rfl⟩), .inr (.inl ⟨rfl, .inr rfl⟩), trivial⟩, rfl, trivial⟩
  simp only [errV] at bad
  have hg1 : ∀ r, Grow h ((h.new (.arr 6 [[.sc (.string ⟨#[]⟩), .sc (.string ⟨#[]⟩), .sc (.slice none 0 0), .sc (.slice none 0 0), .sc (.slice none 0 0), .sc (.slice none 0 0)]])).set h.next r) := fun r => ((Grow.refl h).new _).set (Nat.le_refl _) _
  have hg2 : ∀ o1 o2 r, Grow h ((((h.new (.arr 6 [[.sc (.string ⟨#[]⟩), .sc (.string ⟨#[]⟩), .sc (.slice none 0 0), .sc (.slice none 0 0), .sc (.slice none 0 0), .sc (.slice none 0 0)]])).new o1).set (h.next + 1) o2).set h.next r) := fun o1 o2 r => ((((Grow.refl h).new _).new _).set (Nat.le_succ _) _).set (Nat.le_refl _) _
  have n1 : (h.next = h.next + 1) = False := by simp
  cases v1 : (svalid x 0 0).1 with
  | false =>
    rw [v1] at hv
    rw [if_neg (by rw [v1]; simp)] at hX
    obtain ⟨kind, value, line, col, text, kids⟩ := x
    simp only [Sx.cells] at hv ⊢
    refine pcall_body (ow := fun _ => false) (wf := fun _ => false) Ty.mixed Try.func33 rfl Ty.hb_33 (by rw [Try.ntmps33]; simp) ?_
    rw [Try.ntmps33, Try.results33]
    repeat' (first | (refine a_seq (fun K hK => ?_)) | (refine a_regionS ?_; simp (maxSteps := 2000000) only [Ty.w, simprocAttr]) | (refine hK _ _ ?_; clear hK; (try simp only [pst0, simprocAttr])))
    refine owp_useQ (hv _) (by (try simp only [Ty.w, simprocAttr, ]); try rfl) ?_; simp (maxSteps := 2000000) only [Ty.w, simprocAttr, ]
    repeat' (first | (refine a_seq (fun K hK => ?_)) | ((first | refine a_regionS ?_ | refine a_ret ?_); simp (maxSteps := 2000000) only [Ty.w, simprocAttr, Bool.not_false]) | (refine hK _ _ ?_; clear hK; (try simp only [pst0, simprocAttr])))
    exact bad 2 _ rfl (hg1 _) hX
  | true =>
    have hsm := svalid_small v1
    have hp := parse_c x hok hsm
    have hfo := fmP_ok x hok hsm
    rw [v1] at hv
    rw [if_pos v1] at hX
    have hfz := fun n hh => fm_frz n hh (fmP x).1
    generalize fmP x = E at hp hfo hX hfz
    obtain ⟨f, c⟩ := E
    simp only at hp hfo hX hfz
    obtain ⟨kind, value, line, col, text, kids⟩ := x
    simp only [Sx.cells] at hv hp ⊢
    cases hc : c == 0 with
    | false =>
      rw [if_neg (by simpa using hc)] at hX
      have e0 : errP c = errV c := by simp only [errP, hc, cond_false]
      rw [e0] at hp
      simp only [errV] at hp
      obtain ⟨fop, fna, far, fpa, fex, fki⟩ := f
      simp only [Fm.cells] at hp
      refine pcall_body (ow := fun _ => false) (wf := fun _ => false) Ty.mixed Try.func33 rfl Ty.hb_33 (by rw [Try.ntmps33]; simp) ?_
      rw [Try.ntmps33, Try.results33]
      repeat' (first | (refine a_seq (fun K hK => ?_)) | (refine a_regionS ?_; simp (maxSteps := 2000000) only [Ty.w, simprocAttr]) | (refine hK _ _ ?_; clear hK; (try simp only [pst0, simprocAttr])))
      refine owp_useQ (hv _) (by (try simp only [Ty.w, simprocAttr, ]); try rfl) ?_; simp (maxSteps := 2000000) only [Ty.w, simprocAttr, ]
      repeat' (first | (refine a_seq (fun K hK => ?_)) | (refine a_regionS ?_; simp (maxSteps := 2000000) only [Ty.w, simprocAttr, Bool.not_true]) | (refine a_skip ?_; (try simp only [pst0, simprocAttr])) | (refine a_cond _ (by (try simp (maxSteps := 2000000) only [Ty.w, simprocAttr, Bool.not_true]); rfl) (fun hb => ?_) (fun hb => ?_) <;> (try simp only [hb0, decide_eq_true_eq, decide_eq_false_iff_not, simprocAttr] at hb) <;> (try (exfalso; omega))) | (refine hK _ _ ?_; clear hK; (try simp only [pst0, simprocAttr])))
      refine owp_useQ (hp _) (by (try simp only [Ty.w, simprocAttr, ]); try rfl) ?_; simp (maxSteps := 2000000) only [Ty.w, simprocAttr, ]
      repeat' (first | (refine a_seq (fun K hK => ?_)) | ((first | refine a_regionS ?_ | refine a_ret ?_); simp (maxSteps := 2000000) only [Ty.w, simprocAttr, n1, nsucc]) | (refine hK _ _ ?_; clear hK; (try simp only [pst0, simprocAttr])))
      exact bad c _ hc (hg2 _ _ _) hX
    | true =>
      rw [if_pos (by simpa using hc)] at hX
      have e0 : errP c = .sc .nilIface := by simp only [errP, hc, cond_true]
      rw [e0] at hp
      have hV := fun h : Heap => fvalid_c hfo.1 hfo.2 h
      cases v2 : validF f with
      | false =>
        rw [v2] at hV
        rw [if_neg (by rw [v2]; simp)] at hX
        obtain ⟨fop, fna, far, fpa, fex, fki⟩ := f
        simp only [Fm.cells] at hp hV
        refine pcall_body (ow := fun _ => false) (wf := fun _ => false) Ty.mixed Try.func33 rfl Ty.hb_33 (by rw [Try.ntmps33]; simp) ?_
        rw [Try.ntmps33, Try.results33]
        repeat' (first | (refine a_seq (fun K hK => ?_)) | (refine a_regionS ?_; simp (maxSteps := 2000000) only [Ty.w, simprocAttr]) | (refine hK _ _ ?_; clear hK; (try simp only [pst0, simprocAttr])))
        refine owp_useQ (hv _) (by (try simp only [Ty.w, simprocAttr, ]); try rfl) ?_; simp (maxSteps := 2000000) only [Ty.w, simprocAttr, ]
        repeat' (first | (refine a_seq (fun K hK => ?_)) | (refine a_regionS ?_; simp (maxSteps := 2000000) only [Ty.w, simprocAttr, Bool.not_true]) | (refine a_skip ?_; (try simp only [pst0, simprocAttr])) | (refine a_cond _ (by (try simp (maxSteps := 2000000) only [Ty.w, simprocAttr, Bool.not_true]); rfl) (fun hb => ?_) (fun hb => ?_) <;> (try simp only [hb0, decide_eq_true_eq, decide_eq_false_iff_not, simprocAttr] at hb) <;> (try (exfalso; omega))) | (refine hK _ _ ?_; clear hK; (try simp only [pst0, simprocAttr])))
        refine owp_useQ (hp _) (by (try simp only [Ty.w, simprocAttr, ]); try rfl) ?_; simp (maxSteps := 2000000) only [Ty.w, simprocAttr, ]
        repeat' (first | (refine a_seq (fun K hK => ?_)) | (refine a_regionS ?_; simp (maxSteps := 2000000) only [Ty.w, simprocAttr, n1, nsucc]) | (refine a_skip ?_; (try simp only [pst0, simprocAttr])) | (refine a_cond _ (by (try simp (maxSteps := 2000000) only [Ty.w, simprocAttr, n1, nsucc]); rfl) (fun hb => ?_) (fun hb => ?_) <;> (try simp only [hb0, decide_eq_true_eq, decide_eq_false_iff_not, simprocAttr] at hb) <;> (try (exfalso; omega))) | (refine hK _ _ ?_; clear hK; (try simp only [pst0, simprocAttr])))
        refine owp_useQ (hV _) (by (try simp only [Ty.w, simprocAttr, n1, nsucc]); try rfl) ?_; simp (maxSteps := 2000000) only [Ty.w, simprocAttr, n1, nsucc]
        repeat' (first | (refine a_seq (fun K hK => ?_)) | ((first | refine a_regionS ?_ | refine a_ret ?_); simp (maxSteps := 2000000) only [Ty.w, simprocAttr, n1, nsucc, Bool.not_false]) | (refine hK _ _ ?_; clear hK; (try simp only [pst0, simprocAttr])))
        exact bad 5 _ rfl (hg2 _ _ _) hX
      | true =>
        rw [v2] at hV
        rw [if_pos v2] at hX
        subst hX
        obtain ⟨fop, fna, far, fpa, fex, fki⟩ := f
        simp only [Fm.cells] at hp hV hfz
        have e2 : errP 0 = .sc .nilIface := rfl
        simp only [e2, Fm.cells]
        refine pcall_body (ow := fun _ => false) (wf := fun _ => false) Ty.mixed Try.func33 rfl Ty.hb_33 (by rw [Try.ntmps33]; simp) ?_
        rw [Try.ntmps33, Try.results33]
        repeat' (first | (refine a_seq (fun K hK => ?_)) | (refine a_regionS ?_; simp (maxSteps := 2000000) only [Ty.w, simprocAttr]) | (refine hK _ _ ?_; clear hK; (try simp only [pst0, simprocAttr])))
        refine owp_useQ (hv _) (by (try simp only [Ty.w, simprocAttr, ]); try rfl) ?_; simp (maxSteps := 2000000) only [Ty.w, simprocAttr, ]
        repeat' (first | (refine a_seq (fun K hK => ?_)) | (refine a_regionS ?_; simp (maxSteps := 2000000) only [Ty.w, simprocAttr, Bool.not_true]) | (refine a_skip ?_; (try simp only [pst0, simprocAttr])) | (refine a_cond _ (by (try simp (maxSteps := 2000000) only [Ty.w, simprocAttr, Bool.not_true]); rfl) (fun hb => ?_) (fun hb => ?_) <;> (try simp only [hb0, decide_eq_true_eq, decide_eq_false_iff_not, simprocAttr] at hb) <;> (try (exfalso; omega))) | (refine hK _ _ ?_; clear hK; (try simp only [pst0, simprocAttr])))
        refine owp_useQ (hp _) (by (try simp only [Ty.w, simprocAttr, ]); try rfl) ?_; simp (maxSteps := 2000000) only [Ty.w, simprocAttr, ]
        repeat' (first | (refine a_seq (fun K hK => ?_)) | (refine a_regionS ?_; simp (maxSteps := 2000000) only [Ty.w, simprocAttr, n1, nsucc]) | (refine a_skip ?_; (try simp only [pst0, simprocAttr])) | (refine a_cond _ (by (try simp (maxSteps := 2000000) only [Ty.w, simprocAttr, n1, nsucc]); rfl) (fun hb => ?_) (fun hb => ?_) <;> (try simp only [hb0, decide_eq_true_eq, decide_eq_false_iff_not, simprocAttr] at hb) <;> (try (exfalso; omega))) | (refine hK _ _ ?_; clear hK; (try simp only [pst0, simprocAttr])))
        refine owp_useQ (hV _) (by (try simp only [Ty.w, simprocAttr, n1, nsucc]); try rfl) ?_; simp (maxSteps := 2000000) only [Ty.w, simprocAttr, n1, nsucc]
        repeat' (first | (refine a_seq (fun K hK => ?_)) | ((first | refine a_regionS ?_ | refine a_ret ?_); simp (maxSteps := 2000000) only [Ty.w, simprocAttr, n1, nsucc, Bool.not_true]) | (refine a_skip ?_; (try simp only [pst0, simprocAttr])) | (refine a_cond _ (by (try simp (maxSteps := 2000000) only [Ty.w, simprocAttr, n1, nsucc, Bool.not_true]); rfl) (fun hb => ?_) (fun hb => ?_) <;> (try simp only [hb0, decide_eq_true_eq, decide_eq_false_iff_not, simprocAttr] at hb) <;> (try (exfalso; omega))) | (refine hK _ _ ?_; clear hK; (try simp only [pst0, simprocAttr])))
        refine ⟨?_, hg2 _ _ _⟩
        have h1 := fun hh => hfz h.next hh
        unfold FrzTo
        refine ⟨_, rfl, ?_⟩
        unfold FrzL
        refine ⟨?_, by unfold FrzL; exact ⟨by simp only [FrzTo], by simp only [FrzL]⟩⟩
        unfold FrzTo
        exact ⟨_, rfl, h1 _⟩
end Go.Proofs.Ytjlkapgpjamnkaa
namespace Go.Proofs.Ytjlkapgpjamnkaa
open Go.AM
set_option maxHeartbeats 2000000
set_option maxRecDepth 20000
theorem rsizeE_c : ∀ (e : Ex), e.ok → ∀ h : Heap, PCall Try.prog 39 [.agg e.cells] h fun r h' => r = .sc (.int .i64 e.size) ∧ h' = h := by
  refine Ex.ind ?_
  intro op name n args kids ih hok h
  simp only [Ex.ok] at hok
  obtain ⟨_, _, _, _, hk, hks⟩ := hok
  rw [Ex.oks_iff] at hks
  have hlen := Ex.rows_len kids
  simp only [Ex.cells, Ex.size]
  refine pcall_body (ow := fun _ => false) (wf := fun _ => false) Ty.mixed Try.func39 rfl Ty.hb_39 (by rw [Try.ntmps39]; simp) ?_
  rw [Try.ntmps39, Try.results39]
  repeat' (first | (refine a_seq (fun K hK => ?_)) | (refine a_block ?_) | (refine a_regionS ?_; simp (maxSteps := 2000000) only [Ty.w, simprocAttr, hlen]) | (refine hK _ _ ?_; clear hK; (try simp only [pst0, simprocAttr])))
  refine a_loop (fun m S h' => h' = h ∧ S 1 = .cptr (Ex.mk op name n args kids).cells ∧ ∃ k : Nat, S 4 = .sc (.int .i64 k) ∧ k ≤ kids.length ∧ m = kids.length - k ∧ S 3 = .sc (.int .i64 (Ex.sizes 1 (kids.take k)))) kids.length ?_ ?_
  · simp only [Ty.w, simprocAttr]
    exact ⟨rfl, 0, rfl, by omega, rfl, by simp [Ex.sizes]⟩
  · rintro m S h' ⟨rfl, g1, k, g4, hkl, rfl, g3⟩
    simp only [Ex.cells] at g1
    by_cases hlt : k < kids.length
    · have hd : decide ((k : Int) < (kids.length : Int)) = true := by simp; omega
      have w7 : IntKind.i64.wrap ((k : Int) + 1) = k + 1 := by unfold bigN at hk; rw [wrap64 (by omega) (by omega)]
      obtain ⟨e, hx⟩ : ∃ e, kids[k]? = some e := ⟨_, List.getElem?_eq_getElem hlt⟩
      have hmem := List.mem_of_getElem? hx
      have hc := ih e hmem (hks e hmem)
      have hsz := Ex.sizes_take 1 hx
      have hr := Ex.rows_get hx
      obtain ⟨op2, name2, n2, args2, kids2⟩ := e
      simp only [Ex.cells] at hr hc
      repeat' (first | (refine a_seq (fun K hK => ?_)) | (refine a_block ?_) | ((first | refine a_regionS ?_ | refine a_region (fun K hK => ?_)); simp (maxSteps := 2000000) only [Ty.w, simprocAttr, g1, g3, g4, hlen, hd, hr, w7]) | (refine a_skip ?_; (try simp only [pst0, simprocAttr])) | (refine a_cond _ (by (try simp (maxSteps := 2000000) only [Ty.w, simprocAttr, g1, g3, g4, hlen, hd, hr, w7]); rfl) (fun hb => ?_) (fun hb => ?_) <;> (try simp only [hb0, decide_eq_true_eq, decide_eq_false_iff_not, simprocAttr] at hb) <;> (try (exfalso; omega))) | (refine hK _ _ ?_; clear hK; (try simp only [pst0, simprocAttr])))
      refine owp_useQ (hc _) (by (try simp only [Ty.w, simprocAttr, g1, g3, g4, hlen, hd, hr]); try rfl) ?_; simp (maxSteps := 2000000) only [Ty.w, simprocAttr, g1, g3, g4, hlen, hd, hr]
      repeat' (first | (refine a_regionS ?_; simp (maxSteps := 2000000) only [Ty.w, simprocAttr, g1, g3, g4, w7]) | (refine hK _ _ ?_; clear hK; (try simp only [pst0, simprocAttr])))
      exact ⟨kids.length - (k + 1), by omega, rfl, k + 1, by simp, by omega, rfl, by rw [hsz]⟩
    · have hd : decide ((k : Int) < (kids.length : Int)) = false := by simp; omega
      have hke : k = kids.length := by omega
      subst hke
      rw [List.take_length] at g3
      repeat' (first | (refine a_seq (fun K hK => ?_)) | ((first | refine a_regionS ?_ | refine a_ret ?_); simp (maxSteps := 2000000) only [Ty.w, simprocAttr, g1, g3, g4, hlen, hd]) | (refine a_exit ?_; (try simp only [pst0, simprocAttr])) | (refine a_cond _ (by (try simp (maxSteps := 2000000) only [Ty.w, simprocAttr, g1, g3, g4, hlen, hd]); rfl) (fun hb => ?_) (fun hb => ?_) <;> (try simp only [hb0, decide_eq_true_eq, decide_eq_false_iff_not, simprocAttr] at hb) <;> (try (exfalso; omega))) | ((first | refine hK _ _ ?_ | (clear hK; refine hK _ _ ?_)); clear hK; (try simp only [pst0, simprocAttr])))
theorem rsize_c : ∀ (f : Fm), f.ok → ∀ h : Heap, PCall Try.prog 24 [.agg f.cells] h fun r h' => r = .sc (.int .i64 f.size) ∧ h' = h := by
  refine Fm.ind ?_
  intro op name args params exprs kids ih hok h
  simp only [Fm.ok] at hok
  obtain ⟨_, _, _, _, ⟨he, hes⟩, hk, hks⟩ := hok
  rw [Ex.oks_iff] at hes
  rw [Fm.oks_iff] at hks
  have hlen := Fm.rows_len kids
  have hlene := Ex.rows_len exprs
  simp only [Fm.cells, Fm.size]
  refine pcall_body (ow := fun _ => false) (wf := fun _ => false) Ty.mixed Try.func24 rfl Ty.hb_24 (by rw [Try.ntmps24]; simp) ?_
  rw [Try.ntmps24, Try.results24]
  repeat' (first | (refine a_seq (fun K hK => ?_)) | (refine a_block ?_) | (refine a_regionS ?_; simp (maxSteps := 2000000) only [Ty.w, simprocAttr, hlen]) | (refine hK _ _ ?_; clear hK; (try simp only [pst0, simprocAttr])))
  refine a_loop (fun m S h' => h' = h ∧ S 1 = .cptr (Fm.mk op name args params exprs kids).cells ∧ ∃ k : Nat, S 4 = .sc (.int .i64 k) ∧ k ≤ exprs.length ∧ m = exprs.length - k ∧ S 3 = .sc (.int .i64 (Ex.sizes 1 (exprs.take k)))) exprs.length ?_ ?_
  · simp only [Ty.w, simprocAttr]
    exact ⟨rfl, 0, rfl, by omega, rfl, by simp [Ex.sizes]⟩
  · rintro m S h' ⟨rfl, g1, k, g4, hkl, rfl, g3⟩
    simp only [Fm.cells] at g1
    by_cases hlt : k < exprs.length
    · have hd : decide ((k : Int) < (exprs.length : Int)) = true := by simp; omega
      have w7 : IntKind.i64.wrap ((k : Int) + 1) = k + 1 := by unfold bigN at he; rw [wrap64 (by omega) (by omega)]
      obtain ⟨e, hx⟩ : ∃ e, exprs[k]? = some e := ⟨_, List.getElem?_eq_getElem hlt⟩
      have hmem := List.mem_of_getElem? hx
      have hc := rsizeE_c e (hes e hmem)
      have hsz := Ex.sizes_take 1 hx
      have hr := Ex.rows_get hx
      obtain ⟨op2, name2, n2, args2, kids2⟩ := e
      simp only [Ex.cells] at hr hc
      repeat' (first | (refine a_seq (fun K hK => ?_)) | (refine a_block ?_) | ((first | refine a_regionS ?_ | refine a_region (fun K hK => ?_)); simp (maxSteps := 2000000) only [Ty.w, simprocAttr, g1, g3, g4, hlene, hd, hr, w7]) | (refine a_skip ?_; (try simp only [pst0, simprocAttr])) | (refine a_cond _ (by (try simp (maxSteps := 2000000) only [Ty.w, simprocAttr, g1, g3, g4, hlene, hd, hr, w7]); rfl) (fun hb => ?_) (fun hb => ?_) <;> (try simp only [hb0, decide_eq_true_eq, decide_eq_false_iff_not, simprocAttr] at hb) <;> (try (exfalso; omega))) | (refine hK _ _ ?_; clear hK; (try simp only [pst0, simprocAttr])))
      refine owp_useQ (hc _) (by (try simp only [Ty.w, simprocAttr, g1, g3, g4, hlene, hd, hr]); try rfl) ?_; simp (maxSteps := 2000000) only [Ty.w, simprocAttr, g1, g3, g4, hlene, hd, hr]
      repeat' (first | (refine a_regionS ?_; simp (maxSteps := 2000000) only [Ty.w, simprocAttr, g1, g3, g4, w7]) | (refine hK _ _ ?_; clear hK; (try simp only [pst0, simprocAttr])))
      exact ⟨exprs.length - (k + 1), by omega, by simp only [Fm.cells], k + 1, by simp, by omega, rfl, by rw [hsz]⟩
    · have hd : decide ((k : Int) < (exprs.length : Int)) = false := by simp; omega
      have hke : k = exprs.length := by omega
      subst hke
      rw [List.take_length] at g3
      repeat' (first | (refine a_seq (fun K hK => ?_)) | (refine a_block ?_) | (refine a_regionS ?_; simp (maxSteps := 2000000) only [Ty.w, simprocAttr, g1, g3, g4, hlene, hd]) | (refine a_exit ?_; (try simp only [pst0, simprocAttr])) | (refine a_cond _ (by (try simp (maxSteps := 2000000) only [Ty.w, simprocAttr, g1, g3, g4, hlene, hd]); rfl) (fun hb => ?_) (fun hb => ?_) <;> (try simp only [hb0, decide_eq_true_eq, decide_eq_false_iff_not, simprocAttr] at hb) <;> (try (exfalso; omega))) | ((first | refine hK _ _ ?_ | (clear hK; refine hK _ _ ?_)); clear hK; (try simp only [pst0, simprocAttr])))
      refine a_loop (fun m S h2 => h2 = h' ∧ S 1 = .cptr (Fm.mk op name args params exprs kids).cells ∧ ∃ k : Nat, S 5 = .sc (.int .i64 k) ∧ k ≤ kids.length ∧ m = kids.length - k ∧ S 3 = .sc (.int .i64 (Fm.sizes (Ex.sizes 1 exprs) (kids.take k)))) kids.length ?_ ?_
      · simp only [Ty.w, simprocAttr, g1, g3]
        exact ⟨by simp only [Fm.cells], 0, rfl, by omega, rfl, by simp [Fm.sizes]⟩
      · clear g1 g3 g4
        rintro m S h' ⟨rfl, g1, k, g5, hkl, rfl, g3⟩
        simp only [Fm.cells] at g1
        by_cases hlt : k < kids.length
        · have hd : decide ((k : Int) < (kids.length : Int)) = true := by simp; omega
          have w7 : IntKind.i64.wrap ((k : Int) + 1) = k + 1 := by unfold bigN at hk; rw [wrap64 (by omega) (by omega)]
          obtain ⟨e, hx⟩ : ∃ e, kids[k]? = some e := ⟨_, List.getElem?_eq_getElem hlt⟩
          have hmem := List.mem_of_getElem? hx
          have hc := ih e hmem (hks e hmem)
          have hsz := Fm.sizes_take (Ex.sizes 1 exprs) hx
          have hr := Fm.rows_get hx
          obtain ⟨op2, name2, args2, params2, exprs2, kids2⟩ := e
          simp only [Fm.cells] at hr hc
          repeat' (first | (refine a_seq (fun K hK => ?_)) | (refine a_block ?_) | ((first | refine a_regionS ?_ | refine a_region (fun K hK => ?_)); simp (maxSteps := 2000000) only [Ty.w, simprocAttr, g1, g3, g5, hlen, hd, hr, w7]) | (refine a_skip ?_; (try simp only [pst0, simprocAttr])) | (refine a_cond _ (by (try simp (maxSteps := 2000000) only [Ty.w, simprocAttr, g1, g3, g5, hlen, hd, hr, w7]); rfl) (fun hb => ?_) (fun hb => ?_) <;> (try simp only [hb0, decide_eq_true_eq, decide_eq_false_iff_not, simprocAttr] at hb) <;> (try (exfalso; omega))) | (refine hK _ _ ?_; clear hK; (try simp only [pst0, simprocAttr])))
          refine owp_useQ (hc _) (by (try simp only [Ty.w, simprocAttr, g1, g3, g5, hlen, hd, hr]); try rfl) ?_; simp (maxSteps := 2000000) only [Ty.w, simprocAttr, g1, g3, g5, hlen, hd, hr]
          repeat' (first | (refine a_regionS ?_; simp (maxSteps := 2000000) only [Ty.w, simprocAttr, g1, g3, g5, w7]) | (refine hK _ _ ?_; clear hK; (try simp only [pst0, simprocAttr])))
          exact ⟨kids.length - (k + 1), by omega, by simp only [Fm.cells], k + 1, by simp, by omega, rfl, by rw [hsz]⟩
        · have hd : decide ((k : Int) < (kids.length : Int)) = false := by simp; omega
          have hke : k = kids.length := by omega
          subst hke
          rw [List.take_length] at g3
          repeat' (first | (refine a_seq (fun K hK => ?_)) | ((first | refine a_regionS ?_ | refine a_ret ?_); simp (maxSteps := 2000000) only [Ty.w, simprocAttr, g1, g3, g5, hlen, hd]) | (refine a_exit ?_; (try simp only [pst0, simprocAttr])) | (refine a_cond _ (by (try simp (maxSteps := 2000000) only [Ty.w, simprocAttr, g1, g3, g5, hlen, hd]); rfl) (fun hb => ?_) (fun hb => ?_) <;> (try simp only [hb0, decide_eq_true_eq, decide_eq_false_iff_not, simprocAttr] at hb) <;> (try (exfalso; omega))) | ((first | refine hK _ _ ?_ | (clear hK; refine hK _ _ ?_)); clear hK; (try simp only [pst0, simprocAttr])))
theorem fsizeE_c : ∀ (e : Ex), e.ok → ∀ h : Heap, PCall Try.prog 91 [.agg e.cells] h fun r h' => r = .sc (.int .i64 e.size) ∧ h' = h := by
  refine Ex.ind ?_
  intro op name n args kids ih hok h
  simp only [Ex.ok] at hok
  obtain ⟨_, _, _, _, hk, hks⟩ := hok
  rw [Ex.oks_iff] at hks
  have hlen := Ex.rows_len kids
  refine PCall.quiet Ty.hb_91 ?_
  simp only [Ex.cells, Ex.size]
  refine pcall_body (ow := fun _ => false) (wf := fun _ => false) Ty.mixed Try.func91 rfl Ty.hb_91 (by rw [Try.ntmps91]; simp) ?_
  rw [Try.ntmps91, Try.results91]
  repeat' (first | (refine a_seq (fun K hK => ?_)) | (refine a_block ?_) | (refine a_regionS ?_; simp (maxSteps := 2000000) only [Ty.w, simprocAttr, hlen]) | (refine hK _ _ ?_; clear hK; (try simp only [pst0, simprocAttr])))
  refine a_loop (fun m S h' => Grow h h' ∧ S 7 = .imm 5 (Ex.rows kids) ∧ S 8 = .sc (.int .i64 kids.length) ∧ ∃ k : Nat, S 9 = .sc (.int .i64 k) ∧ k ≤ kids.length ∧ m = kids.length - k ∧ S 3 = .sc (.int .i64 (Ex.sizes 1 (kids.take k)))) kids.length ?_ ?_
  · simp only [Ty.w, simprocAttr]
    exact ⟨Grow.refl _, 0, rfl, by omega, rfl, by simp [Ex.sizes]⟩
  · rintro m S h' ⟨hg, g7, g8, k, g9, hkl, rfl, g3⟩
    by_cases hlt : k < kids.length
    · have hd : decide ((k : Int) < (kids.length : Int)) = true := by simp; omega
      have w7 : IntKind.i64.wrap ((k : Int) + 1) = k + 1 := by unfold bigN at hk; rw [wrap64 (by omega) (by omega)]
      obtain ⟨e, hx⟩ : ∃ e, kids[k]? = some e := ⟨_, List.getElem?_eq_getElem hlt⟩
      have hmem := List.mem_of_getElem? hx
      have hc := ih e hmem (hks e hmem)
      have hsz := Ex.sizes_take 1 hx
      have hr := Ex.rows_get hx
      obtain ⟨op2, name2, n2, args2, kids2⟩ := e
      simp only [Ex.cells] at hr hc
      repeat' (first | (refine a_seq (fun K hK => ?_)) | ((first | refine a_regionS ?_ | refine a_region (fun K hK => ?_)); simp (maxSteps := 2000000) only [Ty.w, simprocAttr, g3, g7, g8, g9, hlen, hd, hr, w7]) | (refine a_skip ?_; (try simp only [pst0, simprocAttr])) | (refine a_cond _ (by (try simp (maxSteps := 2000000) only [Ty.w, simprocAttr, g3, g7, g8, g9, hlen, hd, hr, w7]); rfl) (fun hb => ?_) (fun hb => ?_) <;> (try simp only [hb0, decide_eq_true_eq, decide_eq_false_iff_not, simprocAttr] at hb) <;> (try (exfalso; omega))) | (refine hK _ _ ?_; clear hK; (try simp only [pst0, simprocAttr])))
      refine owp_useQ (hc _) (by (try simp only [Ty.w, simprocAttr, g3, g7, g8, g9, hlen, hd, hr]); try rfl) ?_; simp (maxSteps := 2000000) only [Ty.w, simprocAttr, g3, g7, g8, g9, hlen, hd, hr]
      repeat' (first | (refine a_regionS ?_; simp (maxSteps := 2000000) only [Ty.w, simprocAttr, g3, g7, g8, g9, w7]) | (refine hK _ _ ?_; clear hK; (try simp only [pst0, simprocAttr])))
      exact ⟨kids.length - (k + 1), by omega, (hg.new _).set hg.le _, k + 1, by simp, by omega, rfl, by rw [hsz]⟩
    · have hd : decide ((k : Int) < (kids.length : Int)) = false := by simp; omega
      have hke : k = kids.length := by omega
      subst hke
      rw [List.take_length] at g3
      repeat' (first | (refine a_seq (fun K hK => ?_)) | ((first | refine a_regionS ?_ | refine a_ret ?_); simp (maxSteps := 2000000) only [Ty.w, simprocAttr, g3, g7, g8, g9, hlen, hd]) | (refine a_exit ?_; (try simp only [pst0, simprocAttr])) | (refine a_cond _ (by (try simp (maxSteps := 2000000) only [Ty.w, simprocAttr, g3, g7, g8, g9, hlen, hd]); rfl) (fun hb => ?_) (fun hb => ?_) <;> (try simp only [hb0, decide_eq_true_eq, decide_eq_false_iff_not, simprocAttr] at hb) <;> (try (exfalso; omega))) | ((first | refine hK _ _ ?_ | (clear hK; refine hK _ _ ?_)); clear hK; (try simp only [pst0, simprocAttr])))
      exact hg
theorem fsize_c : ∀ (f : Fm), f.ok → ∀ h : Heap, PCall Try.prog 50 [.agg f.cells] h fun r h' => r = .sc (.int .i64 f.size) ∧ h' = h := by
  refine Fm.ind ?_
  intro op name args params exprs kids ih hok h
  simp only [Fm.ok] at hok
  obtain ⟨_, _, _, _, ⟨he, hes⟩, hk, hks⟩ := hok
  rw [Ex.oks_iff] at hes
  rw [Fm.oks_iff] at hks
  have hlen := Fm.rows_len kids
  have hlene := Ex.rows_len exprs
  refine PCall.quiet Ty.hb_50 ?_
  simp only [Fm.cells, Fm.size]
  refine pcall_body (ow := fun _ => false) (wf := fun _ => false) Ty.mixed Try.func50 rfl Ty.hb_50 (by rw [Try.ntmps50]; simp) ?_
  rw [Try.ntmps50, Try.results50]
  repeat' (first | (refine a_seq (fun K hK => ?_)) | (refine a_block ?_) | (refine a_regionS ?_; simp (maxSteps := 2000000) only [Ty.w, simprocAttr, hlene]) | (refine hK _ _ ?_; clear hK; (try simp only [pst0, simprocAttr])))
  refine a_loop (fun m S h' => Grow h h' ∧ S 1 = .cptr (Fm.mk op name args params exprs kids).cells ∧ S 9 = .imm 5 (Ex.rows exprs) ∧ S 10 = .sc (.int .i64 exprs.length) ∧ ∃ k : Nat, S 11 = .sc (.int .i64 k) ∧ k ≤ exprs.length ∧ m = exprs.length - k ∧ S 3 = .sc (.int .i64 (Ex.sizes 1 (exprs.take k)))) exprs.length ?_ ?_
  · simp only [Ty.w, simprocAttr]
    exact ⟨Grow.refl _, by simp only [Fm.cells], 0, rfl, by omega, rfl, by simp [Ex.sizes]⟩
  · rintro m S h' ⟨hg, g1, g7, g8, k, g9, hkl, rfl, g3⟩
    simp only [Fm.cells] at g1
    by_cases hlt : k < exprs.length
    · have hd : decide ((k : Int) < (exprs.length : Int)) = true := by simp; omega
      have w7 : IntKind.i64.wrap ((k : Int) + 1) = k + 1 := by unfold bigN at he; rw [wrap64 (by omega) (by omega)]
      obtain ⟨e, hx⟩ : ∃ e, exprs[k]? = some e := ⟨_, List.getElem?_eq_getElem hlt⟩
      have hmem := List.mem_of_getElem? hx
      have hc := fsizeE_c e (hes e hmem)
      have hsz := Ex.sizes_take 1 hx
      have hr := Ex.rows_get hx
      obtain ⟨op2, name2, n2, args2, kids2⟩ := e
      simp only [Ex.cells] at hr hc
      repeat' (first | (refine a_seq (fun K hK => ?_)) | ((first | refine a_regionS ?_ | refine a_region (fun K hK => ?_)); simp (maxSteps := 2000000) only [Ty.w, simprocAttr, g1, g3, g7, g8, g9, hlene, hd, hr, w7]) | (refine a_skip ?_; (try simp only [pst0, simprocAttr])) | (refine a_cond _ (by (try simp (maxSteps := 2000000) only [Ty.w, simprocAttr, g1, g3, g7, g8, g9, hlene, hd, hr, w7]); rfl) (fun hb => ?_) (fun hb => ?_) <;> (try simp only [hb0, decide_eq_true_eq, decide_eq_false_iff_not, simprocAttr] at hb) <;> (try (exfalso; omega))) | (refine hK _ _ ?_; clear hK; (try simp only [pst0, simprocAttr])))
      refine owp_useQ (hc _) (by (try simp only [Ty.w, simprocAttr, g1, g3, g7, g8, g9, hlene, hd, hr]); try rfl) ?_; simp (maxSteps := 2000000) only [Ty.w, simprocAttr, g1, g3, g7, g8, g9, hlene, hd, hr]
      repeat' (first | (refine a_regionS ?_; simp (maxSteps := 2000000) only [Ty.w, simprocAttr, g1, g3, g7, g8, g9, w7]) | (refine hK _ _ ?_; clear hK; (try simp only [pst0, simprocAttr])))
      exact ⟨exprs.length - (k + 1), by omega, (hg.new _).set hg.le _, by simp only [Fm.cells], k + 1, by simp, by omega, rfl, by rw [hsz]⟩
    · have hd : decide ((k : Int) < (exprs.length : Int)) = false := by simp; omega
      have hke : k = exprs.length := by omega
      subst hke
      rw [List.take_length] at g3
      repeat' (first | (refine a_seq (fun K hK => ?_)) | (refine a_block ?_) | (refine a_regionS ?_; simp (maxSteps := 2000000) only [Ty.w, simprocAttr, g1, g3, g7, g8, g9, hlene, hlen, hd]) | (refine a_exit ?_; (try simp only [pst0, simprocAttr])) | (refine a_cond _ (by (try simp (maxSteps := 2000000) only [Ty.w, simprocAttr, g1, g3, g7, g8, g9, hlene, hlen, hd]); rfl) (fun hb => ?_) (fun hb => ?_) <;> (try simp only [hb0, decide_eq_true_eq, decide_eq_false_iff_not, simprocAttr] at hb) <;> (try (exfalso; omega))) | ((first | refine hK _ _ ?_ | (clear hK; refine hK _ _ ?_)); clear hK; (try simp only [pst0, simprocAttr])))
      refine a_loop (fun m S h' => Grow h h' ∧ S 21 = .imm 6 (Fm.rows kids) ∧ S 22 = .sc (.int .i64 kids.length) ∧ ∃ k : Nat, S 23 = .sc (.int .i64 k) ∧ k ≤ kids.length ∧ m = kids.length - k ∧ S 3 = .sc (.int .i64 (Fm.sizes (Ex.sizes 1 exprs) (kids.take k)))) kids.length ?_ ?_
      · simp only [Ty.w, simprocAttr, g3]
        exact ⟨hg, 0, rfl, by omega, rfl, by simp [Fm.sizes]⟩
      · clear g1 g3 g7 g8 g9 hg
        rintro m S h' ⟨hg, g7, g8, k, g9, hkl, rfl, g3⟩
        by_cases hlt : k < kids.length
        · have hd : decide ((k : Int) < (kids.length : Int)) = true := by simp; omega
          have w7 : IntKind.i64.wrap ((k : Int) + 1) = k + 1 := by unfold bigN at hk; rw [wrap64 (by omega) (by omega)]
          obtain ⟨e, hx⟩ : ∃ e, kids[k]? = some e := ⟨_, List.getElem?_eq_getElem hlt⟩
          have hmem := List.mem_of_getElem? hx
          have hc := ih e hmem (hks e hmem)
          have hsz := Fm.sizes_take (Ex.sizes 1 exprs) hx
          have hr := Fm.rows_get hx
          obtain ⟨op2, name2, args2, params2, exprs2, kids2⟩ := e
          simp only [Fm.cells] at hr hc
          repeat' (first | (refine a_seq (fun K hK => ?_)) | ((first | refine a_regionS ?_ | refine a_region (fun K hK => ?_)); simp (maxSteps := 2000000) only [Ty.w, simprocAttr, g3, g7, g8, g9, hlen, hd, hr, w7]) | (refine a_skip ?_; (try simp only [pst0, simprocAttr])) | (refine a_cond _ (by (try simp (maxSteps := 2000000) only [Ty.w, simprocAttr, g3, g7, g8, g9, hlen, hd, hr, w7]); rfl) (fun hb => ?_) (fun hb => ?_) <;> (try simp only [hb0, decide_eq_true_eq, decide_eq_false_iff_not, simprocAttr] at hb) <;> (try (exfalso; omega))) | (refine hK _ _ ?_; clear hK; (try simp only [pst0, simprocAttr])))
          refine owp_useQ (hc _) (by (try simp only [Ty.w, simprocAttr, g3, g7, g8, g9, hlen, hd, hr]); try rfl) ?_; simp (maxSteps := 2000000) only [Ty.w, simprocAttr, g3, g7, g8, g9, hlen, hd, hr]
          repeat' (first | (refine a_regionS ?_; simp (maxSteps := 2000000) only [Ty.w, simprocAttr, g3, g7, g8, g9, w7]) | (refine hK _ _ ?_; clear hK; (try simp only [pst0, simprocAttr])))
          exact ⟨kids.length - (k + 1), by omega, (hg.new _).set hg.le _, k + 1, by simp, by omega, rfl, by rw [hsz]⟩
        · have hd : decide ((k : Int) < (kids.length : Int)) = false := by simp; omega
          have hke : k = kids.length := by omega
          subst hke
          rw [List.take_length] at g3
          repeat' (first | (refine a_seq (fun K hK => ?_)) | ((first | refine a_regionS ?_ | refine a_ret ?_); simp (maxSteps := 2000000) only [Ty.w, simprocAttr, g3, g7, g8, g9, hlen, hd]) | (refine a_exit ?_; (try simp only [pst0, simprocAttr])) | (refine a_cond _ (by (try simp (maxSteps := 2000000) only [Ty.w, simprocAttr, g3, g7, g8, g9, hlen, hd]); rfl) (fun hb => ?_) (fun hb => ?_) <;> (try simp only [hb0, decide_eq_true_eq, decide_eq_false_iff_not, simprocAttr] at hb) <;> (try (exfalso; omega))) | ((first | refine hK _ _ ?_ | (clear hK; refine hK _ _ ?_)); clear hK; (try simp only [pst0, simprocAttr])))
          exact hg
end Go.Proofs.Ytjlkapgpjamnkaa
namespace Go.AM
open Go.ChangeShapes Go.WideShapes
/-- the parts of a struct or an array: where each begins, and its type -/
def partsT (P : Program) (t : TypeId) : List (Nat × TypeId) := match P.underlying t with
  | some (.struct fs) => fs.toList.map fun f => (f.offset, f.type)
  | some (.array n e) => (List.range n).map fun i => (i * P.cellsOf e, e)
  | _ => []
/-- do the parts lie one behind the other, from o on to e? -/
def inRow (P : Program) (e : Nat) : Nat → List (Nat × TypeId) → Bool
  | o, [] => o == e
  | o, p :: l => p.1 == o && inRow P e (o + P.cellsOf p.2) l
/-- is the type made of bools, integers, strings, slices, structs and arrays? -/
def covB (P : Program) : Nat → TypeId → Bool
  | 0, _ => false
  | f + 1, t => match P.underlying t with
    | some .bool => true
    | some (.int _) => true
    | some .string => true
    | some (.slice e) => decide (0 < P.cellsOf e) && covB P f e
    | some (.struct _) => inRow P (P.cellsOf t) 0 (partsT P t) && (partsT P t).all fun p => covB P f p.2
    | some (.array _ _) => inRow P (P.cellsOf t) 0 (partsT P t) && (partsT P t).all fun p => covB P f p.2
    | _ => false
/-- the cells of a value of a type that came in -/
def Arg (P : Program) : Nat → TypeId → List PV → Prop
  | 0, _, _ => False
  | f + 1, t, ps => match P.underlying t with
    | some .bool => ∃ b, ps = [.sc (.bool b)]
    | some (.int k) => ∃ n, (Lit.int k n).wf = true ∧ ps = [.sc (.int k n)]
    | some .string => ∃ s : ByteArray, s.size ≤ reachBytes ∧ ps = [.sc (.string s)]
    | some (.slice e) => ∃ rows, ps = [.imm (P.cellsOf e) rows] ∧ rows.length * P.bytesOf e ≤ reachBytes ∧ rows.length ≤ maxLen ∧ ∀ r ∈ rows, r.length = P.cellsOf e ∧ Arg P f e r
    | some (.struct _) => ps.length = P.cellsOf t ∧ ∀ p ∈ partsT P t, Arg P f p.2 ((ps.drop p.1).take (P.cellsOf p.2))
    | some (.array _ _) => ps.length = P.cellsOf t ∧ ∀ p ∈ partsT P t, Arg P f p.2 ((ps.drop p.1).take (P.cellsOf p.2))
    | _ => False
section
variable {H : Type} {enc : TypeId × Value → H} {P : Program} {w : World} {sp : Nat → Bool} {held : Bool}
/-- the cells cs stand for ps, in any heap -/
def RA (w : World) (ps : List PV) (cs : List Value) : Prop := (∀ v ∈ cs, v.oneCell' = true) ∧ ∀ β n, RepL β n (fun b => b < w.heap.size) w ps cs
theorem RA.len {ps : List PV} {cs : List Value} (h : RA w ps cs) : ps.length = cs.length := (h.2 ⟨fun _ => ⟨none, 0, 0, 0⟩, fun _ => False⟩ 0).len
theorem RA.append {ps ps' : List PV} {cs cs' : List Value} (h : RA w ps cs) (k : RA w ps' cs') : RA w (ps ++ ps') (cs ++ cs') :=
  ⟨fun v hv => by exact (List.mem_append.1 hv).elim (h.1 v) (k.1 v), fun β n => (h.2 β n).append (k.2 β n)⟩
theorem inRow_le {e : Nat} : (l : List (Nat × TypeId)) → (o : Nat) → inRow P e o l = true → o ≤ e ∧ ∀ p ∈ l, o ≤ p.1 ∧ p.1 + P.cellsOf p.2 ≤ e
  | [], o, h => by simp [inRow] at h; simp [h]
  | p :: l, o, h => by
    simp only [inRow, Bool.and_eq_true, beq_iff_eq] at h
    obtain ⟨h1, h2⟩ := inRow_le l _ h.2
    refine ⟨by omega, fun q hq => ?_⟩
    rcases List.mem_cons.1 hq with rfl | hq
    · omega
    · have := h2 q hq; omega
theorem parts_rep {c : Nat} {cs : List Value} : (l : List (Nat × TypeId)) → (o : Nat) → inRow P cs.length o l = true →
    (∀ p ∈ l, ∃ ps, Arg P c p.2 ps ∧ RA w ps ((cs.drop p.1).take (P.cellsOf p.2))) →
    ∃ ps, RA w ps (cs.drop o) ∧ ∀ p ∈ l, Arg P c p.2 ((ps.drop (p.1 - o)).take (P.cellsOf p.2))
  | [], o, h, _ => by
    simp [inRow] at h
    refine ⟨[], ⟨?_, fun β n => ?_⟩, by simp⟩
    · rw [List.drop_of_length_le (by omega)]; simp
    · rw [List.drop_of_length_le (by omega)]; simp [RepL]
  | p :: l, o, h, hp => by
    have hle := (inRow_le (p :: l) o h).2 p (by simp)
    simp only [inRow, Bool.and_eq_true, beq_iff_eq] at h
    obtain ⟨ps, h1, h2⟩ := parts_rep l _ h.2 (fun q hq => hp q (by simp [hq]))
    obtain ⟨ps0, h3, h4⟩ := hp p (by simp)
    have hl2 := (inRow_le l _ h.2).2
    have e0 : p.1 = o := h.1
    have l0 : ps0.length = P.cellsOf p.2 := by rw [h4.len, List.length_take, List.length_drop]; omega
    refine ⟨ps0 ++ ps, ?_, fun q hq => ?_⟩
    · have : cs.drop o = (cs.drop p.1).take (P.cellsOf p.2) ++ cs.drop (o + P.cellsOf p.2) := by
        rw [e0, ← List.drop_drop, List.take_append_drop]
      rw [this]
      exact h4.append h1
    · rcases List.mem_cons.1 hq with rfl | hq
      · rw [e0, Nat.sub_self, List.drop_zero, List.take_append_of_le_length (by omega), List.take_of_length_le (by omega)]
        exact h3
      · have h5 := hl2 q hq
        have : q.1 - o = ps0.length + (q.1 - (o + P.cellsOf p.2)) := by omega
        rw [this, ← List.drop_drop, List.drop_left]
        exact h2 q hq
theorem exists_list {α : Type} {R : Nat → α → Prop} : (n : Nat) → (∀ i, i < n → ∃ x, R i x) → ∃ l : List α, l.length = n ∧ ∀ i x, l[i]? = some x → R i x
  | 0, _ => ⟨[], rfl, by simp⟩
  | n + 1, h => by
    obtain ⟨l, h1, h2⟩ := exists_list n (fun i hi => h i (by omega))
    obtain ⟨x, hx⟩ := h n (by omega)
    refine ⟨l ++ [x], by simp [h1], fun i y hy => ?_⟩
    rw [List.getElem?_append] at hy
    split at hy
    · exact h2 i y hy
    · rename_i hi
      have : i = n := by
        have := (List.getElem?_eq_some_iff.1 hy).1
        simp at this; omega
      subst this
      rw [h1] at hy
      simp at hy
      subst hy; exact hx
theorem weightsAll_mem {e : TypeId} {n : Nat} : {ds : List (DataW H)} → {i : Nat} → {d : DataW H} → ds[i]? = some d → n ∈ d.weights P e → n ∈ DataW.weightsAll P e ds
  | [], _, _, h, _ => by simp at h
  | d0 :: ds, 0, d, h, hn => by
    simp at h; subst h
    simp only [DataW.weightsAll, List.mem_append]; exact .inl hn
  | d0 :: ds, i + 1, d, h, hn => by
    simp at h
    simp only [DataW.weightsAll, List.mem_append]; exact .inr (weightsAll_mem h hn)
theorem sc_RA {v : Value} (h : v.oneCell' = true) : RA w [.sc v] [v] :=
  ⟨fun u hu => by simp at hu; subst hu; exact h, fun β n => by simp only [RepL, Rep]; exact ⟨trivial, trivial⟩⟩
end
end Go.AM
namespace Go.AM
open Go.ChangeShapes Go.WideShapes
section
variable {H : Type} {enc : TypeId × Value → H} {P : Program} {w : World} {sp : Nat → Bool} {held : Bool}
/-- are the types made of bools, integers, strings, slices, structs and arrays of them? -/
def covC (P : Program) (Ts : List TypeId) : Bool := Ts.all fun t => match P.underlying t with
  | some .bool => true
  | some (.int _) => true
  | some .string => true
  | some (.slice e) => decide (0 < P.cellsOf e) && Ts.contains e
  | some (.struct _) => inRow P (P.cellsOf t) 0 (partsT P t) && (partsT P t).all fun p => Ts.contains p.2
  | some (.array _ _) => inRow P (P.cellsOf t) 0 (partsT P t) && (partsT P t).all fun p => Ts.contains p.2
  | _ => false
theorem arg_rec {Ts : List TypeId} (hT : covC P Ts = true) : ∀ (fuel : Nat) (t : TypeId), Ts.contains t = true → ∀ (cs : List Value) (x : DataW H × List MemPlace), DataW.trod enc P w 0 sp held fuel t cs = some x → (∀ n ∈ x.1.weights P t, n ≤ reachBytes) →
    ∃ ps, Arg P fuel t ps ∧ RA w ps cs
  | 0, _, _, _, _, hx, _ => by simp [DataW.trod] at hx
  | c + 1, t, ht, cs, x, hx, hw => by
    have h := List.all_eq_true.1 hT t (by simpa using ht)
    split at h
    · rename_i hu
      obtain ⟨b, rfl, rfl⟩ := DataW.trod_bool hu hx
      refine ⟨[.sc (.bool b)], ?_, sc_RA rfl⟩
      unfold Arg; rw [hu]; exact ⟨b, rfl⟩
    · rename_i k hu
      obtain ⟨n, rfl, rfl, hwf⟩ := DataW.trod_int hu hx
      refine ⟨[.sc (.int k n)], ?_, sc_RA rfl⟩
      unfold Arg; rw [hu]; exact ⟨n, hwf, rfl⟩
    · rename_i hu
      obtain ⟨s, rfl, rfl, hs⟩ := DataW.trod_string hu hx
      refine ⟨[.sc (.string s)], ?_, sc_RA rfl⟩
      unfold Arg; rw [hu]
      refine ⟨s, ?_, rfl⟩
      have := hw s.data.toList.length (by simp [DataW.weights])
      simpa using this
    · rename_i e hu
      simp only [Bool.and_eq_true, decide_eq_true_eq] at h
      obtain ⟨hpos, hcov⟩ := h
      rcases DataW.trod_slice hu hx with ⟨rfl, rfl⟩ | ⟨a, len, cap, elems, rest, n, hfu, rfl, rfl, hb, hl, hm, hlen, hel, hsp, hns⟩
      · refine ⟨[.imm (P.cellsOf e) []], ?_, fun v hv => ?_, fun β n => ?_⟩
        · unfold Arg; rw [hu]; exact ⟨[], rfl, by simp, by simp, by simp⟩
        · simp at hv; subst hv; rfl
        · simp only [RepL, Rep]
          exact ⟨⟨none, 0, rfl, Nat.le_refl _, Nat.zero_le _, .inl (by trivial)⟩, trivial⟩
      · obtain rfl : c = n := by omega
        have each : ∀ i, i < len → ∃ r : List PV, (r.length = P.cellsOf e ∧ Arg P c e r) ∧ ∃ ci, RA w r ci ∧ ci.length = P.cellsOf e ∧ ∀ j, j < P.cellsOf e → w.cell? ((a.add (i * P.cellsOf e)).add j) = ci[j]? := by
          intro i hi
          have h1 := hel i hi
          have h2 : elems[i]? = some (elems[i]'(by omega)) := List.getElem?_eq_getElem _
          rw [h2, Option.bind_eq_some_iff] at h1
          obtain ⟨ci, h3, h4⟩ := h1
          obtain ⟨_, h5, h6⟩ := World.cells?_some h3
          obtain ⟨r, h7, h8⟩ := arg_rec hT c e hcov ci _ h4 (fun m hm => hw m (by
            simp only [DataW.weights, hu, List.mem_cons, List.mem_append]
            exact .inr (.inl (weightsAll_mem (i := i) (by rw [List.getElem?_map, h2]; try rfl) hm))))
          exact ⟨r, ⟨by rw [h8.len, h5], h7⟩, ci, h8, h5, h6⟩
        obtain ⟨rows, hrl, hrows⟩ := exists_list len each
        refine ⟨[.imm (P.cellsOf e) rows], ?_, fun v hv => ?_, fun β m => ?_⟩
        · unfold Arg; rw [hu]
          refine ⟨rows, rfl, ?_, by omega, fun r hr => ?_⟩
          · have := hw ((elems.map (·.1)).length * P.bytesOf e + (rest.map (·.1)).length * P.bytesOf e) (by
              simp only [DataW.weights, hu, List.mem_cons, Nat.add_mul, true_or])
            have h9 : rows.length = (elems.map (·.1)).length := by simp [hrl, hlen]
            rw [h9]
            exact Nat.le_trans (Nat.le_add_right _ _) this
          · obtain ⟨i, hi⟩ := List.getElem?_of_mem hr
            exact (hrows i r hi).1
        · simp at hv; subst hv; rfl
        · simp only [RepL, Rep]
          refine ⟨⟨some a, cap, by rw [hrl], by omega, hm, ?_⟩, trivial⟩
          by_cases h0 : len = 0
          · left; exact List.length_eq_zero_iff.1 (by omega)
          · right
            obtain ⟨_, _, c0, _, hc0, hcell0⟩ := each 0 (by omega)
            have h10 := hcell0 0 hpos
            rw [List.getElem?_eq_getElem (by omega)] at h10
            simp only [Nat.zero_mul, Addr.add, if_true] at h10
            have hs : a.spot = none := by
              unfold World.cell? at h10
              split at h10
              · split at h10
                · simp at h10
                · rename_i hsp; simpa using hsp
              · simp at h10
            have hblk : a.block < w.heap.size := by
              unfold World.cell? at h10
              split at h10
              · rename_i hh; exact (Array.getElem?_eq_some_iff.1 hh).1
              · simp at h10
            refine ⟨a.block, a.off, hblk, by cases a; simp only at hs; subst hs; rfl, ?_⟩
            rw [RepR_iff]
            intro i r hr
            obtain ⟨⟨g1, _⟩, ci, g2, g3, g4⟩ := hrows i r hr
            refine ⟨g1, ?_⟩
            rw [RepS_iff]
            intro j p hp
            obtain ⟨v, hv, hrep⟩ := (g2.2 β m).get hp
            have hj : j < P.cellsOf e := by rw [← g3]; exact (List.getElem?_eq_some_iff.1 hv).1
            refine ⟨v, ?_, g2.1 v (List.mem_of_getElem? hv), hrep⟩
            rw [← hv, ← g4 j hj]
            congr 1
            cases a
            simp only at hs; subst hs
            simp only [Addr.add]
            split <;> split <;> simp_all <;> omega
    · rename_i fs hu
      simp only [Bool.and_eq_true, List.all_eq_true] at h
      obtain ⟨xs, n, hfu, rfl, hcl, hxl, hp⟩ := DataW.trod_struct hu hx
      obtain rfl : c = n := by omega
      have hpt : partsT P t = fs.toList.map fun f => (f.offset, f.type) := by unfold partsT; rw [hu]
      obtain ⟨ps, h1, h2⟩ := parts_rep (w := w) (c := c) (cs := cs) (partsT P t) 0 (by rw [hcl]; exact h.1) (fun p hpm => by
        have hcv := h.2 p hpm
        rw [hpt] at hpm
        obtain ⟨i, hi⟩ := List.getElem?_of_mem hpm
        rw [List.getElem?_map, Option.map_eq_some_iff] at hi
        obtain ⟨f, hf, rfl⟩ := hi
        have hf' : fs[i]? = some f := by simpa using hf
        have hi' : i < xs.length := by
          rw [hxl]
          exact (Array.getElem?_eq_some_iff.1 hf').1
        have h3 := hp i f hf'
        rw [List.getElem?_eq_getElem hi'] at h3
        exact arg_rec hT c f.type hcv _ _ h3 (fun m hm => hw m (by
          simp only [DataW.weights, hu]
          exact DataW.weights_mem_each (j := i) (t := f.type) (d := xs[i].1) (by rw [List.getElem?_map, hf]; try rfl) (by rw [List.getElem?_map, List.getElem?_eq_getElem hi']; try rfl) m hm)))
      refine ⟨ps, ?_, by simpa using h1⟩
      unfold Arg; rw [hu]
      exact ⟨by rw [h1.len, List.drop_zero, hcl], fun p hpm => by simpa using h2 p hpm⟩
    · rename_i k e hu
      simp only [Bool.and_eq_true, List.all_eq_true] at h
      obtain ⟨xs, n, hfu, rfl, hcl, hxl, hp⟩ := DataW.trod_array hu hx
      obtain rfl : c = n := by omega
      have hpt : partsT P t = (List.range k).map fun i => (i * P.cellsOf e, e) := by unfold partsT; rw [hu]
      obtain ⟨ps, h1, h2⟩ := parts_rep (w := w) (c := c) (cs := cs) (partsT P t) 0 (by rw [hcl]; exact h.1) (fun p hpm => by
        have hcv := h.2 p hpm
        rw [hpt] at hpm
        obtain ⟨i, hi, rfl⟩ := List.mem_map.1 hpm
        have hi' : i < xs.length := by rw [hxl]; simpa using hi
        have h3 := hp i (by simpa using hi)
        rw [List.getElem?_eq_getElem hi'] at h3
        exact arg_rec hT c e hcv _ _ h3 (fun m hm => hw m (by
          simp only [DataW.weights, hu]
          exact weightsAll_mem (i := i) (d := xs[i].1) (by rw [List.getElem?_map, List.getElem?_eq_getElem hi']; try rfl) hm)))
      refine ⟨ps, ?_, by simpa using h1⟩
      unfold Arg; rw [hu]
      exact ⟨by rw [h1.len, List.drop_zero, hcl], fun p hpm => by simpa using h2 p hpm⟩
    · simp at h
theorem arg_valueC {Ts : List TypeId} (hT : covC P Ts = true) {t : TypeId} (ht : Ts.contains t = true) {fs : Array Field} (hu : P.underlying t = some (.struct fs)) {v : Value} {d : DataW H} {pl : List MemPlace}
    (h : DataW.Trod enc P w 0 sp held t v d pl) (hv : ∃ base, Value.okWide P w .any base t v) (hw : ∀ n ∈ d.weights P t, n ≤ reachBytes) :
    ∃ c ps, Arg P c t ps ∧ ∀ β n, Rep β n (fun b => b < w.heap.size) w (.agg ps) v := by
  obtain ⟨fuel, hf⟩ := h
  obtain ⟨ps, h1, h2⟩ := arg_rec hT fuel t ht _ _ hf hw
  obtain ⟨base, hv⟩ := hv
  unfold Value.okWide at hv
  simp only [hu] at hv
  obtain ⟨cs, rfl, _⟩ := hv
  refine ⟨fuel, ps, h1, fun β n => ?_⟩
  simp only [Rep]
  exact ⟨cs.toList, by simp, h2.1, h2.2 β n⟩
end
end Go.AM
namespace Go.AM
open Go.ChangeShapes Go.WideShapes
section
variable {P : Program} {c : Nat} {t e : TypeId} {ps : List PV} {a : PV}
theorem Arg_int {k : IntKind} (hu : P.underlying t = some (.int k)) (h : Arg P (c + 1) t ps) : ∃ n, (Lit.int k n).wf = true ∧ ps = [.sc (.int k n)] := by
  unfold Arg at h; rw [hu] at h; exact h
theorem Arg_slice (hu : P.underlying t = some (.slice e)) (h : Arg P (c + 1) t ps) : ∃ rows, ps = [.imm (P.cellsOf e) rows] ∧ rows.length * P.bytesOf e ≤ reachBytes ∧ rows.length ≤ maxLen ∧ ∀ r ∈ rows, r.length = P.cellsOf e ∧ Arg P c e r := by
  unfold Arg at h; rw [hu] at h; exact h
theorem Arg_struct {fs : Array Field} (hu : P.underlying t = some (.struct fs)) (h : Arg P (c + 1) t ps) : ps.length = P.cellsOf t ∧ ∀ p ∈ partsT P t, Arg P c p.2 ((ps.drop p.1).take (P.cellsOf p.2)) := by
  unfold Arg at h; rw [hu] at h; exact h
theorem rows_map {α : Type} {Q : α → Prop} {f : α → List PV} : (rows : List (List PV)) → (∀ r ∈ rows, ∃ x, Q x ∧ r = f x) → ∃ xs : List α, rows = xs.map f ∧ ∀ x ∈ xs, Q x
  | [], _ => ⟨[], rfl, by simp⟩
  | r :: rows, h => by
    obtain ⟨xs, h1, h2⟩ := rows_map rows (fun q hq => h q (by simp [hq]))
    obtain ⟨x, h3, h4⟩ := h r (by simp)
    refine ⟨x :: xs, by simp [h1, h4], fun y hy => ?_⟩
    rcases List.mem_cons.1 hy with rfl | hy
    · exact h3
    · exact h2 y hy
theorem i64_in {n : Int} (h : (Lit.int .i64 n).wf = true) : -9223372036854775808 ≤ n ∧ n ≤ 9223372036854775807 := by
  simp [Lit.wf, IntKind.min, IntKind.max, IntKind.bits, IntKind.signed] at h
  omega
end
end Go.AM
namespace Go.Proofs.Ytjlkapgpjamnkaa
open Go.AM
set_option maxHeartbeats 1000000
set_option maxRecDepth 20000
def recTs : List TypeId := [41, 3, 9, 39]
theorem partsSx : partsT Try.prog 41 = [(0, 3), (1, 3), (2, 3), (3, 3), (4, 9), (5, 39)] := by kernel_rfl
theorem coStr : Try.prog.cellsOf 9 = 1 := by kernel_rfl
theorem coInt : Try.prog.cellsOf 3 = 1 := by kernel_rfl
theorem coSxs : Try.prog.cellsOf 39 = 1 := by kernel_rfl
theorem coSx : Try.prog.cellsOf 41 = 6 := by kernel_rfl
theorem bySx : Try.prog.bytesOf 41 = 72 := by kernel_rfl
theorem arg_sx : ∀ (c : Nat) {ps : List PV}, Arg Try.prog c 41 ps → ∃ x : Sx, x.ok ∧ ps = x.cells := by
  have str : ∀ {c : Nat} {ps : List PV}, Arg Try.prog c 9 ps → ∃ s : ByteArray, s.size ≤ bigN ∧ ps = [sPV s] := by
    intro c ps h
    cases c with
    | zero => simp [Arg] at h
    | succ c =>
      unfold Arg at h
      rw [Try.underlying9] at h
      obtain ⟨s, h1, h2⟩ := h
      exact ⟨s, by unfold reachBytes at h1; unfold bigN; omega, h2⟩
  have int : ∀ {c : Nat} {ps : List PV}, Arg Try.prog c 3 ps → ∃ n : Int, (-9223372036854775808 ≤ n ∧ n ≤ 9223372036854775807) ∧ ps = [.sc (.int .i64 n)] := by
    intro c ps h
    cases c with
    | zero => simp [Arg] at h
    | succ c =>
      obtain ⟨n, h1, h2⟩ := Arg_int Try.underlying3 h
      exact ⟨n, i64_in h1, h2⟩
  intro c
  induction c using Nat.strongRecOn with
  | _ c ih =>
    intro ps h
    cases c with
    | zero => simp [Arg] at h
    | succ c =>
      obtain ⟨h1, h2⟩ := Arg_struct Try.underlying41 h
      rw [coSx] at h1
      rw [partsSx] at h2
      match ps, h1, h2 with
      | [p0, p1, p2, p3, p4, p5], _, h2 =>
        have a0 := h2 (0, 3) (by simp)
        have a1 := h2 (1, 3) (by simp)
        have a2 := h2 (2, 3) (by simp)
        have a3 := h2 (3, 3) (by simp)
        have a4 := h2 (4, 9) (by simp)
        have a5 := h2 (5, 39) (by simp)
        simp only [coStr, coInt, coSxs, List.drop_zero, List.drop_succ_cons, List.take_succ_cons, List.take_zero] at a0 a1 a2 a3 a4 a5
        obtain ⟨kind, hk, e0⟩ := int a0
        obtain ⟨value, hv, e1⟩ := int a1
        obtain ⟨line, _, e2⟩ := int a2
        obtain ⟨col, _, e3⟩ := int a3
        obtain ⟨text, ht, e4⟩ := str a4
        cases c with
        | zero => simp [Arg] at a5
        | succ c =>
          obtain ⟨rows, e5, h3, _, h4⟩ := Arg_slice Try.underlying39 a5
          obtain ⟨xs, rfl, h5⟩ := rows_map (Q := Sx.ok) (f := Sx.cells) rows (fun r hr => ih c (by omega) (h4 r hr).2)
          rw [coSx] at e5
          simp at e0 e1 e2 e3 e4 e5
          refine ⟨.mk kind value line col text xs, ?_, ?_⟩
          · simp only [Sx.ok]
            refine ⟨hk, hv, ht, ?_, Sx.oks_iff.2 h5⟩
            rw [bySx, List.length_map] at h3
            unfold reachBytes at h3; unfold bigN; omega
          · simp only [Sx.cells, e0, e1, e2, e3, e4, e5, Sx.rows_map]
end Go.Proofs.Ytjlkapgpjamnkaa
namespace Go.Proofs.Ytjlkapgpjamnkaa
open Go.AM
set_option maxHeartbeats 4000000
set_option maxRecDepth 20000
theorem formulaReturns_c {x : Sx} (hok : x.ok) : PCall Try.prog 11 [.agg x.cells] Heap.nil fun r _ => r = .sc (.bool true) := by
  have hcnt := rcount_c x hok
  have hP := fun h : Heap => Parse_c hok h
  have hfo := parseF_ok hok
  have hpv := parseF_valid (x := x)
  have hpe := parseF_err (x := x)
  generalize x.count = n at hcnt
  generalize parseF x = F at hP hfo hpv hpe
  obtain ⟨f, c⟩ := F
  simp only at hP hfo hpv hpe
  obtain ⟨kind, value, line, col, text, kids⟩ := x
  simp only [Sx.cells] at hcnt hP ⊢
  refine pcall_body (ow := fun _ => false) (wf := fun _ => false) Ty.mixed Try.func11 rfl Ty.hb_11 (by rw [Try.ntmps11]; simp) ?_
  rw [Try.ntmps11, Try.results11]
  cases l1 : decide (n > 5000) with
  | true =>
    repeat' (first | (refine a_seq (fun K hK => ?_)) | (refine a_regionS ?_; simp (maxSteps := 2000000) only [Ty.w, simprocAttr]) | (refine hK _ _ ?_; clear hK; (try simp only [pst0, simprocAttr])))
    refine owp_useQ (hcnt _) (by (try simp only [Ty.w, simprocAttr, l1]); try rfl) ?_; simp (maxSteps := 2000000) only [Ty.w, simprocAttr, l1]
    repeat' (first | (refine a_seq (fun K hK => ?_)) | (refine a_regionS ?_; simp (maxSteps := 2000000) only [Ty.w, simprocAttr, l1]) | (refine hK _ _ ?_; clear hK; (try simp only [pst0, simprocAttr])))
    refine owp_useQ (awake_c) (by (try simp only [Ty.w, simprocAttr, ]); try rfl) ?_; simp (maxSteps := 2000000) only [Ty.w, simprocAttr, ]
    repeat' (first | (refine a_ret ?_; simp (maxSteps := 2000000) only [Ty.w, simprocAttr]) | (refine hK _ _ ?_; clear hK; (try simp only [pst0, simprocAttr])))
  | false =>
    cases hc : c == 0 with
    | false =>
      have hz := hpe hc
      subst hz
      have e0 : errP c = errV c := by simp only [errP, hc, cond_false]
      rw [e0] at hP
      simp only [errV, zeroFm, Fm.cells] at hP
      repeat' (first | (refine a_seq (fun K hK => ?_)) | (refine a_regionS ?_; simp (maxSteps := 2000000) only [Ty.w, simprocAttr]) | (refine hK _ _ ?_; clear hK; (try simp only [pst0, simprocAttr])))
      refine owp_useQ (hcnt _) (by (try simp only [Ty.w, simprocAttr, l1]); try rfl) ?_; simp (maxSteps := 2000000) only [Ty.w, simprocAttr, l1]
      skip
      refine owp_useQ (awake_c) (by (try simp only [Ty.w, simprocAttr, ]); try rfl) ?_; simp (maxSteps := 2000000) only [Ty.w, simprocAttr, ]
      repeat' (first | (refine a_seq (fun K hK => ?_)) | (refine a_regionS ?_; simp (maxSteps := 2000000) only [Ty.w, simprocAttr, l1, Bool.not_true]) | (refine a_skip ?_; (try simp only [pst0, simprocAttr])) | (refine a_cond _ (by (try simp (maxSteps := 2000000) only [Ty.w, simprocAttr, l1, Bool.not_true]); rfl) (fun hb => ?_) (fun hb => ?_) <;> (try simp only [hb0, decide_eq_true_eq, decide_eq_false_iff_not, simprocAttr] at hb) <;> (try (exfalso; omega))) | (refine hK _ _ ?_; clear hK; (try simp only [pst0, simprocAttr])))
      refine owp_useQ (hP _) (by (try simp only [Ty.w, simprocAttr, ]); try rfl) ?_; simp (maxSteps := 2000000) only [Ty.w, simprocAttr, ]
      repeat' (first | (refine a_seq (fun K hK => ?_)) | ((first | refine a_regionS ?_ | refine a_ret ?_); simp (maxSteps := 2000000) only [Ty.w, simprocAttr]) | (refine hK _ _ ?_; clear hK; (try simp only [pst0, simprocAttr])))
      all_goals rfl
    | true =>
      have hv := hpv (by simpa using hc)
      have e0 : errP c = .sc .nilIface := by simp only [errP, hc, cond_true]
      rw [e0] at hP
      have hsh := validF_shaped hv
      have hW := fun h : Heap => fWrite_c hfo.1 hfo.2 h
      simp only [hv, if_true] at hW
      have hwo := fmW_ok f hfo.1 hfo.2 hsh
      have hP2 := fun h : Heap => Parse_c hwo h
      rw [parseF_fmW hv] at hP2
      have hV := fun h : Heap => fvalid_c hfo.1 hfo.2 h
      rw [hv] at hV
      have hS := fsame_c f hfo.1 f hfo.1
      rw [Fm.same_refl] at hS
      have hZ := fsize_c f hfo.1
      obtain ⟨hz1, hz2, hz3⟩ := validF_size hv
      have hge : decide (f.size ≥ 1) = true := by rw [hz1]; simp; omega
      generalize f.size = sz at hZ hge
      have e2 : errP 0 = .sc .nilIface := rfl
      simp only [e2] at hP2
      generalize fmW f = X at hW hP2
      clear hwo hsh hv hpv hpe hfo
      obtain ⟨fop, fna, far, fpa, fex, fki⟩ := f
      obtain ⟨k2, v2, li2, co2, te2, ks2⟩ := X
      simp only [Fm.cells, Sx.cells] at hP hW hP2 hV hS hZ
      repeat' (first | (refine a_seq (fun K hK => ?_)) | (refine a_regionS ?_; simp (maxSteps := 2000000) only [Ty.w, simprocAttr]) | (refine hK _ _ ?_; clear hK; (try simp only [pst0, simprocAttr])))
      refine owp_useQ (hcnt _) (by (try simp only [Ty.w, simprocAttr, l1]); try rfl) ?_; simp (maxSteps := 2000000) only [Ty.w, simprocAttr, l1]
      skip
      refine owp_useQ (awake_c) (by (try simp only [Ty.w, simprocAttr, ]); try rfl) ?_; simp (maxSteps := 2000000) only [Ty.w, simprocAttr, ]
      repeat' (first | (refine a_seq (fun K hK => ?_)) | (refine a_regionS ?_; simp (maxSteps := 2000000) only [Ty.w, simprocAttr, l1, Bool.not_true]) | (refine a_skip ?_; (try simp only [pst0, simprocAttr])) | (refine a_cond _ (by (try simp (maxSteps := 2000000) only [Ty.w, simprocAttr, l1, Bool.not_true]); rfl) (fun hb => ?_) (fun hb => ?_) <;> (try simp only [hb0, decide_eq_true_eq, decide_eq_false_iff_not, simprocAttr] at hb) <;> (try (exfalso; omega))) | (refine hK _ _ ?_; clear hK; (try simp only [pst0, simprocAttr])))
      refine owp_useQ (hP _) (by (try simp only [Ty.w, simprocAttr, ]); try rfl) ?_; simp (maxSteps := 2000000) only [Ty.w, simprocAttr, ]
      repeat' (first | (refine a_seq (fun K hK => ?_)) | (refine a_regionS ?_; simp (maxSteps := 2000000) only [Ty.w, simprocAttr, nsucc]) | (refine a_skip ?_; (try simp only [pst0, simprocAttr])) | (refine a_cond _ (by (try simp (maxSteps := 2000000) only [Ty.w, simprocAttr, nsucc]); rfl) (fun hb => ?_) (fun hb => ?_) <;> (try simp only [hb0, decide_eq_true_eq, decide_eq_false_iff_not, simprocAttr] at hb) <;> (try (exfalso; omega))) | (refine hK _ _ ?_; clear hK; (try simp only [pst0, simprocAttr])))
      refine owp_useQ (hW _) (by (try simp only [Ty.w, simprocAttr, nsucc]); try rfl) ?_; simp (maxSteps := 2000000) only [Ty.w, simprocAttr, nsucc]
      repeat' (first | (refine a_seq (fun K hK => ?_)) | (refine a_regionS ?_; simp (maxSteps := 2000000) only [Ty.w, simprocAttr, nsucc]) | (refine hK _ _ ?_; clear hK; (try simp only [pst0, simprocAttr])))
      refine owp_useQ (hP2 _) (by (try simp only [Ty.w, simprocAttr, nsucc]); try rfl) ?_; simp (maxSteps := 2000000) only [Ty.w, simprocAttr, nsucc]
      repeat' (first | (refine a_seq (fun K hK => ?_)) | (refine a_regionS ?_; simp (maxSteps := 2000000) only [Ty.w, simprocAttr, nsucc]) | (refine hK _ _ ?_; clear hK; (try simp only [pst0, simprocAttr])))
      refine owp_useQ (hV _) (by (try simp only [Ty.w, simprocAttr, nsucc]); try rfl) ?_; simp (maxSteps := 2000000) only [Ty.w, simprocAttr, nsucc]
      skip
      refine owp_useQ (hS _) (by (try simp only [Ty.w, simprocAttr, nsucc]); try rfl) ?_; simp (maxSteps := 2000000) only [Ty.w, simprocAttr, nsucc]
      skip
      refine owp_useQ (hZ _) (by (try simp only [Ty.w, simprocAttr, nsucc]); try rfl) ?_; simp (maxSteps := 2000000) only [Ty.w, simprocAttr, nsucc]
      repeat' (first | (refine a_ret ?_; simp (maxSteps := 2000000) only [Ty.w, simprocAttr, nsucc, hge]) | (refine hK _ _ ?_; clear hK; (try simp only [pst0, simprocAttr])))
end Go.Proofs.Ytjlkapgpjamnkaa
