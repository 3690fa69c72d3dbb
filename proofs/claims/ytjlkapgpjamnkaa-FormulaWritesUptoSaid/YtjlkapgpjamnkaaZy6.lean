/- What the claim rests on, part 6: the abstract machine, contracts of the functions, plain data. -/
import Derived.OpenShut
import Derived.ChangeShapes
import Derived.SizedLaws
import Derived.Test.YtjlkapgpjamnkaaRows
import Derived.Test.YtjlkapgpjamnkaaZy5
set_option linter.unusedVariables false
set_option linter.unusedSimpArgs false
set_option linter.unusedSectionVars false
namespace Go.Proofs.Ytjlkapgpjamnkaa
open Go.AM
set_option maxHeartbeats 16000000
set_option maxRecDepth 20000
theorem ne_of_eq {a x y : List UInt8} (h : (a == x) = true) (h2 : (x == y) = false) : (a == y) = false := by rw [eq_of_beq h]; exact h2
def headOk (op name : ByteArray) (args : List ByteArray) (np ne nk : Nat) : Bool :=
 match shapeOf op nk with
 | none => false
 | some (e, m, q) => termsOk op name args && decide (ne = e) && decide (nk = m) && (decide (np = 0) || q)
theorem partsOk_head (op name : ByteArray) (args : List ByteArray) (params : List Pm) (ne nk : Nat) : partsOk op name args params ne nk = (headOk op name args params.length ne nk && params.all pmOk) := by
 unfold partsOk headOk
 have e1 : params.isEmpty = decide (params.length = 0) := by cases params <;> simp
 cases shapeOf op nk with
 | none => rfl
 | some p => obtain ⟨e, m, q⟩ := p; simp only [e1]
theorem drop_get {α : Type} {l : List α} {k : Nat} {x : α} (h : l[k]? = some x) : l.drop k = x :: l.drop (k + 1) := by
 obtain ⟨h1, h2⟩ := List.getElem?_eq_some_iff.1 h
 rw [List.drop_eq_getElem_cons h1, h2]
theorem formedMs_le : ∀ (l : List Ex) (d n : Nat), n ≤ 4096 → (formedMs l d n).1 = true → (formedMs l d n).2 ≤ 4096
 | [], d, n, hn => by simp [formedMs, hn]
 | e :: l, d, n, hn => by
  unfold formedMs
  have h1 := formedM_le e d n
  split
  ·rename_i c he
   rw [he] at h1
   exact formedMs_le l d c (h1 rfl)
  ·simp
mutual
theorem shapedM_le : ∀ (f : Fm) (d n : Nat), (shapedM f d n).1 = true → (shapedM f d n).2 ≤ 4096
 | .mk op name args params exprs kids, d, n => by
  unfold shapedM
  split
  ·rename_i hc
   split
   ·have h1 := formedMs_le exprs (d + 1) (n + 1) hc.1
    split
    ·rename_i c he
     rw [he] at h1
     exact shapedMs_le kids (d + 1) c (h1 rfl)
    ·simp
   ·simp
  ·simp
theorem shapedMs_le : ∀ (l : List Fm) (d n : Nat), n ≤ 4096 → (shapedMs l d n).1 = true → (shapedMs l d n).2 ≤ 4096
 | [], d, n, hn => by simp [shapedMs, hn]
 | k :: l, d, n, hn => by
  unfold shapedMs
  have h1 := shapedM_le k d n
  split
  ·rename_i c he
   rw [he] at h1
   exact shapedMs_le l d c (h1 rfl)
  ·simp
end
theorem shaped_c : ∀ f : Fm, f.ok → ∀ (d n : Nat), d ≤ 33 → n ≤ 4096 → ∀ (id : Nat) (h : Heap), h.obj id = some (cntO n) →
  PCall Try.prog 63 [.agg f.cells, .sc (.int .i64 d), .ptr id 0 0] h fun r h' => r = .sc (.bool (shapedM f d n).1) ∧ h' = h.set id (cntO (shapedM f d n).2) := by
 refine Fm.ind ?_
 intro op name args params exprs kids ih hok d n hd hn id h ho
 simp only [Fm.ok] at hok
 obtain ⟨_, hnm, ⟨hal, hargs⟩, ⟨hpl, hps⟩, ⟨hel, hes⟩, hkl, hks⟩ := hok
 rw [Ex.oks_iff] at hes
 rw [Fm.oks_iff] at hks
 have hnm' : name.size ≤ 9223372036854775807 := by unfold bigN at hnm; omega
 unfold bigN at hpl hel hkl
 have hlA := strRows_len args
 have hlP := pmRows_len params
 have hlE := Ex.rows_len exprs
 have hlK := Fm.rows_len kids
 refine pcall_wf Ty.hb_63 fun hwf => ?_
 have hid : id < h.next := hwf id (by rw [ho]; try rfl)
 refine PCall.quietX Ty.hb_63 ho (by simp [cntO, inNO, inNR, inNL, inN]) ?_
 generalize hF : shapedM (.mk op name args params exprs kids) d n = F
 unfold shapedM at hF
 by_cases hc : n + 1 ≤ 4096 ∧ d ≤ 32
 rotate_left
 ·rw [if_neg hc] at hF
  subst hF
  have hT := take_c (by omega) hn ho (decide_eq_false hc)
  simp only [Fm.cells]
  refine pcall_body (ow := fun _ => false) (wf := fun _ => false) Ty.mixed Try.func63 rfl Ty.hb_63 (by rw [Try.ntmps63]; simp) ?_
  rw [Try.ntmps63, Try.results63]
  repeat' (first | refine a_seq fun K hK => ?_ | (refine a_regionS ?_; simp (maxSteps := 2000000) only [Ty.w, simprocAttr]) | (refine hK _ _ ?_; clear hK; try simp only [pst0, simprocAttr]))
  refine owp_useH (hT) (by (try simp only [Ty.w, simprocAttr, Bool.not_false]); try rfl) ?_; simp (maxSteps := 2000000) only [Ty.w, simprocAttr, Bool.not_false]
  repeat' (first | refine a_seq fun K hK => ?_ | ((first | refine a_regionS ?_ | refine a_ret ?_); simp (maxSteps := 2000000) only [Ty.w, simprocAttr, Bool.not_false]) | (refine hK _ _ ?_; clear hK; try simp only [pst0, simprocAttr]))
  exact (GrowX.refl ho).put
 rw [if_pos hc] at hF
 have hT := take_c (by omega) hn ho (decide_eq_true hc)
 have wd : IntKind.i64.wrap ((d : Int) + 1) = (d : Int) + 1 := by rw [wrap64 (by omega) (by omega)]
 have G1 : GrowX h id (cntO (n + 1)) (h.set id (cntO (n + 1))) := (GrowX.refl ho).put
 have hO1 : (h.set id (cntO (n + 1))).obj id = some (cntO (n + 1)) := by simp [Heap.set]
 have hN1 : (h.set id (cntO (n + 1))).next = h.next := rfl
 have hFf : partsOk op name args params exprs.length kids.length = false → F = (false, n + 1) := fun hp => by rw [← hF, if_neg (by rw [hp]; simp)]
 have hFt : partsOk op name args params exprs.length kids.length = true → F = (match formedMs exprs (d + 1) (n + 1) with
  | (true, c') => shapedMs kids (d + 1) c'
  | (false, c') => (false, c')) := fun hp => by rw [← hF, if_pos hp]; try rfl
 clear hF
 simp only [Fm.cells]
 refine pcall_body (ow := fun _ => false) (wf := fun _ => false) Ty.mixed Try.func63 rfl Ty.hb_63 (by rw [Try.ntmps63]; simp) ?_
 rw [Try.ntmps63, Try.results63]
 repeat' (first | refine a_seq fun K hK => ?_ | (refine a_regionS ?_; simp (maxSteps := 2000000) only [Ty.w, simprocAttr]) | (refine hK _ _ ?_; clear hK; try simp only [pst0, simprocAttr]))
 refine owp_useH (hT) (by (try simp only [Ty.w, simprocAttr, Bool.not_true]); try rfl) ?_; simp (maxSteps := 2000000) only [Ty.w, simprocAttr, Bool.not_true]
 clear hT
 generalize h.set id (cntO (n + 1)) = H1 at G1 hO1 hN1 ⊢
 repeat' (first | (with_reducible refine a_hold 4 ?_) | refine a_seq fun K hK => ?_ | (refine a_regionS ?_; simp (maxSteps := 2000000) only [Ty.w, simprocAttr, Bool.not_true]) | (refine a_skip ?_; try simp only [pst0, simprocAttr]) | (refine a_cond _ (by (try simp (maxSteps := 2000000) only [Ty.w, simprocAttr, Bool.not_true]); rfl) (fun hb => ?_) (fun hb => ?_) <;> (try simp only [hb0, decide_eq_true_eq, decide_eq_false_iff_not, simprocAttr] at hb) <;> (try (exfalso; omega))) | (refine hK _ _ ?_; clear hK; try simp only [pst0, simprocAttr]))
 refine ⟨?_⟩
 refine a_cut (fun S h' => h' = H1 ∧ S 1 = .sc (.int .i64 d) ∧ S 2 = .ptr id 0 0 ∧ S 3 = .cptr (Fm.mk op name args params exprs kids).cells ∧ ∃ (e m : Nat) (q : Bool), shapeOf op kids.length = some (e, m, q) ∧ ((bEq op opAtom || bEq op opSame) = true → termsOk op name args = true) ∧ S 7 = .sc (.int .i64 e) ∧ S 8 = .sc (.bool q) ∧ S 9 = .sc (.int .i64 m)) ?_ ?_
 ·have hfc : ∀ s ∈ args, ∀ h : Heap, PCall Try.prog 105 [sPV s] h fun r h' => r = .sc (.bool (!termB s)) ∧ h' = h := fun s hs h => fclosure2_c (hargs s hs)
  cases k1 : (op.data.toList == (#[97, 116, 111, 109] : Array UInt8).toList) with
  | true =>
   have k2 : (op.data.toList == (#[115, 97, 109, 101] : Array UInt8).toList) = false := ne_of_eq k1 rfl
   cases q1 : nameB name with
   | false =>
    have hp := hFf (by simp [partsOk, shapeOf, termsOk, (show bEq op opAtom = true from k1), q1])
    subst hp
    repeat' (first | refine a_seq fun K hK => ?_ | (refine a_regionS ?_; simp (maxSteps := 2000000) only [Ty.w, simprocAttr, k1, k2]) | (refine a_skip ?_; try simp only [pst0, simprocAttr]) | (refine a_cond _ (by (try simp (maxSteps := 2000000) only [Ty.w, simprocAttr, k1, k2]); rfl) (fun hb => ?_) (fun hb => ?_) <;> (try simp only [hb0, decide_eq_true_eq, decide_eq_false_iff_not, simprocAttr] at hb) <;> (try (exfalso; omega))) | (refine hK _ _ ?_; clear hK; try simp only [pst0, simprocAttr]))
    refine owp_useQ (fname_c (s := name) hnm') (by (try simp only [Ty.w, simprocAttr, k1, k2, q1]); try rfl) ?_; simp (maxSteps := 2000000) only [Ty.w, simprocAttr, k1, k2, q1]
    repeat' (first | refine a_seq fun K hK => ?_ | ((first | refine a_regionS ?_ | refine a_ret ?_); simp (maxSteps := 2000000) only [Ty.w, simprocAttr, k1, k2, q1, Bool.not_false]) | (refine hK _ _ ?_; clear hK; try simp only [pst0, simprocAttr]))
    all_goals first | exact G1 | exact ⟨rfl, G1⟩
   | true =>
    cases q2 : args.all termB with
    | false =>
     have hp := hFf (by simp [partsOk, shapeOf, termsOk, (show bEq op opAtom = true from k1), q1, q2])
     subst hp
     repeat' (first | refine a_seq fun K hK => ?_ | (refine a_regionS ?_; simp (maxSteps := 2000000) only [Ty.w, simprocAttr, k1, k2]) | (refine a_skip ?_; try simp only [pst0, simprocAttr]) | (refine a_cond _ (by (try simp (maxSteps := 2000000) only [Ty.w, simprocAttr, k1, k2]); rfl) (fun hb => ?_) (fun hb => ?_) <;> (try simp only [hb0, decide_eq_true_eq, decide_eq_false_iff_not, simprocAttr] at hb) <;> (try (exfalso; omega))) | (refine hK _ _ ?_; clear hK; try simp only [pst0, simprocAttr]))
     refine owp_useQ (fname_c (s := name) hnm') (by (try simp only [Ty.w, simprocAttr, k1, k2, q1]); try rfl) ?_; simp (maxSteps := 2000000) only [Ty.w, simprocAttr, k1, k2, q1]
     skip
     refine owp_useQ (containsFunc_c hal hfc) (by (try simp only [Ty.w, simprocAttr, k1, k2, q1, q2]); try rfl) ?_; simp (maxSteps := 2000000) only [Ty.w, simprocAttr, k1, k2, q1, q2]
     repeat' (first | refine a_seq fun K hK => ?_ | ((first | refine a_regionS ?_ | refine a_ret ?_); simp (maxSteps := 2000000) only [Ty.w, simprocAttr, k1, k2, q1, q2, Bool.not_false, Bool.not_true]) | (refine hK _ _ ?_; clear hK; try simp only [pst0, simprocAttr]))
     all_goals first | exact G1 | exact ⟨rfl, G1⟩
    | true =>
     repeat' (first | refine a_seq fun K hK => ?_ | (refine a_regionS ?_; simp (maxSteps := 2000000) only [Ty.w, simprocAttr, k1, k2]) | (refine a_skip ?_; try simp only [pst0, simprocAttr]) | (refine a_cond _ (by (try simp (maxSteps := 2000000) only [Ty.w, simprocAttr, k1, k2]); rfl) (fun hb => ?_) (fun hb => ?_) <;> (try simp only [hb0, decide_eq_true_eq, decide_eq_false_iff_not, simprocAttr] at hb) <;> (try (exfalso; omega))) | (refine hK _ _ ?_; clear hK; try simp only [pst0, simprocAttr]))
     refine owp_useQ (fname_c (s := name) hnm') (by (try simp only [Ty.w, simprocAttr, k1, k2, q1]); try rfl) ?_; simp (maxSteps := 2000000) only [Ty.w, simprocAttr, k1, k2, q1]
     skip
     refine owp_useQ (containsFunc_c hal hfc) (by (try simp only [Ty.w, simprocAttr, k1, k2, q1, q2]); try rfl) ?_; simp (maxSteps := 2000000) only [Ty.w, simprocAttr, k1, k2, q1, q2]
     repeat' (first | (refine a_block ?_) | (refine a_skip ?_; try simp only [pst0, simprocAttr]) | (refine hK _ _ ?_; clear hK; try simp only [pst0, simprocAttr]))
     simp (maxSteps := 2000000) only [Ty.w, simprocAttr, Ty.all, Fm.cells]
     exact ⟨0, 0, false, by simp [shapeOf, (show bEq op opAtom = true from k1)], fun _ => by simp [termsOk, (show bEq op opAtom = true from k1), q1, q2], rfl, rfl, rfl⟩
  | false =>
   cases k2 : (op.data.toList == (#[115, 97, 109, 101] : Array UInt8).toList) with
   | true =>
    cases q1 : (name.data.toList == (#[] : Array UInt8).toList) with
    | false =>
     have hp := hFf (by simp [partsOk, shapeOf, termsOk, (show bEq op opAtom = false from k1), (show bEq op opSame = true from k2), (show emptyB name = false from q1)])
     subst hp
     repeat' (first | refine a_seq fun K hK => ?_ | ((first | refine a_regionS ?_ | refine a_ret ?_); simp (maxSteps := 2000000) only [Ty.w, simprocAttr, k1, k2, q1, Bool.not_false]) | (refine a_cond _ (by (try simp (maxSteps := 2000000) only [Ty.w, simprocAttr, k1, k2, q1, Bool.not_false]); rfl) (fun hb => ?_) (fun hb => ?_) <;> (try simp only [hb0, decide_eq_true_eq, decide_eq_false_iff_not, simprocAttr] at hb) <;> (try (exfalso; omega))) | (refine hK _ _ ?_; clear hK; try simp only [pst0, simprocAttr]))
     all_goals first | exact G1 | exact ⟨rfl, G1⟩
    | true =>
     cases q2 : ((args.length : Int) == 2) with
     | false =>
      have hp := hFf (by simp [partsOk, shapeOf, termsOk, (show bEq op opAtom = false from k1), (show bEq op opSame = true from k2), (show emptyB name = true from q1), (show ¬ args.length = 2 by simp at q2; omega)])
      subst hp
      have q2p := eq_false (ne_of_beq_false q2)
      have q2i : ¬ args.length = 2 := by have := ne_of_beq_false q2; omega
      repeat' (first | refine a_seq fun K hK => ?_ | ((first | refine a_regionS ?_ | refine a_ret ?_); simp (maxSteps := 2000000) only [Ty.w, simprocAttr, k1, k2, q1, q2, q2p, hlA, Bool.not_true, Bool.not_false, not_false_eq_true, not_true_eq_false, if_true, if_false]) | (refine a_cond _ (by (try simp (maxSteps := 2000000) only [Ty.w, simprocAttr, k1, k2, q1, q2, q2p, hlA, Bool.not_true, Bool.not_false, not_false_eq_true, not_true_eq_false, if_true, if_false]); rfl) (fun hb => ?_) (fun hb => ?_) <;> (try simp only [hb0, decide_eq_true_eq, decide_eq_false_iff_not, simprocAttr] at hb) <;> (try (exfalso; omega))) | (with_reducible refine ite_in (fun hb => ?_) (fun hb => ?_) <;> (try simp only [Decidable.not_not] at hb) <;> (try simp only [hb, if_true, if_false, not_false_eq_true, not_true_eq_false, ↓reduceIte]) <;> (try simp only [hb0, decide_eq_true_eq, decide_eq_false_iff_not, simprocAttr] at hb) <;> (try (exfalso; omega))) | (refine hK _ _ ?_; clear hK; try simp only [pst0, simprocAttr]))
      all_goals first | exact G1 | exact ⟨rfl, G1⟩
     | true =>
      cases q3 : args.all termB with
      | false =>
       have hp := hFf (by simp [partsOk, shapeOf, termsOk, (show bEq op opAtom = false from k1), (show bEq op opSame = true from k2), (show emptyB name = true from q1), (show args.length = 2 by simp at q2; omega), q3])
       subst hp
       have q2p := eq_true (eq_of_beq q2)
       have q2i : args.length = 2 := by have := eq_of_beq q2; omega
       repeat' (first | refine a_seq fun K hK => ?_ | (refine a_regionS ?_; simp (maxSteps := 2000000) only [Ty.w, simprocAttr, k1, k2, q1, q2, q2p, hlA, Bool.not_true, not_false_eq_true, not_true_eq_false, if_true, if_false]) | (refine a_cond _ (by (try simp (maxSteps := 2000000) only [Ty.w, simprocAttr, k1, k2, q1, q2, q2p, hlA, Bool.not_true, not_false_eq_true, not_true_eq_false, if_true, if_false]); rfl) (fun hb => ?_) (fun hb => ?_) <;> (try simp only [hb0, decide_eq_true_eq, decide_eq_false_iff_not, simprocAttr] at hb) <;> (try (exfalso; omega))) | (with_reducible refine ite_in (fun hb => ?_) (fun hb => ?_) <;> (try simp only [Decidable.not_not] at hb) <;> (try simp only [hb, if_true, if_false, not_false_eq_true, not_true_eq_false, ↓reduceIte]) <;> (try simp only [hb0, decide_eq_true_eq, decide_eq_false_iff_not, simprocAttr] at hb) <;> (try (exfalso; omega))) | (refine hK _ _ ?_; clear hK; try simp only [pst0, simprocAttr]))
       refine owp_useQ (containsFunc_c hal hfc) (by (try simp only [Ty.w, simprocAttr, k1, k2, q1, q2, q3]); try rfl) ?_; simp (maxSteps := 2000000) only [Ty.w, simprocAttr, k1, k2, q1, q2, q3]
       repeat' (first | refine a_seq fun K hK => ?_ | ((first | refine a_regionS ?_ | refine a_ret ?_); simp (maxSteps := 2000000) only [Ty.w, simprocAttr, k1, k2, q1, q2, q2p, q3, Bool.not_false, Bool.not_true, not_false_eq_true, not_true_eq_false, if_true, if_false]) | (refine hK _ _ ?_; clear hK; try simp only [pst0, simprocAttr]))
       all_goals first | exact G1 | exact ⟨rfl, G1⟩
      | true =>
       have q2p := eq_true (eq_of_beq q2)
       have q2i : args.length = 2 := by have := eq_of_beq q2; omega
       repeat' (first | refine a_seq fun K hK => ?_ | (refine a_regionS ?_; simp (maxSteps := 2000000) only [Ty.w, simprocAttr, k1, k2, q1, q2, q2p, hlA, Bool.not_true, not_false_eq_true, not_true_eq_false, if_true, if_false]) | (refine a_cond _ (by (try simp (maxSteps := 2000000) only [Ty.w, simprocAttr, k1, k2, q1, q2, q2p, hlA, Bool.not_true, not_false_eq_true, not_true_eq_false, if_true, if_false]); rfl) (fun hb => ?_) (fun hb => ?_) <;> (try simp only [hb0, decide_eq_true_eq, decide_eq_false_iff_not, simprocAttr] at hb) <;> (try (exfalso; omega))) | (with_reducible refine ite_in (fun hb => ?_) (fun hb => ?_) <;> (try simp only [Decidable.not_not] at hb) <;> (try simp only [hb, if_true, if_false, not_false_eq_true, not_true_eq_false, ↓reduceIte]) <;> (try simp only [hb0, decide_eq_true_eq, decide_eq_false_iff_not, simprocAttr] at hb) <;> (try (exfalso; omega))) | (refine hK _ _ ?_; clear hK; try simp only [pst0, simprocAttr]))
       refine owp_useQ (containsFunc_c hal hfc) (by (try simp only [Ty.w, simprocAttr, k1, k2, q1, q2, q3]); try rfl) ?_; simp (maxSteps := 2000000) only [Ty.w, simprocAttr, k1, k2, q1, q2, q3]
       repeat' (first | (refine a_block ?_) | (refine a_skip ?_; try simp only [pst0, simprocAttr]) | (refine hK _ _ ?_; clear hK; try simp only [pst0, simprocAttr]))
       simp (maxSteps := 2000000) only [Ty.w, simprocAttr, Ty.all, Fm.cells]
       exact ⟨0, 0, false, by simp [shapeOf, (show bEq op opAtom = false from k1), (show bEq op opSame = true from k2)], fun _ => by simp [termsOk, (show bEq op opAtom = false from k1), (show bEq op opSame = true from k2), (show emptyB name = true from q1), (show args.length = 2 by simp at q2; omega), q3], rfl, rfl, rfl⟩
   | false =>
    cases k3 : (op.data.toList == (#[60] : Array UInt8).toList) with
    | true =>
     repeat' (first | refine a_seq fun K hK => ?_ | (refine a_block ?_) | ((first | refine a_regionS ?_ | refine a_region (fun K hK => ?_)); simp (maxSteps := 2000000) only [Ty.w, simprocAttr, k1, k2, k3, hlK]) | (refine a_skip ?_; try simp only [pst0, simprocAttr]) | (refine a_cond _ (by (try simp (maxSteps := 2000000) only [Ty.w, simprocAttr, k1, k2, k3, hlK]); rfl) (fun hb => ?_) (fun hb => ?_) <;> (try simp only [hb0, decide_eq_true_eq, decide_eq_false_iff_not, simprocAttr] at hb) <;> (try (exfalso; omega))) | (refine hK _ _ ?_; clear hK; try simp only [pst0, simprocAttr]))
     simp (maxSteps := 2000000) only [Ty.w, simprocAttr, Ty.all, Fm.cells]
     exact ⟨2, 0, false, by simp [shapeOf, (show bEq op opAtom = false from k1), (show bEq op opSame = false from k2), (show bEq op opLt = true from k3)], fun hh => by simp [(show bEq op opAtom = false from k1), (show bEq op opSame = false from k2)] at hh, rfl, rfl, rfl⟩
    | false =>
     cases k4 : (op.data.toList == (#[60, 61] : Array UInt8).toList) with
     | true =>
      repeat' (first | refine a_seq fun K hK => ?_ | (refine a_block ?_) | ((first | refine a_regionS ?_ | refine a_region (fun K hK => ?_)); simp (maxSteps := 2000000) only [Ty.w, simprocAttr, k1, k2, k3, k4, hlK]) | (refine a_skip ?_; try simp only [pst0, simprocAttr]) | (refine a_cond _ (by (try simp (maxSteps := 2000000) only [Ty.w, simprocAttr, k1, k2, k3, k4, hlK]); rfl) (fun hb => ?_) (fun hb => ?_) <;> (try simp only [hb0, decide_eq_true_eq, decide_eq_false_iff_not, simprocAttr] at hb) <;> (try (exfalso; omega))) | (refine hK _ _ ?_; clear hK; try simp only [pst0, simprocAttr]))
      simp (maxSteps := 2000000) only [Ty.w, simprocAttr, Ty.all, Fm.cells]
      exact ⟨2, 0, false, by simp [shapeOf, (show bEq op opAtom = false from k1), (show bEq op opSame = false from k2), (show bEq op opLt = false from k3), (show bEq op opLe = true from k4)], fun hh => by simp [(show bEq op opAtom = false from k1), (show bEq op opSame = false from k2)] at hh, rfl, rfl, rfl⟩
     | false =>
      cases k5 : (op.data.toList == (#[61] : Array UInt8).toList) with
      | true =>
       repeat' (first | refine a_seq fun K hK => ?_ | (refine a_block ?_) | ((first | refine a_regionS ?_ | refine a_region (fun K hK => ?_)); simp (maxSteps := 2000000) only [Ty.w, simprocAttr, k1, k2, k3, k4, k5, hlK]) | (refine a_cond _ (by (try simp (maxSteps := 2000000) only [Ty.w, simprocAttr, k1, k2, k3, k4, k5, hlK]); rfl) (fun hb => ?_) (fun hb => ?_) <;> (try simp only [hb0, decide_eq_true_eq, decide_eq_false_iff_not, simprocAttr] at hb) <;> (try (exfalso; omega))) | (refine hK _ _ ?_; clear hK; try simp only [pst0, simprocAttr]))
       simp (maxSteps := 2000000) only [Ty.w, simprocAttr, Ty.all, Fm.cells]
       exact ⟨2, 0, false, by simp [shapeOf, (show bEq op opAtom = false from k1), (show bEq op opSame = false from k2), (show bEq op opLt = false from k3), (show bEq op opLe = false from k4), (show bEq op opEq = true from k5)], fun hh => by simp [(show bEq op opAtom = false from k1), (show bEq op opSame = false from k2)] at hh, rfl, rfl, rfl⟩
      | false =>
       cases k6 : (op.data.toList == (#[97, 110, 100] : Array UInt8).toList) with
       | true =>
        repeat' (first | refine a_seq fun K hK => ?_ | (refine a_block ?_) | ((first | refine a_regionS ?_ | refine a_region (fun K hK => ?_)); simp (maxSteps := 2000000) only [Ty.w, simprocAttr, k1, k2, k3, k4, k5, k6, hlK]) | (refine a_skip ?_; try simp only [pst0, simprocAttr]) | (refine a_cond _ (by (try simp (maxSteps := 2000000) only [Ty.w, simprocAttr, k1, k2, k3, k4, k5, k6, hlK]); rfl) (fun hb => ?_) (fun hb => ?_) <;> (try simp only [hb0, decide_eq_true_eq, decide_eq_false_iff_not, simprocAttr] at hb) <;> (try (exfalso; omega))) | (refine hK _ _ ?_; clear hK; try simp only [pst0, simprocAttr]))
        simp (maxSteps := 2000000) only [Ty.w, simprocAttr, Ty.all, Fm.cells]
        exact ⟨0, kids.length, false, by simp [shapeOf, (show bEq op opAtom = false from k1), (show bEq op opSame = false from k2), (show bEq op opLt = false from k3), (show bEq op opLe = false from k4), (show bEq op opEq = false from k5), (show bEq op opAnd = true from k6)], fun hh => by simp [(show bEq op opAtom = false from k1), (show bEq op opSame = false from k2)] at hh, rfl, rfl, rfl⟩
       | false =>
        cases k7 : (op.data.toList == (#[111, 114] : Array UInt8).toList) with
        | true =>
         repeat' (first | refine a_seq fun K hK => ?_ | (refine a_block ?_) | ((first | refine a_regionS ?_ | refine a_region (fun K hK => ?_)); simp (maxSteps := 2000000) only [Ty.w, simprocAttr, k1, k2, k3, k4, k5, k6, k7, hlK]) | (refine a_cond _ (by (try simp (maxSteps := 2000000) only [Ty.w, simprocAttr, k1, k2, k3, k4, k5, k6, k7, hlK]); rfl) (fun hb => ?_) (fun hb => ?_) <;> (try simp only [hb0, decide_eq_true_eq, decide_eq_false_iff_not, simprocAttr] at hb) <;> (try (exfalso; omega))) | (refine hK _ _ ?_; clear hK; try simp only [pst0, simprocAttr]))
         simp (maxSteps := 2000000) only [Ty.w, simprocAttr, Ty.all, Fm.cells]
         exact ⟨0, kids.length, false, by simp [shapeOf, (show bEq op opAtom = false from k1), (show bEq op opSame = false from k2), (show bEq op opLt = false from k3), (show bEq op opLe = false from k4), (show bEq op opEq = false from k5), (show bEq op opAnd = false from k6), (show bEq op opOr = true from k7)], fun hh => by simp [(show bEq op opAtom = false from k1), (show bEq op opSame = false from k2)] at hh, rfl, rfl, rfl⟩
        | false =>
         cases k8 : (op.data.toList == (#[110, 111, 116] : Array UInt8).toList) with
         | true =>
          repeat' (first | refine a_seq fun K hK => ?_ | (refine a_block ?_) | ((first | refine a_regionS ?_ | refine a_region (fun K hK => ?_)); simp (maxSteps := 2000000) only [Ty.w, simprocAttr, k1, k2, k3, k4, k5, k6, k7, k8, hlK]) | (refine a_cond _ (by (try simp (maxSteps := 2000000) only [Ty.w, simprocAttr, k1, k2, k3, k4, k5, k6, k7, k8, hlK]); rfl) (fun hb => ?_) (fun hb => ?_) <;> (try simp only [hb0, decide_eq_true_eq, decide_eq_false_iff_not, simprocAttr] at hb) <;> (try (exfalso; omega))) | (refine hK _ _ ?_; clear hK; try simp only [pst0, simprocAttr]))
          simp (maxSteps := 2000000) only [Ty.w, simprocAttr, Ty.all, Fm.cells]
          exact ⟨0, 1, false, by simp [shapeOf, (show bEq op opAtom = false from k1), (show bEq op opSame = false from k2), (show bEq op opLt = false from k3), (show bEq op opLe = false from k4), (show bEq op opEq = false from k5), (show bEq op opAnd = false from k6), (show bEq op opOr = false from k7), (show bEq op opNot = true from k8)], fun hh => by simp [(show bEq op opAtom = false from k1), (show bEq op opSame = false from k2)] at hh, rfl, rfl, rfl⟩
         | false =>
          cases k9 : (op.data.toList == (#[105, 109, 112, 108, 121] : Array UInt8).toList) with
          | true =>
           repeat' (first | refine a_seq fun K hK => ?_ | (refine a_block ?_) | ((first | refine a_regionS ?_ | refine a_region (fun K hK => ?_)); simp (maxSteps := 2000000) only [Ty.w, simprocAttr, k1, k2, k3, k4, k5, k6, k7, k8, k9, hlK]) | (refine a_cond _ (by (try simp (maxSteps := 2000000) only [Ty.w, simprocAttr, k1, k2, k3, k4, k5, k6, k7, k8, k9, hlK]); rfl) (fun hb => ?_) (fun hb => ?_) <;> (try simp only [hb0, decide_eq_true_eq, decide_eq_false_iff_not, simprocAttr] at hb) <;> (try (exfalso; omega))) | (refine hK _ _ ?_; clear hK; try simp only [pst0, simprocAttr]))
           simp (maxSteps := 2000000) only [Ty.w, simprocAttr, Ty.all, Fm.cells]
           exact ⟨0, 2, false, by simp [shapeOf, (show bEq op opAtom = false from k1), (show bEq op opSame = false from k2), (show bEq op opLt = false from k3), (show bEq op opLe = false from k4), (show bEq op opEq = false from k5), (show bEq op opAnd = false from k6), (show bEq op opOr = false from k7), (show bEq op opNot = false from k8), (show bEq op opImp = true from k9)], fun hh => by simp [(show bEq op opAtom = false from k1), (show bEq op opSame = false from k2)] at hh, rfl, rfl, rfl⟩
          | false =>
           cases k10 : (op.data.toList == (#[102, 111, 114, 97, 108, 108] : Array UInt8).toList) with
           | true =>
            repeat' (first | refine a_seq fun K hK => ?_ | (refine a_block ?_) | ((first | refine a_regionS ?_ | refine a_region (fun K hK => ?_)); simp (maxSteps := 2000000) only [Ty.w, simprocAttr, k1, k2, k3, k4, k5, k6, k7, k8, k9, k10, hlK]) | (refine a_skip ?_; try simp only [pst0, simprocAttr]) | (refine a_cond _ (by (try simp (maxSteps := 2000000) only [Ty.w, simprocAttr, k1, k2, k3, k4, k5, k6, k7, k8, k9, k10, hlK]); rfl) (fun hb => ?_) (fun hb => ?_) <;> (try simp only [hb0, decide_eq_true_eq, decide_eq_false_iff_not, simprocAttr] at hb) <;> (try (exfalso; omega))) | (refine hK _ _ ?_; clear hK; try simp only [pst0, simprocAttr]))
            simp (maxSteps := 2000000) only [Ty.w, simprocAttr, Ty.all, Fm.cells]
            exact ⟨0, 1, true, by simp [shapeOf, (show bEq op opAtom = false from k1), (show bEq op opSame = false from k2), (show bEq op opLt = false from k3), (show bEq op opLe = false from k4), (show bEq op opEq = false from k5), (show bEq op opAnd = false from k6), (show bEq op opOr = false from k7), (show bEq op opNot = false from k8), (show bEq op opImp = false from k9), (show bEq op opAll = true from k10)], fun hh => by simp [(show bEq op opAtom = false from k1), (show bEq op opSame = false from k2)] at hh, rfl, rfl, rfl⟩
           | false =>
            cases k11 : (op.data.toList == (#[101, 120, 105, 115, 116, 115] : Array UInt8).toList) with
            | true =>
             repeat' (first | refine a_seq fun K hK => ?_ | (refine a_block ?_) | ((first | refine a_regionS ?_ | refine a_region (fun K hK => ?_)); simp (maxSteps := 2000000) only [Ty.w, simprocAttr, k1, k2, k3, k4, k5, k6, k7, k8, k9, k10, k11, hlK]) | (refine a_cond _ (by (try simp (maxSteps := 2000000) only [Ty.w, simprocAttr, k1, k2, k3, k4, k5, k6, k7, k8, k9, k10, k11, hlK]); rfl) (fun hb => ?_) (fun hb => ?_) <;> (try simp only [hb0, decide_eq_true_eq, decide_eq_false_iff_not, simprocAttr] at hb) <;> (try (exfalso; omega))) | (refine hK _ _ ?_; clear hK; try simp only [pst0, simprocAttr]))
             simp (maxSteps := 2000000) only [Ty.w, simprocAttr, Ty.all, Fm.cells]
             exact ⟨0, 1, true, by simp [shapeOf, (show bEq op opAtom = false from k1), (show bEq op opSame = false from k2), (show bEq op opLt = false from k3), (show bEq op opLe = false from k4), (show bEq op opEq = false from k5), (show bEq op opAnd = false from k6), (show bEq op opOr = false from k7), (show bEq op opNot = false from k8), (show bEq op opImp = false from k9), (show bEq op opAll = false from k10), (show bEq op opSome = true from k11)], fun hh => by simp [(show bEq op opAtom = false from k1), (show bEq op opSame = false from k2)] at hh, rfl, rfl, rfl⟩
            | false =>
             have hp := hFf (by simp [partsOk, shapeOf, termsOk, (show bEq op opAtom = false from k1), (show bEq op opSame = false from k2), (show bEq op opLt = false from k3), (show bEq op opLe = false from k4), (show bEq op opEq = false from k5), (show bEq op opAnd = false from k6), (show bEq op opOr = false from k7), (show bEq op opNot = false from k8), (show bEq op opImp = false from k9), (show bEq op opAll = false from k10), (show bEq op opSome = false from k11)])
             subst hp
             repeat' (first | refine a_seq fun K hK => ?_ | ((first | refine a_regionS ?_ | refine a_ret ?_); simp (maxSteps := 2000000) only [Ty.w, simprocAttr, k1, k2, k3, k4, k5, k6, k7, k8, k9, k10, k11]) | (refine a_cond _ (by (try simp (maxSteps := 2000000) only [Ty.w, simprocAttr, k1, k2, k3, k4, k5, k6, k7, k8, k9, k10, k11]); rfl) (fun hb => ?_) (fun hb => ?_) <;> (try simp only [hb0, decide_eq_true_eq, decide_eq_false_iff_not, simprocAttr] at hb) <;> (try (exfalso; omega))) | (refine hK _ _ ?_; clear hK; try simp only [pst0, simprocAttr]))
             all_goals first | exact G1 | exact ⟨rfl, G1⟩
 ·rintro S h' ⟨rfl, g1, g2, g3, e, m, q, hs, ht, g7, g8, g9⟩
  simp only [Fm.cells] at g3
  have hO : headOk op name args params.length exprs.length kids.length = (termsOk op name args && decide (exprs.length = e) && decide (kids.length = m) && (decide (params.length = 0) || q)) := by unfold headOk; rw [hs]
  repeat' (with_reducible refine a_hold 24 ?_)
  refine ⟨?_⟩
  refine a_cut (fun S h2 => h2 = h' ∧ S 1 = .sc (.int .i64 d) ∧ S 2 = .ptr id 0 0 ∧ S 3 = .cptr (Fm.mk op name args params exprs kids).cells ∧ headOk op name args params.length exprs.length kids.length = true) ?_ ?_
  ·have hFh : headOk op name args params.length exprs.length kids.length = false → F = (false, n + 1) := fun hh => hFf (by rw [partsOk_head, hh]; try rfl)
   have tA : bEq op opAtom = (op.data.toList == (#[97, 116, 111, 109] : Array UInt8).toList) := rfl
   have tS : bEq op opSame = (op.data.toList == (#[115, 97, 109, 101] : Array UInt8).toList) := rfl
   clear hFf hFt ih hs
   refine a_seq (fun K hK => ?_)
   refine a_regionS (lwn_cut 20 (fun S h2 => h2 = h' ∧ S 1 = .sc (.int .i64 d) ∧ S 2 = .ptr id 0 0 ∧ S 3 = .cptr (Fm.mk op name args params exprs kids).cells ∧ S 7 = .sc (.int .i64 e) ∧ S 8 = .sc (.bool q) ∧ S 9 = .sc (.int .i64 m) ∧ ∃ b, S 91 = .sc (.bool b) ∧ (b = true → F = (false, n + 1)) ∧ (b = false → termsOk op name args = true)) ?_ ?_)
   ·cases k1 : (op.data.toList == (#[97, 116, 111, 109] : Array UInt8).toList) with
    | true =>
     simp (maxSteps := 2000000) only [Ty.w, simprocAttr, Ty.all, g1, g2, g3, g7, g8, g9, hlA, k1, Bool.not_true, Bool.not_false, Fm.cells]
     exact ⟨false, rfl, fun hh => absurd hh (by simp), fun _ => ht (by rw [tA, k1]; try rfl)⟩
    | false =>
     cases k2 : (op.data.toList == (#[115, 97, 109, 101] : Array UInt8).toList) with
     | true =>
      simp (maxSteps := 2000000) only [Ty.w, simprocAttr, Ty.all, g1, g2, g3, g7, g8, g9, hlA, k1, k2, Bool.not_true, Bool.not_false, Fm.cells]
      exact ⟨false, rfl, fun hh => absurd hh (by simp), fun _ => ht (by rw [tS, k2]; simp)⟩
     | false =>
      cases q1 : (name.data.toList == (#[] : Array UInt8).toList) with
      | false =>
       simp (maxSteps := 2000000) only [Ty.w, simprocAttr, Ty.all, g1, g2, g3, g7, g8, g9, hlA, k1, k2, q1, Bool.not_true, Bool.not_false, Fm.cells]
       exact ⟨true, rfl, fun _ => hFh (by rw [hO]; simp [termsOk, tA, tS, k1, k2, (show emptyB name = false from q1)]), fun hh => absurd hh (by simp)⟩
      | true =>
       cases q2 : decide ((args.length : Int) > 0) with
       | true =>
        simp (maxSteps := 2000000) only [Ty.w, simprocAttr, Ty.all, g1, g2, g3, g7, g8, g9, hlA, k1, k2, q1, q2, Bool.not_true, Bool.not_false, Fm.cells]
        exact ⟨true, rfl, fun _ => hFh (by rw [hO]; cases args with | nil => simp at q2 | cons a l => simp [termsOk, tA, tS, k1, k2]), fun hh => absurd hh (by simp)⟩
       | false =>
        simp (maxSteps := 2000000) only [Ty.w, simprocAttr, Ty.all, g1, g2, g3, g7, g8, g9, hlA, k1, k2, q1, q2, Bool.not_true, Bool.not_false, Fm.cells]
        exact ⟨false, rfl, fun hh => absurd hh (by simp), fun _ => by cases args with | nil => simp [termsOk, tA, tS, k1, k2, (show emptyB name = true from q1)] | cons a l => simp at q2⟩
   ·clear g1 g2 g3 g7 g8 g9
    rintro S h2 ⟨rfl, g1, g2, g3, g7, g8, g9, b, g91, hbt, hbf⟩
    simp only [Fm.cells] at g3
    clear ht tA tS
    cases b with
    | true =>
     have hp := hbt rfl
     subst hp
     simp (maxSteps := 2000000) only [Ty.w, simprocAttr, Ty.all, g1, g2, g3, g91, Bool.not_true, Bool.not_false]
     repeat' (first | refine a_seq fun K hK => ?_ | ((first | refine a_regionS ?_ | refine a_ret ?_); simp (maxSteps := 2000000) only [Ty.w, simprocAttr, g1, g2, g3, g91]) | (refine hK _ _ ?_; clear hK; try simp only [pst0, simprocAttr]))
     all_goals first | exact G1 | exact ⟨rfl, G1⟩
    | false =>
     have hts := hbf rfl
     clear hbt hbf
     cases c1 : ((exprs.length : Int) == (e : Int)) with
     | false =>
      have hp := hFh (by rw [hO]; simp [(show ¬ exprs.length = e by simp at c1; omega)])
      subst hp
      have c1p := eq_false (ne_of_beq_false c1)
      have c1i : ¬ exprs.length = e := by have := ne_of_beq_false c1; omega
      simp (maxSteps := 2000000) only [Ty.w, simprocAttr, Ty.all, g1, g2, g3, g7, g8, g9, hlA, hlP, hlE, hlK, g91, c1, c1p, Bool.not_true, Bool.not_false, not_false_eq_true, not_true_eq_false, if_true, if_false]
      repeat' (first | refine a_seq fun K hK => ?_ | ((first | refine a_regionS ?_ | refine a_ret ?_); simp (maxSteps := 2000000) only [Ty.w, simprocAttr, g1, g2, g3, g7, g8, g9, hlA, hlP, hlE, hlK, g91, c1, c1p, Bool.not_true, Bool.not_false, not_false_eq_true, not_true_eq_false, if_true, if_false]) | (with_reducible refine ite_in (fun hb => ?_) (fun hb => ?_) <;> (try simp only [Decidable.not_not] at hb) <;> (try simp only [hb, if_true, if_false, not_false_eq_true, not_true_eq_false, ↓reduceIte]) <;> (try simp only [hb0, decide_eq_true_eq, decide_eq_false_iff_not, simprocAttr] at hb) <;> (try (exfalso; omega))) | (refine hK _ _ ?_; clear hK; try simp only [pst0, simprocAttr]))
      all_goals first | exact G1 | exact ⟨rfl, G1⟩
     | true =>
      have c1p := eq_true (eq_of_beq c1)
      have c1i : exprs.length = e := by have := eq_of_beq c1; omega
      cases c2 : ((kids.length : Int) == (m : Int)) with
      | false =>
       have c2p := eq_false (ne_of_beq_false c2)
       have c2i : ¬ kids.length = m := by have := ne_of_beq_false c2; omega
       have hp := hFh (by rw [hO]; simp [(show ¬ kids.length = m by simp at c2; omega)])
       subst hp
       simp (maxSteps := 2000000) only [Ty.w, simprocAttr, Ty.all, g1, g2, g3, g7, g8, g9, hlA, hlP, hlE, hlK, g91, c1, c2, c1p, c2p, Bool.not_true, Bool.not_false, not_false_eq_true, not_true_eq_false, if_true, if_false]
       repeat' (first | refine a_seq fun K hK => ?_ | ((first | refine a_regionS ?_ | refine a_ret ?_); simp (maxSteps := 2000000) only [Ty.w, simprocAttr, g1, g2, g3, g7, g8, g9, hlA, hlP, hlE, hlK, g91, c1, c2, c1p, c2p, Bool.not_true, Bool.not_false, not_false_eq_true, not_true_eq_false, if_true, if_false]) | (with_reducible refine ite_in (fun hb => ?_) (fun hb => ?_) <;> (try simp only [Decidable.not_not] at hb) <;> (try simp only [hb, if_true, if_false, not_false_eq_true, not_true_eq_false, ↓reduceIte]) <;> (try simp only [hb0, decide_eq_true_eq, decide_eq_false_iff_not, simprocAttr] at hb) <;> (try (exfalso; omega))) | (refine hK _ _ ?_; clear hK; try simp only [pst0, simprocAttr]))
       all_goals first | exact G1 | exact ⟨rfl, G1⟩
      | true =>
       have c2p := eq_true (eq_of_beq c2)
       have c2i : kids.length = m := by have := eq_of_beq c2; omega
       cases c3 : decide ((params.length : Int) > 0) with
       | false =>
        have c3e : params = [] := List.eq_nil_of_length_eq_zero (by have := of_decide_eq_false c3; omega)
        simp (maxSteps := 2000000) only [Ty.w, simprocAttr, Ty.all, g1, g2, g3, g7, g8, g9, hlA, hlP, hlE, hlK, g91, c1, c2, c3, c1p, c2p, Bool.not_true, Bool.not_false, not_false_eq_true, not_true_eq_false, if_true, if_false]
        repeat' (first | (refine a_skip ?_; try simp only [pst0, simprocAttr]) | (refine a_cond _ (by (try simp (maxSteps := 2000000) only [Ty.w, simprocAttr, g1, g2, g3, g7, g8, g9, hlA, hlP, hlE, hlK, g91, c1, c2, c3, c1p, c2p, Bool.not_true, Bool.not_false, not_false_eq_true, not_true_eq_false, if_true, if_false]); rfl) (fun hb => ?_) (fun hb => ?_) <;> (try simp only [hb0, decide_eq_true_eq, decide_eq_false_iff_not, simprocAttr] at hb) <;> (try (exfalso; omega))) | (with_reducible refine ite_in (fun hb => ?_) (fun hb => ?_) <;> (try simp only [Decidable.not_not] at hb) <;> (try simp only [hb, if_true, if_false, not_false_eq_true, not_true_eq_false, ↓reduceIte]) <;> (try simp only [hb0, decide_eq_true_eq, decide_eq_false_iff_not, simprocAttr] at hb) <;> (try (exfalso; omega))) | (refine hK _ _ ?_; clear hK; try simp only [pst0, simprocAttr]))
        simp (maxSteps := 2000000) only [Ty.w, simprocAttr, Ty.all, g1, g2, g3, Fm.cells]
        rw [hO, hts]; simp [(show exprs.length = e by simp at c1; omega), (show kids.length = m by simp at c2; omega), c3e]
       | true =>
        cases q with
        | false =>
         have hp := hFh (by rw [hO]; simp [(show ¬ params.length = 0 by have := of_decide_eq_true c3; omega)])
         subst hp
         simp (maxSteps := 2000000) only [Ty.w, simprocAttr, Ty.all, g1, g2, g3, g7, g8, g9, hlA, hlP, hlE, hlK, g91, c1, c2, c3, c1p, c2p, Bool.not_true, Bool.not_false, not_false_eq_true, not_true_eq_false, if_true, if_false]
         repeat' (first | refine a_seq fun K hK => ?_ | ((first | refine a_regionS ?_ | refine a_ret ?_); simp (maxSteps := 2000000) only [Ty.w, simprocAttr, g1, g2, g3, g7, g8, g9, hlA, hlP, hlE, hlK, g91, c1, c2, c3, c1p, c2p, Bool.not_true, Bool.not_false, not_false_eq_true, not_true_eq_false, if_true, if_false]) | (with_reducible refine ite_in (fun hb => ?_) (fun hb => ?_) <;> (try simp only [Decidable.not_not] at hb) <;> (try simp only [hb, if_true, if_false, not_false_eq_true, not_true_eq_false, ↓reduceIte]) <;> (try simp only [hb0, decide_eq_true_eq, decide_eq_false_iff_not, simprocAttr] at hb) <;> (try (exfalso; omega))) | (refine hK _ _ ?_; clear hK; try simp only [pst0, simprocAttr]))
         all_goals first | exact G1 | exact ⟨rfl, G1⟩
        | true =>
         simp (maxSteps := 2000000) only [Ty.w, simprocAttr, Ty.all, g1, g2, g3, g7, g8, g9, hlA, hlP, hlE, hlK, g91, c1, c2, c3, c1p, c2p, Bool.not_true, Bool.not_false, not_false_eq_true, not_true_eq_false, if_true, if_false]
         repeat' (first | (refine a_skip ?_; try simp only [pst0, simprocAttr]) | (refine a_cond _ (by (try simp (maxSteps := 2000000) only [Ty.w, simprocAttr, g1, g2, g3, g7, g8, g9, hlA, hlP, hlE, hlK, g91, c1, c2, c3, c1p, c2p, Bool.not_true, Bool.not_false, not_false_eq_true, not_true_eq_false, if_true, if_false]); rfl) (fun hb => ?_) (fun hb => ?_) <;> (try simp only [hb0, decide_eq_true_eq, decide_eq_false_iff_not, simprocAttr] at hb) <;> (try (exfalso; omega))) | (with_reducible refine ite_in (fun hb => ?_) (fun hb => ?_) <;> (try simp only [Decidable.not_not] at hb) <;> (try simp only [hb, if_true, if_false, not_false_eq_true, not_true_eq_false, ↓reduceIte]) <;> (try simp only [hb0, decide_eq_true_eq, decide_eq_false_iff_not, simprocAttr] at hb) <;> (try (exfalso; omega))) | (refine hK _ _ ?_; clear hK; try simp only [pst0, simprocAttr]))
         simp (maxSteps := 2000000) only [Ty.w, simprocAttr, Ty.all, g1, g2, g3, Fm.cells]
         rw [hO, hts]; simp [(show exprs.length = e by simp at c1; omega), (show kids.length = m by simp at c2; omega)]
  ·clear g1 g2 g3 g7 g8 g9 ht hO hs
   rintro S h2 ⟨rfl, g1, g2, g3, hH⟩
   simp only [Fm.cells] at g3
   repeat' (with_reducible refine a_hold 26 ?_)
   refine ⟨?_⟩
   refine a_cut (fun S h' => S 1 = .sc (.int .i64 d) ∧ S 2 = .ptr id 0 0 ∧ S 3 = .cptr (Fm.mk op name args params exprs kids).cells ∧ GrowX h id (cntO (n + 1)) h' ∧ params.all pmOk = true) ?_ ?_
   ·have hFp : params.all pmOk = false → F = (false, n + 1) := fun hh => hFf (by rw [partsOk_head, hh]; simp)
    clear hFf hFt ih
    repeat' (first | refine a_seq fun K hK => ?_ | (refine a_block ?_) | (refine a_regionS ?_; simp (maxSteps := 2000000) only [Ty.w, simprocAttr, g1, g2, g3, hlP]) | (refine hK _ _ ?_; clear hK; try simp only [pst0, simprocAttr]))
    refine a_loop (fun c S h' => S 1 = .sc (.int .i64 d) ∧ S 2 = .ptr id 0 0 ∧ S 3 = .cptr (Fm.mk op name args params exprs kids).cells ∧ S 116 = .imm 2 (pmRows params) ∧ S 117 = .sc (.int .i64 params.length) ∧ ∃ k : Nat, S 118 = .sc (.int .i64 k) ∧ k ≤ params.length ∧ c = params.length - k ∧ GrowX h id (cntO (n + 1)) h' ∧ params.all pmOk = (params.drop k).all pmOk) params.length ?_ ?_
    ·simp only [Ty.w, simprocAttr, g1, g2, g3, Fm.cells]
     exact ⟨0, rfl, by omega, rfl, G1, rfl⟩
    ·clear G1 hO1 g1 g2 g3
     rintro c S h' ⟨g1, g2, g3, g116, g117, k, g118, hk, rfl, hG, hall⟩
     simp only [Fm.cells] at g3
     by_cases hlt : k < params.length
     ·have hdk : decide ((k : Int) < (params.length : Int)) = true := by simp; omega
      have w7 : IntKind.i64.wrap ((k : Int) + 1) = k + 1 := by rw [wrap64 (by omega) (by omega)]
      obtain ⟨p, hx⟩ : ∃ p, params[k]? = some p := ⟨_, List.getElem?_eq_getElem hlt⟩
      have hr := pmRows_get hx
      have hpk := hps p (List.mem_of_getElem? hx)
      obtain ⟨hp1, hp2⟩ := hpk
      have hp1' : p.name.size ≤ 9223372036854775807 := by unfold bigN at hp1; omega
      have hG2 : GrowX h id (cntO (n + 1)) ((h'.new (.arr 2 [[.sc (.string ⟨#[]⟩), .sc (.string ⟨#[]⟩)]])).set h'.next (.arr 2 [[sPV p.name, sPV p.type]])) := (hG.new hid).set hid hG.le
      rw [drop_get hx] at hall
      simp only [List.all_cons, pmOk] at hall
      cases v1 : varB p.name with
      | false =>
       have hp := hFp (by rw [hall, v1]; try rfl)
       subst hp
       have W := And.intro g1 (And.intro g2 (And.intro g3 (And.intro g116 (And.intro g117 (And.intro g118 v1)))))
       repeat' (first | refine a_seq fun K hK => ?_ | (refine a_regionS ?_; simp (maxSteps := 2000000) only [Ty.w, simprocAttr, W, hdk, hr]) | (refine a_skip ?_; try simp only [pst0, simprocAttr]) | (refine a_cond _ (by (try simp (maxSteps := 2000000) only [Ty.w, simprocAttr, W, hdk, hr]); rfl) (fun hb => ?_) (fun hb => ?_) <;> (try simp only [hb0, decide_eq_true_eq, decide_eq_false_iff_not, simprocAttr] at hb) <;> (try (exfalso; omega))) | (refine hK _ _ ?_; clear hK; try simp only [pst0, simprocAttr]))
       refine owp_useQ (fvariable_c (s := p.name) hp1') (by (try simp only [Ty.w, simprocAttr, W]); try rfl) ?_; simp (maxSteps := 2000000) only [Ty.w, simprocAttr, W]
       repeat' (first | refine a_seq fun K hK => ?_ | ((first | refine a_regionS ?_ | refine a_ret ?_); simp (maxSteps := 2000000) only [Ty.w, simprocAttr, W, Bool.not_false]) | (refine hK _ _ ?_; clear hK; try simp only [pst0, simprocAttr]))
       first | exact hG2 | exact ⟨rfl, hG2⟩
      | true =>
       cases v2 : typedB p.type with
       | false =>
        have hp := hFp (by rw [hall, v1, v2]; try rfl)
        subst hp
        have W := And.intro g1 (And.intro g2 (And.intro g3 (And.intro g116 (And.intro g117 (And.intro g118 (And.intro v1 v2))))))
        repeat' (first | refine a_seq fun K hK => ?_ | (refine a_regionS ?_; simp (maxSteps := 2000000) only [Ty.w, simprocAttr, W, hdk, hr]) | (refine a_skip ?_; try simp only [pst0, simprocAttr]) | (refine a_cond _ (by (try simp (maxSteps := 2000000) only [Ty.w, simprocAttr, W, hdk, hr]); rfl) (fun hb => ?_) (fun hb => ?_) <;> (try simp only [hb0, decide_eq_true_eq, decide_eq_false_iff_not, simprocAttr] at hb) <;> (try (exfalso; omega))) | (refine hK _ _ ?_; clear hK; try simp only [pst0, simprocAttr]))
        refine owp_useQ (fvariable_c (s := p.name) hp1') (by (try simp only [Ty.w, simprocAttr, W]); try rfl) ?_; simp (maxSteps := 2000000) only [Ty.w, simprocAttr, W]
        skip
        refine owp_useQ (typed_c (s := p.type) hp2) (by (try simp only [Ty.w, simprocAttr, W]); try rfl) ?_; simp (maxSteps := 2000000) only [Ty.w, simprocAttr, W]
        repeat' (first | refine a_seq fun K hK => ?_ | ((first | refine a_regionS ?_ | refine a_ret ?_); simp (maxSteps := 2000000) only [Ty.w, simprocAttr, W, Bool.not_false, Bool.not_true]) | (refine hK _ _ ?_; clear hK; try simp only [pst0, simprocAttr]))
        first | exact hG2 | exact ⟨rfl, hG2⟩
       | true =>
        rw [v1, v2] at hall
        have W := And.intro g1 (And.intro g2 (And.intro g3 (And.intro g116 (And.intro g117 (And.intro g118 (And.intro v1 v2))))))
        repeat' (first | refine a_seq fun K hK => ?_ | (refine a_regionS ?_; simp (maxSteps := 2000000) only [Ty.w, simprocAttr, W, hdk, hr]) | (refine a_skip ?_; try simp only [pst0, simprocAttr]) | (refine a_cond _ (by (try simp (maxSteps := 2000000) only [Ty.w, simprocAttr, W, hdk, hr]); rfl) (fun hb => ?_) (fun hb => ?_) <;> (try simp only [hb0, decide_eq_true_eq, decide_eq_false_iff_not, simprocAttr] at hb) <;> (try (exfalso; omega))) | (refine hK _ _ ?_; clear hK; try simp only [pst0, simprocAttr]))
        refine owp_useQ (fvariable_c (s := p.name) hp1') (by (try simp only [Ty.w, simprocAttr, W]); try rfl) ?_; simp (maxSteps := 2000000) only [Ty.w, simprocAttr, W]
        skip
        refine owp_useQ (typed_c (s := p.type) hp2) (by (try simp only [Ty.w, simprocAttr, W]); try rfl) ?_; simp (maxSteps := 2000000) only [Ty.w, simprocAttr, W]
        repeat' (first | (refine a_block ?_) | (refine a_regionS ?_; simp (maxSteps := 2000000) only [Ty.w, simprocAttr, W, w7, Bool.not_true]) | (refine a_skip ?_; try simp only [pst0, simprocAttr]) | (refine hK _ _ ?_; clear hK; try simp only [pst0, simprocAttr]))
        exact ⟨params.length - (k + 1), by omega, by simp only [Fm.cells], k + 1, by simp, by omega, rfl, hG2, by simpa using hall⟩
     ·have hdk : decide ((k : Int) < (params.length : Int)) = false := by simp; omega
      rw [List.drop_eq_nil_of_le (by omega)] at hall
      repeat' (first | refine a_seq fun K hK => ?_ | (refine a_regionS ?_; simp (maxSteps := 2000000) only [Ty.w, simprocAttr, g1, g2, g3, g116, g117, g118, hdk]) | (refine a_exit ?_; try simp only [pst0, simprocAttr]) | (refine a_cond _ (by (try simp (maxSteps := 2000000) only [Ty.w, simprocAttr, g1, g2, g3, g116, g117, g118, hdk]); rfl) (fun hb => ?_) (fun hb => ?_) <;> (try simp only [hb0, decide_eq_true_eq, decide_eq_false_iff_not, simprocAttr] at hb) <;> (try (exfalso; omega))) | (refine hK _ _ ?_; clear hK; try simp only [pst0, simprocAttr]))
      simp (maxSteps := 2000000) only [Ty.w, simprocAttr, Ty.all, g1, g2, g3, Fm.cells]
      exact ⟨hG, hall⟩
   ·clear g1 g2 g3 G1 hO1
    rintro S h' ⟨g1, g2, g3, hG, hall⟩
    simp only [Fm.cells] at g3
    have hFe := hFt (by rw [partsOk_head, hH, hall]; try rfl)
    clear hFt hFf hH hall
    repeat' (with_reducible refine a_hold 32 ?_)
    refine ⟨?_⟩
    refine a_cut (fun S h' => S 1 = .sc (.int .i64 d) ∧ S 2 = .ptr id 0 0 ∧ S 3 = .cptr (Fm.mk op name args params exprs kids).cells ∧ ∃ n' : Nat, n' ≤ 4096 ∧ GrowX h id (cntO n') h' ∧ F = shapedMs kids (d + 1) n') ?_ ?_
    ·clear ih
     repeat' (first | refine a_seq fun K hK => ?_ | (refine a_block ?_) | (refine a_regionS ?_; simp (maxSteps := 2000000) only [Ty.w, simprocAttr, g1, g2, g3, hlE]) | (refine hK _ _ ?_; clear hK; try simp only [pst0, simprocAttr]))
     refine a_loop (fun c S h' => S 1 = .sc (.int .i64 d) ∧ S 2 = .ptr id 0 0 ∧ S 3 = .cptr (Fm.mk op name args params exprs kids).cells ∧ S 134 = .imm 5 (Ex.rows exprs) ∧ S 135 = .sc (.int .i64 exprs.length) ∧ ∃ k n' : Nat, S 136 = .sc (.int .i64 k) ∧ k ≤ exprs.length ∧ c = exprs.length - k ∧ n' ≤ 4096 ∧ GrowX h id (cntO n') h' ∧ F = (match formedMs (exprs.drop k) (d + 1) n' with
      | (true, c') => shapedMs kids (d + 1) c'
      | (false, c') => (false, c'))) exprs.length ?_ ?_
     ·simp only [Ty.w, simprocAttr, g1, g2, g3, Fm.cells]
      exact ⟨0, n + 1, rfl, by omega, rfl, by omega, hG, hFe⟩
     ·clear g1 g2 g3 hG hFe
      rintro c S h' ⟨g1, g2, g3, g134, g135, k, n', g136, hk, rfl, hn', hG, hFe⟩
      simp only [Fm.cells] at g3
      by_cases hlt : k < exprs.length
      ·have hdk : decide ((k : Int) < (exprs.length : Int)) = true := by simp; omega
       have w7 : IntKind.i64.wrap ((k : Int) + 1) = k + 1 := by rw [wrap64 (by omega) (by omega)]
       obtain ⟨x, hx⟩ : ∃ x, exprs[k]? = some x := ⟨_, List.getElem?_eq_getElem hlt⟩
       have hmem := List.mem_of_getElem? hx
       have hr := Ex.rows_get hx
       have hne : id ≠ h'.next := by have := hG.le; omega
       have hcx := formed_c x (hes x hmem) (d + 1) n' (by omega) hn' id ((h'.new (.arr 5 [[.sc (.string ⟨#[]⟩), .sc (.string ⟨#[]⟩), .sc (.int .i64 0), .sc (.slice none 0 0), .sc (.slice none 0 0)]])).set h'.next (.arr 5 [x.cells])) (by simp only [Heap.set, Heap.new]; rw [if_neg hne, if_neg hne]; exact hG.at_)
       have hG2 : GrowX h id (cntO n') ((h'.new (.arr 5 [[.sc (.string ⟨#[]⟩), .sc (.string ⟨#[]⟩), .sc (.int .i64 0), .sc (.slice none 0 0), .sc (.slice none 0 0)]])).set h'.next (.arr 5 [x.cells])) := (hG.new hid).set hid hG.le
       have hle := formedM_le x (d + 1) n'
       rw [drop_get hx] at hFe
       simp only [formedMs] at hFe
       generalize formedM x (d + 1) n' = V at hcx hle hFe
       obtain ⟨b, n''⟩ := V
       simp only [natc] at hcx hle hFe
       obtain ⟨xo, xn, xv, xa, xk⟩ := x
       simp only [Ex.cells] at hr hcx hG2
       repeat' (first | refine a_seq fun K hK => ?_ | (refine a_regionS ?_; simp (maxSteps := 2000000) only [Ty.w, simprocAttr, g1, g2, g3, g134, g135, g136, hdk, hr, wd]) | (refine a_skip ?_; try simp only [pst0, simprocAttr]) | (refine a_cond _ (by (try simp (maxSteps := 2000000) only [Ty.w, simprocAttr, g1, g2, g3, g134, g135, g136, hdk, hr, wd]); rfl) (fun hb => ?_) (fun hb => ?_) <;> (try simp only [hb0, decide_eq_true_eq, decide_eq_false_iff_not, simprocAttr] at hb) <;> (try (exfalso; omega))) | (refine hK _ _ ?_; clear hK; try simp only [pst0, simprocAttr]))
       refine owp_useH (hcx) (by (try simp only [Ty.w, simprocAttr, g1, g2, g3, g134, g135, g136, hr, wd]); try rfl) ?_; simp (maxSteps := 2000000) only [Ty.w, simprocAttr, g1, g2, g3, g134, g135, g136, hr, wd]
       cases b with
       | false =>
        simp only at hFe
        subst hFe
        repeat' (first | refine a_seq fun K hK => ?_ | ((first | refine a_regionS ?_ | refine a_ret ?_); simp (maxSteps := 2000000) only [Ty.w, simprocAttr, g1, g2, g3, g134, g135, g136, Bool.not_false]) | (refine hK _ _ ?_; clear hK; try simp only [pst0, simprocAttr]))
        first | exact hG2.put | exact ⟨rfl, hG2.put⟩
       | true =>
        simp only at hFe
        repeat' (first | (refine a_block ?_) | (refine a_regionS ?_; simp (maxSteps := 2000000) only [Ty.w, simprocAttr, g1, g2, g3, g134, g135, g136, w7, Bool.not_true]) | (refine a_skip ?_; try simp only [pst0, simprocAttr]) | (refine hK _ _ ?_; clear hK; try simp only [pst0, simprocAttr]))
        exact ⟨exprs.length - (k + 1), by omega, by simp only [Fm.cells], k + 1, n'', by simp, by omega, rfl, hle rfl, hG2.put, hFe⟩
      ·have hdk : decide ((k : Int) < (exprs.length : Int)) = false := by simp; omega
       rw [List.drop_eq_nil_of_le (by omega)] at hFe
       simp only [formedMs] at hFe
       repeat' (first | refine a_seq fun K hK => ?_ | (refine a_regionS ?_; simp (maxSteps := 2000000) only [Ty.w, simprocAttr, g1, g2, g3, g134, g135, g136, hdk]) | (refine a_exit ?_; try simp only [pst0, simprocAttr]) | (refine a_cond _ (by (try simp (maxSteps := 2000000) only [Ty.w, simprocAttr, g1, g2, g3, g134, g135, g136, hdk]); rfl) (fun hb => ?_) (fun hb => ?_) <;> (try simp only [hb0, decide_eq_true_eq, decide_eq_false_iff_not, simprocAttr] at hb) <;> (try (exfalso; omega))) | (refine hK _ _ ?_; clear hK; try simp only [pst0, simprocAttr]))
       simp (maxSteps := 2000000) only [Ty.w, simprocAttr, Ty.all, g1, g2, g3, Fm.cells]
       exact ⟨n', hn', hG, hFe⟩
    ·clear g1 g2 g3 hG hFe
     rintro S h' ⟨g1, g2, g3, n0, hn0, hG, hFe⟩
     simp only [Fm.cells] at g3
     repeat' (first | refine a_seq fun K hK => ?_ | (refine a_block ?_) | (refine a_regionS ?_; simp (maxSteps := 2000000) only [Ty.w, simprocAttr, g1, g2, g3, hlK]) | (refine hK _ _ ?_; clear hK; try simp only [pst0, simprocAttr]))
     refine a_loop (fun c S h' => S 1 = .sc (.int .i64 d) ∧ S 2 = .ptr id 0 0 ∧ S 148 = .imm 6 (Fm.rows kids) ∧ S 149 = .sc (.int .i64 kids.length) ∧ ∃ k n' : Nat, S 150 = .sc (.int .i64 k) ∧ k ≤ kids.length ∧ c = kids.length - k ∧ n' ≤ 4096 ∧ GrowX h id (cntO n') h' ∧ F = shapedMs (kids.drop k) (d + 1) n') kids.length ?_ ?_
     ·simp only [Ty.w, simprocAttr, g1, g2]
      exact ⟨0, n0, rfl, by omega, rfl, hn0, hG, hFe⟩
     ·clear g1 g2 g3 hG hFe
      rintro c S h' ⟨g1, g2, g148, g149, k, n', g150, hk, rfl, hn', hG, hFe⟩
      by_cases hlt : k < kids.length
      ·have hdk : decide ((k : Int) < (kids.length : Int)) = true := by simp; omega
       have w7 : IntKind.i64.wrap ((k : Int) + 1) = k + 1 := by rw [wrap64 (by omega) (by omega)]
       obtain ⟨x, hx⟩ : ∃ x, kids[k]? = some x := ⟨_, List.getElem?_eq_getElem hlt⟩
       have hmem := List.mem_of_getElem? hx
       have hr := Fm.rows_get hx
       have hne : id ≠ h'.next := by have := hG.le; omega
       have hcx := ih x hmem (hks x hmem) (d + 1) n' (by omega) hn' id ((h'.new (.arr 6 [[.sc (.string ⟨#[]⟩), .sc (.string ⟨#[]⟩), .sc (.slice none 0 0), .sc (.slice none 0 0), .sc (.slice none 0 0), .sc (.slice none 0 0)]])).set h'.next (.arr 6 [x.cells])) (by simp only [Heap.set, Heap.new]; rw [if_neg hne, if_neg hne]; exact hG.at_)
       have hG2 : GrowX h id (cntO n') ((h'.new (.arr 6 [[.sc (.string ⟨#[]⟩), .sc (.string ⟨#[]⟩), .sc (.slice none 0 0), .sc (.slice none 0 0), .sc (.slice none 0 0), .sc (.slice none 0 0)]])).set h'.next (.arr 6 [x.cells])) := (hG.new hid).set hid hG.le
       have hle := shapedM_le x (d + 1) n'
       rw [drop_get hx] at hFe
       simp only [shapedMs] at hFe
       generalize shapedM x (d + 1) n' = V at hcx hle hFe
       obtain ⟨b, n''⟩ := V
       simp only [natc] at hcx hle hFe
       obtain ⟨xo, xn, xa, xp, xe, xk⟩ := x
       simp only [Fm.cells] at hr hcx hG2
       repeat' (first | refine a_seq fun K hK => ?_ | (refine a_regionS ?_; simp (maxSteps := 2000000) only [Ty.w, simprocAttr, g1, g2, g148, g149, g150, hdk, hr, wd]) | (refine a_skip ?_; try simp only [pst0, simprocAttr]) | (refine a_cond _ (by (try simp (maxSteps := 2000000) only [Ty.w, simprocAttr, g1, g2, g148, g149, g150, hdk, hr, wd]); rfl) (fun hb => ?_) (fun hb => ?_) <;> (try simp only [hb0, decide_eq_true_eq, decide_eq_false_iff_not, simprocAttr] at hb) <;> (try (exfalso; omega))) | (refine hK _ _ ?_; clear hK; try simp only [pst0, simprocAttr]))
       refine owp_useH (hcx) (by (try simp only [Ty.w, simprocAttr, g1, g2, g148, g149, g150, hr, wd]); try rfl) ?_; simp (maxSteps := 2000000) only [Ty.w, simprocAttr, g1, g2, g148, g149, g150, hr, wd]
       cases b with
       | false =>
        simp only at hFe
        subst hFe
        repeat' (first | refine a_seq fun K hK => ?_ | ((first | refine a_regionS ?_ | refine a_ret ?_); simp (maxSteps := 2000000) only [Ty.w, simprocAttr, g1, g2, g148, g149, g150, Bool.not_false]) | (refine hK _ _ ?_; clear hK; try simp only [pst0, simprocAttr]))
        first | exact hG2.put | exact ⟨rfl, hG2.put⟩
       | true =>
        simp only at hFe
        repeat' (first | (refine a_block ?_) | (refine a_regionS ?_; simp (maxSteps := 2000000) only [Ty.w, simprocAttr, g1, g2, g148, g149, g150, w7, Bool.not_true]) | (refine a_skip ?_; try simp only [pst0, simprocAttr]) | (refine hK _ _ ?_; clear hK; try simp only [pst0, simprocAttr]))
        exact ⟨kids.length - (k + 1), by omega, k + 1, n'', by simp, by omega, rfl, hle rfl, hG2.put, hFe⟩
      ·have hdk : decide ((k : Int) < (kids.length : Int)) = false := by simp; omega
       rw [List.drop_eq_nil_of_le (by omega)] at hFe
       simp only [shapedMs] at hFe
       subst hFe
       repeat' (first | refine a_seq fun K hK => ?_ | ((first | refine a_regionS ?_ | refine a_ret ?_); simp (maxSteps := 2000000) only [Ty.w, simprocAttr, g1, g2, g148, g149, g150, hdk]) | (refine a_exit ?_; try simp only [pst0, simprocAttr]) | (refine a_cond _ (by (try simp (maxSteps := 2000000) only [Ty.w, simprocAttr, g1, g2, g148, g149, g150, hdk]); rfl) (fun hb => ?_) (fun hb => ?_) <;> (try simp only [hb0, decide_eq_true_eq, decide_eq_false_iff_not, simprocAttr] at hb) <;> (try (exfalso; omega))) | ((first | refine hK _ _ ?_ | (clear hK; refine hK _ _ ?_)); clear hK; try simp only [pst0, simprocAttr]))
       first | exact hG | exact ⟨rfl, hG⟩
end Go.Proofs.Ytjlkapgpjamnkaa
namespace Go.AM
mutual
def Fm.small : Fm → Prop
 | .mk _ _ args params exprs kids => args.length ≤ 1048576 ∧ params.length ≤ 1048576 ∧ Ex.smalls exprs ∧ kids.length ≤ 1048576 ∧ Fm.smalls kids
def Fm.smalls : List Fm → Prop
 | [] => True
 | k :: ks => k.small ∧ Fm.smalls ks
end
theorem Fm.smalls_iff : {l : List Fm} → (Fm.smalls l ↔ ∀ k ∈ l, k.small)
 | [] => by simp [Fm.smalls]
 | k :: ks => by simp [Fm.smalls, Fm.smalls_iff (l := ks)]
end Go.AM
namespace Go.Proofs.Ytjlkapgpjamnkaa
open Go.AM
set_option maxHeartbeats 4000000
set_option maxRecDepth 20000
structure WrI (h : Heap) (L : List Sx) (h' : Heap) : Prop where
 grow : Grow h h'
 ex : ∃ p H, h.next + 1 < h'.next ∧ h'.obj h.next = some (.arr 6 [[.sc (.int .i64 0), .sc (.int .i64 0), .sc (.int .i64 0), .sc (.int .i64 0), .sc (.string ⟨#[]⟩), .sc (.slice none 0 0)]]) ∧
  h'.obj (h.next + 1) = some (.arr 6 [[.sc (.int .i64 3), .sc (.int .i64 0), .sc (.int .i64 0), .sc (.int .i64 0), .sc (.string ⟨#[]⟩), p]]) ∧ Tl h' (h.next + 2) 6 p (Sx.rows L) ∧
  isTail h' p = some (H, Sx.rows L) ∧ zOk h' 6 p = true ∧ H.next = h'.next ∧ (∀ j, j < h.next + 2 → H.obj j = h'.obj j) ∧ Grow h H ∧ p.cells = [p] ∧ oneC p = true
theorem WrI.mk2 {h h' : Heap} {L : List Sx} {p : PV} (g : Grow h h') (hn : h.next + 1 < h'.next) (o1 : h'.obj h.next = some (.arr 6 [[.sc (.int .i64 0), .sc (.int .i64 0), .sc (.int .i64 0), .sc (.int .i64 0), .sc (.string ⟨#[]⟩), .sc (.slice none 0 0)]])) (o2 : h'.obj (h.next + 1) = some (.arr 6 [[.sc (.int .i64 3), .sc (.int .i64 0), .sc (.int .i64 0), .sc (.int .i64 0), .sc (.string ⟨#[]⟩), p]])) (tl : Tl h' (h.next + 2) 6 p (Sx.rows L)) : WrI h L h' := by
 obtain ⟨H, t1, t2, t3, t4, t5⟩ := tl.tail
 have hk := t5 h ⟨g.le, g.old⟩ (by omega)
 refine ⟨g, p, H, hn, o1, o2, tl, t1, t2, t3, t4, ⟨hk.1, hk.2⟩, ?_, ?_⟩
 ·rcases tl with ⟨_, rfl | rfl⟩ | ⟨_, _, _, rfl, _⟩ <;> rfl
 ·rcases tl with ⟨_, rfl | rfl⟩ | ⟨_, _, _, rfl, _⟩ <;> rfl
theorem Tl.low {h : Heap} {a b z : Nat} {p : PV} {rows : List (List PV)} (t : Tl h a z p rows) (hab : b ≤ a) : Tl h b z p rows := by
 rcases t with ht | ⟨id, h1, h2⟩
 ·exact .inl ht
 ·exact .inr ⟨id, by omega, h2⟩
theorem WrI.push {h h' H : Heap} {L : List Sx} {X : Sx} {m : Nat} (hn : h.next + 1 < h'.next) (o1 : h'.obj h.next = some (.arr 6 [[.sc (.int .i64 0), .sc (.int .i64 0), .sc (.int .i64 0), .sc (.int .i64 0), .sc (.string ⟨#[]⟩), .sc (.slice none 0 0)]])) (t3 : H.next = h'.next) (t4 : ∀ j, j < h.next + 2 → H.obj j = h'.obj j) (g : Grow h H) (hm : m = L.length + 1) :
  WrI h (L ++ [X]) ((H.new (.arr 6 (Sx.rows L ++ [X.cells]))).set (h.next + 1) (.arr 6 [[.sc (.int .i64 3), .sc (.int .i64 0), .sc (.int .i64 0), .sc (.int .i64 0), .sc (.string ⟨#[]⟩), .own h'.next 0 m]])) := by
 have e1 : Sx.rows (L ++ [X]) = Sx.rows L ++ [X.cells] := by simp [Sx.rows_map]
 have n1 : ¬ h.next = h.next + 1 := by omega
 have n2 : ¬ h.next = H.next := by omega
 refine WrI.mk2 (p := .own h'.next 0 m) ((g.new _).set (by omega) _) (by simp only [Heap.set, Heap.new]; omega) ?_ ?_ ?_
 rotate_left
 ·simp only [Heap.set, if_true]
 ·rw [e1, ← t3]
  have : Tl (H.new (.arr 6 (Sx.rows L ++ [X.cells]))) (h.next + 2) 6 (.own H.next 0 m) (Sx.rows L ++ [X.cells]) := Tl.grow (by omega) (by rw [hm]; simp [Sx.rows_len])
  exact this.up (Nat.le_refl _) (fun j hj _ => by simp only [Heap.set]; rw [if_neg (by omega)])
 ·simp only [Heap.set, Heap.new, n1, n2, if_false]
  rw [t4 _ (by omega)]; exact o1
theorem a_heap {P : Program} {ow : Nat → Bool} {wf : FuncId → Bool} {n : Nat} {Q : Post} {s : Slots} {h0 : Heap} {c : Code} (I : Heap → Prop) (hi : I h0) (hh : ∀ h', I h' → awp P ow wf n c Q s h') : awp P ow wf n c Q s h0 := hh _ hi
theorem write_c : ∀ f : Fm, f.small → shapedF f = true → ∀ h : Heap, PCall Try.prog 65 [.agg f.cells] h fun r h' => r = .agg (fmW f).cells ∧ h' = h := by
 refine Fm.ind ?_
 intro op name args params exprs kids ih hsm hsh h
 simp only [Fm.small] at hsm
 obtain ⟨hal, hpl, hes, hkl, hks⟩ := hsm
 rw [Ex.smalls_iff] at hes
 rw [Fm.smalls_iff] at hks
 simp only [shapedF, Bool.and_eq_true] at hsh
 obtain ⟨⟨hpo, hse⟩, hsk⟩ := hsh
 rw [shapedFs_iff] at hsk
 rw [List.all_eq_true] at hse
 have hlK := Fm.rows_len kids
 unfold fmW
 refine PCall.frz Ty.hb_65 ?_
 cases k1 : (op.data.toList == (#[97, 116, 111, 109] : Array UInt8).toList) with
 | true =>
  rw [if_pos (show bEq op opAtom = true from k1)]
  have hw : ∀ h : Heap, PCall Try.prog 109 [sPV name, .imm 1 (strRows args)] h fun r h' => r = .agg (wordsM name args).cells ∧ h' = h := fun h => words_c hal
  have hfz := fun (n : Nat) (h : Heap) => sx_frz n h (wordsM name args)
  simp only [Fm.cells]
  generalize wordsM name args = X at hw hfz ⊢
  obtain ⟨ki, va, li, co, te, ks⟩ := X
  simp only [Sx.cells] at hw hfz ⊢
  refine pcall_body (ow := fun _ => false) (wf := fun _ => false) Ty.mixed Try.func65 rfl Ty.hb_65 (by rw [Try.ntmps65]; simp) ?_
  rw [Try.ntmps65, Try.results65]
  repeat' (first | refine a_seq fun K hK => ?_ | (refine a_regionS ?_; simp (maxSteps := 2000000) only [Ty.w, simprocAttr, k1]) | (refine hK _ _ ?_; clear hK; try simp only [pst0, simprocAttr]))
  refine owp_useQ (hw _) (by (try simp only [Ty.w, simprocAttr, k1]); try rfl) ?_; simp (maxSteps := 2000000) only [Ty.w, simprocAttr, k1]
  repeat' (first | (refine a_ret ?_; simp (maxSteps := 2000000) only [Ty.w, simprocAttr]) | (refine hK _ _ ?_; clear hK; try simp only [pst0, simprocAttr]))
  refine ⟨?_, ((Grow.refl h).new _).set (Nat.le_refl _) _⟩
  simp only [FrzTo]
  exact ⟨_, rfl, hfz _ _⟩
 | false =>
  cases k2 : (op.data.toList == (#[115, 97, 109, 101] : Array UInt8).toList) with
  | true =>
   rw [if_neg (by rw [(show bEq op opAtom = false from k1)]; simp)]
   rw [if_pos (show bEq op opSame = true from k2)]
   have hw : ∀ h : Heap, PCall Try.prog 109 [sPV ⟨#[61]⟩, .imm 1 (strRows args)] h fun r h' => r = .agg (wordsM opEq args).cells ∧ h' = h := fun h => words_c hal
   have hfz := fun (n : Nat) (h : Heap) => sx_frz n h (wordsM opEq args)
   simp only [Fm.cells]
   generalize wordsM opEq args = X at hw hfz ⊢
   obtain ⟨ki, va, li, co, te, ks⟩ := X
   simp only [Sx.cells] at hw hfz ⊢
   refine pcall_body (ow := fun _ => false) (wf := fun _ => false) Ty.mixed Try.func65 rfl Ty.hb_65 (by rw [Try.ntmps65]; simp) ?_
   rw [Try.ntmps65, Try.results65]
   repeat' (first | refine a_seq fun K hK => ?_ | (refine a_regionS ?_; simp (maxSteps := 2000000) only [Ty.w, simprocAttr, k1, k2]) | (refine hK _ _ ?_; clear hK; try simp only [pst0, simprocAttr]))
   refine owp_useQ (hw _) (by (try simp only [Ty.w, simprocAttr, k1, k2]); try rfl) ?_; simp (maxSteps := 2000000) only [Ty.w, simprocAttr, k1, k2]
   repeat' (first | (refine a_ret ?_; simp (maxSteps := 2000000) only [Ty.w, simprocAttr]) | (refine hK _ _ ?_; clear hK; try simp only [pst0, simprocAttr]))
   refine ⟨?_, ((Grow.refl h).new _).set (Nat.le_refl _) _⟩
   simp only [FrzTo]
   exact ⟨_, rfl, hfz _ _⟩
  | false =>
   rw [if_neg (by rw [(show bEq op opAtom = false from k1)]; simp), if_neg (by rw [(show bEq op opSame = false from k2)]; simp)]
   cases k3 : (op.data.toList == (#[60] : Array UInt8).toList) with
   | true =>
    rw [if_pos (by simp [isCmp, (show bEq op opAtom = false from k1), (show bEq op opSame = false from k2), (show bEq op opLt = true from k3)])]
    have hx2 : exprs.length = 2 := by have q := hpo; simp [partsOk, shapeOf, (show bEq op opAtom = false from k1), (show bEq op opSame = false from k2), (show bEq op opLt = true from k3)] at q; omega
    obtain ⟨a, b, rfl⟩ : ∃ a b, exprs = [a, b] := by
     match exprs, hx2 with
     | [a, b], _ => exact ⟨a, b, rfl⟩
    have ca := writeE_c a (hes a (by simp)) (hse a (by simp))
    have cb := writeE_c b (hes b (by simp)) (hse b (by simp))
    have hw := fun h : Heap => word_c (h := h) (s := op)
    simp only [List.map_cons, List.map_nil]
    have hfz := fun (n : Nat) (h : Heap) => sx_frz n h (listM [wordM op, exW a, exW b])
    have hl := fun h : Heap => list_c (h := h) (p := .imm 6 (Sx.rows [wordM op, exW a, exW b])) rfl (fun _ => frz_imm (sxs_in _ _))
    generalize exW a = xa at ca hfz hl ⊢
    generalize exW b = xb at cb hfz hl ⊢
    clear ih hks hpo hse hsk hes
    obtain ⟨aop, aname, an, aargs, akids⟩ := a
    obtain ⟨bop, bname, bn, bargs, bkids⟩ := b
    obtain ⟨ki, va, li, co, te, ks⟩ := xa
    obtain ⟨ki2, va2, li2, co2, te2, ks2⟩ := xb
    simp only [Fm.cells, Ex.cells, Ex.rows, listM, Sx.cells, Sx.rows, wordM] at ca cb hw hfz hl ⊢
    refine pcall_body (ow := fun _ => false) (wf := fun _ => false) Ty.mixed Try.func65 rfl Ty.hb_65 (by rw [Try.ntmps65]; simp) ?_
    rw [Try.ntmps65, Try.results65]
    repeat' (first | refine a_seq fun K hK => ?_ | ((first | refine a_regionS ?_ | refine a_drawS (by decide +kernel) ?_); simp (maxSteps := 2000000) only [Ty.w, simprocAttr, k1, k2, k3]) | (refine a_skip ?_; try simp only [pst0, simprocAttr]) | (refine a_cond _ (by (try simp (maxSteps := 2000000) only [Ty.w, simprocAttr, k1, k2, k3]); rfl) (fun hb => ?_) (fun hb => ?_) <;> (try simp only [hb0, decide_eq_true_eq, decide_eq_false_iff_not, simprocAttr] at hb) <;> (try (exfalso; omega))) | (refine hK _ _ ?_; clear hK; try simp only [pst0, simprocAttr]))
    (first | refine a_dcall0 (hw _) (by (try simp only [Ty.w, simprocAttr, ]); try rfl) ?_ | refine a_dcallA (hw _) (by (try simp only [Ty.w, simprocAttr, ]); try rfl) (by simp only [Ty.w, simprocAttr, ]; try trivial) ?_); simp (maxSteps := 2000000) only [Ty.w, simprocAttr, Option.getD_some, ]
    skip
    (first | refine a_dcall0 (ca _) (by (try simp only [Ty.w, simprocAttr, ]); try rfl) ?_ | refine a_dcallA (ca _) (by (try simp only [Ty.w, simprocAttr, ]); try rfl) (by simp only [Ty.w, simprocAttr, ]; try trivial) ?_); simp (maxSteps := 2000000) only [Ty.w, simprocAttr, Option.getD_some, ]
    skip
    (first | refine a_dcall0 (cb _) (by (try simp only [Ty.w, simprocAttr, ]); try rfl) ?_ | refine a_dcallA (cb _) (by (try simp only [Ty.w, simprocAttr, ]); try rfl) (by simp only [Ty.w, simprocAttr, ]; try trivial) ?_); simp (maxSteps := 2000000) only [Ty.w, simprocAttr, Option.getD_some, ]
    skip
    (first | refine a_dcall0 (hl _) (by (try simp only [Ty.w, simprocAttr, ]); try rfl) ?_ | refine a_dcallA (hl _) (by (try simp only [Ty.w, simprocAttr, ]); try rfl) (by simp only [Ty.w, simprocAttr, ]; try trivial) ?_); simp (maxSteps := 2000000) only [Ty.w, simprocAttr, Option.getD_some, ]
    repeat' (first | (refine a_ret ?_; simp (maxSteps := 2000000) only [Ty.w, simprocAttr]) | (refine hK _ _ ?_; clear hK; try simp only [pst0, simprocAttr]) | (with_reducible refine a_past2 (by simp only [List.forall_mem_cons, Ty.w, simprocAttr]; (repeat' apply And.intro) <;> first | trivial | exact .inl (by decide +kernel)) ?_; try simp (maxSteps := 2000000) only [Ty.w, simprocAttr]))
    refine ⟨?_, ((Grow.refl h).new _).set (Nat.le_refl _) _⟩
    simp only [FrzTo]
    exact ⟨_, rfl, hfz _ _⟩
   | false =>
    cases k4 : (op.data.toList == (#[60, 61] : Array UInt8).toList) with
    | true =>
     rw [if_pos (by simp [isCmp, (show bEq op opAtom = false from k1), (show bEq op opSame = false from k2), (show bEq op opLt = false from k3), (show bEq op opLe = true from k4)])]
     have hx2 : exprs.length = 2 := by have q := hpo; simp [partsOk, shapeOf, (show bEq op opAtom = false from k1), (show bEq op opSame = false from k2), (show bEq op opLt = false from k3), (show bEq op opLe = true from k4)] at q; omega
     obtain ⟨a, b, rfl⟩ : ∃ a b, exprs = [a, b] := by
      match exprs, hx2 with
      | [a, b], _ => exact ⟨a, b, rfl⟩
     have ca := writeE_c a (hes a (by simp)) (hse a (by simp))
     have cb := writeE_c b (hes b (by simp)) (hse b (by simp))
     have hw := fun h : Heap => word_c (h := h) (s := op)
     simp only [List.map_cons, List.map_nil]
     have hfz := fun (n : Nat) (h : Heap) => sx_frz n h (listM [wordM op, exW a, exW b])
     have hl := fun h : Heap => list_c (h := h) (p := .imm 6 (Sx.rows [wordM op, exW a, exW b])) rfl (fun _ => frz_imm (sxs_in _ _))
     generalize exW a = xa at ca hfz hl ⊢
     generalize exW b = xb at cb hfz hl ⊢
     clear ih hks hpo hse hsk hes
     obtain ⟨aop, aname, an, aargs, akids⟩ := a
     obtain ⟨bop, bname, bn, bargs, bkids⟩ := b
     obtain ⟨ki, va, li, co, te, ks⟩ := xa
     obtain ⟨ki2, va2, li2, co2, te2, ks2⟩ := xb
     simp only [Fm.cells, Ex.cells, Ex.rows, listM, Sx.cells, Sx.rows, wordM] at ca cb hw hfz hl ⊢
     refine pcall_body (ow := fun _ => false) (wf := fun _ => false) Ty.mixed Try.func65 rfl Ty.hb_65 (by rw [Try.ntmps65]; simp) ?_
     rw [Try.ntmps65, Try.results65]
     repeat' (first | refine a_seq fun K hK => ?_ | ((first | refine a_regionS ?_ | refine a_drawS (by decide +kernel) ?_); simp (maxSteps := 2000000) only [Ty.w, simprocAttr, k1, k2, k3, k4]) | (refine a_skip ?_; try simp only [pst0, simprocAttr]) | (refine a_cond _ (by (try simp (maxSteps := 2000000) only [Ty.w, simprocAttr, k1, k2, k3, k4]); rfl) (fun hb => ?_) (fun hb => ?_) <;> (try simp only [hb0, decide_eq_true_eq, decide_eq_false_iff_not, simprocAttr] at hb) <;> (try (exfalso; omega))) | (refine hK _ _ ?_; clear hK; try simp only [pst0, simprocAttr]))
     (first | refine a_dcall0 (hw _) (by (try simp only [Ty.w, simprocAttr, ]); try rfl) ?_ | refine a_dcallA (hw _) (by (try simp only [Ty.w, simprocAttr, ]); try rfl) (by simp only [Ty.w, simprocAttr, ]; try trivial) ?_); simp (maxSteps := 2000000) only [Ty.w, simprocAttr, Option.getD_some, ]
     skip
     (first | refine a_dcall0 (ca _) (by (try simp only [Ty.w, simprocAttr, ]); try rfl) ?_ | refine a_dcallA (ca _) (by (try simp only [Ty.w, simprocAttr, ]); try rfl) (by simp only [Ty.w, simprocAttr, ]; try trivial) ?_); simp (maxSteps := 2000000) only [Ty.w, simprocAttr, Option.getD_some, ]
     skip
     (first | refine a_dcall0 (cb _) (by (try simp only [Ty.w, simprocAttr, ]); try rfl) ?_ | refine a_dcallA (cb _) (by (try simp only [Ty.w, simprocAttr, ]); try rfl) (by simp only [Ty.w, simprocAttr, ]; try trivial) ?_); simp (maxSteps := 2000000) only [Ty.w, simprocAttr, Option.getD_some, ]
     skip
     (first | refine a_dcall0 (hl _) (by (try simp only [Ty.w, simprocAttr, ]); try rfl) ?_ | refine a_dcallA (hl _) (by (try simp only [Ty.w, simprocAttr, ]); try rfl) (by simp only [Ty.w, simprocAttr, ]; try trivial) ?_); simp (maxSteps := 2000000) only [Ty.w, simprocAttr, Option.getD_some, ]
     repeat' (first | (refine a_ret ?_; simp (maxSteps := 2000000) only [Ty.w, simprocAttr]) | (refine hK _ _ ?_; clear hK; try simp only [pst0, simprocAttr]) | (with_reducible refine a_past2 (by simp only [List.forall_mem_cons, Ty.w, simprocAttr]; (repeat' apply And.intro) <;> first | trivial | exact .inl (by decide +kernel)) ?_; try simp (maxSteps := 2000000) only [Ty.w, simprocAttr]))
     refine ⟨?_, ((Grow.refl h).new _).set (Nat.le_refl _) _⟩
     simp only [FrzTo]
     exact ⟨_, rfl, hfz _ _⟩
    | false =>
     cases k5 : (op.data.toList == (#[61] : Array UInt8).toList) with
     | true =>
      rw [if_pos (by simp [isCmp, (show bEq op opAtom = false from k1), (show bEq op opSame = false from k2), (show bEq op opLt = false from k3), (show bEq op opLe = false from k4), (show bEq op opEq = true from k5)])]
      have hx2 : exprs.length = 2 := by have q := hpo; simp [partsOk, shapeOf, (show bEq op opAtom = false from k1), (show bEq op opSame = false from k2), (show bEq op opLt = false from k3), (show bEq op opLe = false from k4), (show bEq op opEq = true from k5)] at q; omega
      obtain ⟨a, b, rfl⟩ : ∃ a b, exprs = [a, b] := by
       match exprs, hx2 with
       | [a, b], _ => exact ⟨a, b, rfl⟩
      have ca := writeE_c a (hes a (by simp)) (hse a (by simp))
      have cb := writeE_c b (hes b (by simp)) (hse b (by simp))
      have hw := fun h : Heap => word_c (h := h) (s := op)
      simp only [List.map_cons, List.map_nil]
      have hfz := fun (n : Nat) (h : Heap) => sx_frz n h (listM [wordM op, exW a, exW b])
      have hl := fun h : Heap => list_c (h := h) (p := .imm 6 (Sx.rows [wordM op, exW a, exW b])) rfl (fun _ => frz_imm (sxs_in _ _))
      generalize exW a = xa at ca hfz hl ⊢
      generalize exW b = xb at cb hfz hl ⊢
      clear ih hks hpo hse hsk hes
      obtain ⟨aop, aname, an, aargs, akids⟩ := a
      obtain ⟨bop, bname, bn, bargs, bkids⟩ := b
      obtain ⟨ki, va, li, co, te, ks⟩ := xa
      obtain ⟨ki2, va2, li2, co2, te2, ks2⟩ := xb
      simp only [Fm.cells, Ex.cells, Ex.rows, listM, Sx.cells, Sx.rows, wordM] at ca cb hw hfz hl ⊢
      refine pcall_body (ow := fun _ => false) (wf := fun _ => false) Ty.mixed Try.func65 rfl Ty.hb_65 (by rw [Try.ntmps65]; simp) ?_
      rw [Try.ntmps65, Try.results65]
      repeat' (first | refine a_seq fun K hK => ?_ | ((first | refine a_regionS ?_ | refine a_drawS (by decide +kernel) ?_); simp (maxSteps := 2000000) only [Ty.w, simprocAttr, k1, k2, k3, k4, k5]) | (refine a_cond _ (by (try simp (maxSteps := 2000000) only [Ty.w, simprocAttr, k1, k2, k3, k4, k5]); rfl) (fun hb => ?_) (fun hb => ?_) <;> (try simp only [hb0, decide_eq_true_eq, decide_eq_false_iff_not, simprocAttr] at hb) <;> (try (exfalso; omega))) | (refine hK _ _ ?_; clear hK; try simp only [pst0, simprocAttr]))
      (first | refine a_dcall0 (hw _) (by (try simp only [Ty.w, simprocAttr, ]); try rfl) ?_ | refine a_dcallA (hw _) (by (try simp only [Ty.w, simprocAttr, ]); try rfl) (by simp only [Ty.w, simprocAttr, ]; try trivial) ?_); simp (maxSteps := 2000000) only [Ty.w, simprocAttr, Option.getD_some, ]
      skip
      (first | refine a_dcall0 (ca _) (by (try simp only [Ty.w, simprocAttr, ]); try rfl) ?_ | refine a_dcallA (ca _) (by (try simp only [Ty.w, simprocAttr, ]); try rfl) (by simp only [Ty.w, simprocAttr, ]; try trivial) ?_); simp (maxSteps := 2000000) only [Ty.w, simprocAttr, Option.getD_some, ]
      skip
      (first | refine a_dcall0 (cb _) (by (try simp only [Ty.w, simprocAttr, ]); try rfl) ?_ | refine a_dcallA (cb _) (by (try simp only [Ty.w, simprocAttr, ]); try rfl) (by simp only [Ty.w, simprocAttr, ]; try trivial) ?_); simp (maxSteps := 2000000) only [Ty.w, simprocAttr, Option.getD_some, ]
      skip
      (first | refine a_dcall0 (hl _) (by (try simp only [Ty.w, simprocAttr, ]); try rfl) ?_ | refine a_dcallA (hl _) (by (try simp only [Ty.w, simprocAttr, ]); try rfl) (by simp only [Ty.w, simprocAttr, ]; try trivial) ?_); simp (maxSteps := 2000000) only [Ty.w, simprocAttr, Option.getD_some, ]
      repeat' (first | (refine a_ret ?_; simp (maxSteps := 2000000) only [Ty.w, simprocAttr]) | (refine hK _ _ ?_; clear hK; try simp only [pst0, simprocAttr]) | (with_reducible refine a_past2 (by simp only [List.forall_mem_cons, Ty.w, simprocAttr]; (repeat' apply And.intro) <;> first | trivial | exact .inl (by decide +kernel)) ?_; try simp (maxSteps := 2000000) only [Ty.w, simprocAttr]))
      refine ⟨?_, ((Grow.refl h).new _).set (Nat.le_refl _) _⟩
      simp only [FrzTo]
      exact ⟨_, rfl, hfz _ _⟩
     | false =>
      rw [if_neg (by simp [isCmp, (show bEq op opLt = false from k3), (show bEq op opLe = false from k4), (show bEq op opEq = false from k5)])]
      clear hse hes hpo
      simp only [Fm.cells]
      refine pcall_body (ow := fun _ => false) (wf := fun _ => false) Ty.mixed Try.func65 rfl Ty.hb_65 (by rw [Try.ntmps65]; simp) ?_
      rw [Try.ntmps65, Try.results65]
      repeat' (first | refine a_seq fun K hK => ?_ | (refine a_block ?_) | (refine a_regionS ?_; simp (maxSteps := 2000000) only [Ty.w, simprocAttr, k1, k2, k3, k4, k5]) | (refine a_skip ?_; try simp only [pst0, simprocAttr]) | (refine a_cond _ (by (try simp (maxSteps := 2000000) only [Ty.w, simprocAttr, k1, k2, k3, k4, k5]); rfl) (fun hb => ?_) (fun hb => ?_) <;> (try simp only [hb0, decide_eq_true_eq, decide_eq_false_iff_not, simprocAttr] at hb) <;> (try (exfalso; omega))) | (refine hK _ _ ?_; clear hK; try simp only [pst0, simprocAttr]))
      refine owp_useQ (list_c (p := .sc (.slice none 0 0)) rfl (fun _ => by simp only [FrzTo])) (by (try simp only [Ty.w, simprocAttr, k1]); try rfl) ?_; simp (maxSteps := 2000000) only [Ty.w, simprocAttr, k1]
      repeat' (first | (with_reducible refine a_hold 11 ?_) | (refine hK _ _ ?_; clear hK; try simp only [pst0, simprocAttr]))
      refine ⟨?_⟩
      refine a_heap (WrI h []) ?_ (fun H0 hI => ?_)
      ·refine WrI.mk2 (p := .sc (.slice none 0 0)) ((((Grow.refl h).new _).new _).set (by omega) _) (by simp [Heap.new, Heap.set]) (by simp [Heap.new, Heap.set]) (by simp [Heap.new, Heap.set]) Tl.nil
      refine a_cut (fun S h' => S 1 = .cptr (Fm.mk op name args params exprs kids).cells ∧ S 2 = .ptr h.next 0 0 ∧ S 3 = .ptr (h.next + 1) 0 0 ∧ WrI h (if (bEq op opAnd && kids.isEmpty) = true then [] else [wordM op]) h') ?_ ?_
      ·have n6 : bEq op opAnd = (op.data.toList == (#[97, 110, 100] : Array UInt8).toList) := rfl
       cases k6 : (op.data.toList == (#[97, 110, 100] : Array UInt8).toList) with
       | false =>
        rw [if_neg (by rw [n6, k6]; simp)]
        obtain ⟨hg, p, H, hn, o1, o2, tl, t1, t2, t3, t4, hgH, hpc, hp1⟩ := hI
        have hw : ∀ (s : ByteArray) (h : Heap), PCall Try.prog 111 [sPV s] h fun r h' => r = .agg (wordM s).cells ∧ h' = h := fun s h => word_c
        simp only [wordM, Sx.cells, Sx.rows] at hw
        have o2H : H.obj (h.next + 1) = _ := (t4 _ (by omega)).trans o2
        have n2 : (h.next + 1 = H.next) = False := by simp; omega
        have hpr : (Sx.rows ([] : List Sx)).length = 0 := rfl
        have hpush := fun X : Sx => WrI.push (L := []) (X := X) (m := 1) hn o1 t3 t4 hgH rfl
        generalize Sx.rows [] = R at t1 hpr hpush
        have W := And.intro k6 (And.intro o2 (And.intro o2H (And.intro n2 (And.intro t1 (And.intro t2 (And.intro hpr (And.intro hpc hp1)))))))
        repeat' (first | refine a_seq fun K hK => ?_ | ((first | refine a_regionS ?_ | refine a_drawS (by decide +kernel) ?_); simp (maxSteps := 2000000) only [Ty.w, simprocAttr, W, Bool.not_false]) | (refine a_cond _ (by (try simp (maxSteps := 2000000) only [Ty.w, simprocAttr, W, Bool.not_false]); rfl) (fun hb => ?_) (fun hb => ?_) <;> (try simp only [hb0, decide_eq_true_eq, decide_eq_false_iff_not, simprocAttr] at hb) <;> (try (exfalso; omega))) | (refine hK _ _ ?_; clear hK; try simp only [pst0, simprocAttr]))
        (first | refine a_dcall0 (hw op _) (by (try simp only [Ty.w, simprocAttr, W, Bool.not_false]); try rfl) ?_ | refine a_dcallA (hw op _) (by (try simp only [Ty.w, simprocAttr, W, Bool.not_false]); try rfl) (by simp only [Ty.w, simprocAttr, W, Bool.not_false]; try trivial) ?_); simp (maxSteps := 2000000) only [Ty.w, simprocAttr, W, Option.getD_some, Bool.not_false]
        repeat' (first | (with_reducible refine a_past2 (by simp only [List.forall_mem_cons, Ty.w, simprocAttr, k6, Bool.not_false, o2, o2H, n2, t1, t2, hpr, hpc, hp1]; (repeat' apply And.intro) <;> first | trivial | exact .inl (by decide +kernel)) ?_; try simp (maxSteps := 2000000) only [Ty.w, simprocAttr, W, Bool.not_false]) | (rw [if_pos]; rotate_left 1; omega; simp (maxSteps := 2000000) only [Ty.w, simprocAttr, W, Bool.not_false]))
        (simp (maxSteps := 2000000) only [Ty.w, simprocAttr, Ty.all, Fm.cells])
        exact hpush (wordM op)
       | true =>
        cases q6 : decide ((kids.length : Int) > 0) with
        | false =>
         have hk0 : kids.isEmpty = true := by cases kids with | nil => rfl | cons a l => simp at q6
         rw [if_pos (by rw [n6, k6, hk0]; try rfl)]
         repeat' (first | refine a_seq fun K hK => ?_ | (refine a_regionS ?_; simp (maxSteps := 2000000) only [Ty.w, simprocAttr, k6, q6, hlK, Bool.not_true]) | (refine a_skip ?_; try simp only [pst0, simprocAttr]) | (refine a_cond _ (by (try simp (maxSteps := 2000000) only [Ty.w, simprocAttr, k6, q6, hlK, Bool.not_true]); rfl) (fun hb => ?_) (fun hb => ?_) <;> (try simp only [hb0, decide_eq_true_eq, decide_eq_false_iff_not, simprocAttr] at hb) <;> (try (exfalso; omega))) | (refine hK _ _ ?_; clear hK; try simp only [pst0, simprocAttr]))
         (simp (maxSteps := 2000000) only [Ty.w, simprocAttr, Ty.all, Fm.cells])
         exact hI
        | true =>
         have hk0 : kids.isEmpty = false := by cases kids with | nil => simp at q6 | cons a l => rfl
         rw [if_neg (by rw [hk0]; simp)]
         obtain ⟨hg, p, H, hn, o1, o2, tl, t1, t2, t3, t4, hgH, hpc, hp1⟩ := hI
         have hw : ∀ (s : ByteArray) (h : Heap), PCall Try.prog 111 [sPV s] h fun r h' => r = .agg (wordM s).cells ∧ h' = h := fun s h => word_c
         simp only [wordM, Sx.cells, Sx.rows] at hw
         have o2H : H.obj (h.next + 1) = _ := (t4 _ (by omega)).trans o2
         have n2 : (h.next + 1 = H.next) = False := by simp; omega
         have hpr : (Sx.rows ([] : List Sx)).length = 0 := rfl
         have hpush := fun X : Sx => WrI.push (L := []) (X := X) (m := 1) hn o1 t3 t4 hgH rfl
         generalize Sx.rows [] = R at t1 hpr hpush
         have W := And.intro k6 (And.intro q6 (And.intro hlK (And.intro o2 (And.intro o2H (And.intro n2 (And.intro t1 (And.intro t2 (And.intro hpr (And.intro hpc hp1)))))))))
         repeat' (first | refine a_seq fun K hK => ?_ | ((first | refine a_regionS ?_ | refine a_drawS (by decide +kernel) ?_); simp (maxSteps := 2000000) only [Ty.w, simprocAttr, W, Bool.not_true]) | (refine a_cond _ (by (try simp (maxSteps := 2000000) only [Ty.w, simprocAttr, W, Bool.not_true]); rfl) (fun hb => ?_) (fun hb => ?_) <;> (try simp only [hb0, decide_eq_true_eq, decide_eq_false_iff_not, simprocAttr] at hb) <;> (try (exfalso; omega))) | (refine hK _ _ ?_; clear hK; try simp only [pst0, simprocAttr]))
         (first | refine a_dcall0 (hw op _) (by (try simp only [Ty.w, simprocAttr, W, Bool.not_true]); try rfl) ?_ | refine a_dcallA (hw op _) (by (try simp only [Ty.w, simprocAttr, W, Bool.not_true]); try rfl) (by simp only [Ty.w, simprocAttr, W, Bool.not_true]; try trivial) ?_); simp (maxSteps := 2000000) only [Ty.w, simprocAttr, W, Option.getD_some, Bool.not_true]
         repeat' (first | (with_reducible refine a_past2 (by simp only [List.forall_mem_cons, Ty.w, simprocAttr, k6, q6, hlK, Bool.not_true, o2, o2H, n2, t1, t2, hpr, hpc, hp1]; (repeat' apply And.intro) <;> first | trivial | exact .inl (by decide +kernel)) ?_; try simp (maxSteps := 2000000) only [Ty.w, simprocAttr, W, Bool.not_true]) | (rw [if_pos]; rotate_left 1; omega; simp (maxSteps := 2000000) only [Ty.w, simprocAttr, W, Bool.not_true]))
         (simp (maxSteps := 2000000) only [Ty.w, simprocAttr, Ty.all, Fm.cells])
         exact hpush (wordM op)
      ·clear hI
       obtain ⟨L0, hL0, hl0⟩ : ∃ L0 : List Sx, (if (bEq op opAnd && kids.isEmpty) = true then [] else [wordM op]) = L0 ∧ L0.length ≤ 1 := ⟨_, rfl, by split <;> simp⟩
       rw [hL0]
       rintro S h' ⟨g1, g2, g3, hI⟩
       simp only [Fm.cells] at g1
       repeat' (with_reducible refine a_hold 13 ?_)
       refine ⟨?_⟩
       refine a_cut (fun S h' => S 1 = .cptr (Fm.mk op name args params exprs kids).cells ∧ S 2 = .ptr h.next 0 0 ∧ S 3 = .ptr (h.next + 1) 0 0 ∧ WrI h (L0 ++ (if isQ op = true then [listM (paramsW params)] else [])) h') ?_ ?_
       ·have n7 : bEq op opAll = (op.data.toList == (#[102, 111, 114, 97, 108, 108] : Array UInt8).toList) := rfl
        have n8 : bEq op opSome = (op.data.toList == (#[101, 120, 105, 115, 116, 115] : Array UInt8).toList) := rfl
        cases k7 : (op.data.toList == (#[102, 111, 114, 97, 108, 108] : Array UInt8).toList) with
        | true =>
         rw [if_pos (by simp [isQ, n7, n8, k7])]
         obtain ⟨hg, p, H, hn, o1, o2, tl, t1, t2, t3, t4, hgH, hpc, hp1⟩ := hI
         have hwp := writeParams_c (l := params) hpl
         have hli : ∀ h : Heap, PCall Try.prog 110 [.imm 6 (Sx.rows (paramsW params))] h fun r h' => r = .agg (listM (paramsW params)).cells ∧ h' = h := fun h => list_c rfl (fun _ => frz_imm (sxs_in _ _))
         generalize hX : listM (paramsW params) = X at hli ⊢
         clear hX
         generalize Sx.rows (paramsW params) = PR at hwp hli
         have o2H : H.obj (h.next + 1) = _ := (t4 _ (by omega)).trans o2
         have n2 : (h.next + 1 = H.next) = False := by simp; omega
         have hpr := Sx.rows_len L0
         have hpush := WrI.push (L := L0) (X := X) (m := L0.length + 1) hn o1 t3 t4 hgH rfl
         generalize Sx.rows L0 = R at t1 hpr hpush
         have hb : (L0.length + 1) * 72 ≤ 140737488355328 := by omega
         obtain ⟨ki, va, li, co, te, ks⟩ := X
         simp only [Sx.cells] at hli hpush
         have W := And.intro g1 (And.intro g2 (And.intro g3 (And.intro k7 (And.intro o2 (And.intro o2H (And.intro n2 (And.intro t1 (And.intro t2 (And.intro hpr (And.intro hpc (And.intro hp1 hb)))))))))))
         repeat' (first | refine a_seq fun K hK => ?_ | ((first | refine a_regionS ?_ | refine a_drawS (by decide +kernel) ?_); simp (maxSteps := 2000000) only [Ty.w, simprocAttr, W]) | (refine a_cond _ (by (try simp (maxSteps := 2000000) only [Ty.w, simprocAttr, W]); rfl) (fun hb => ?_) (fun hb => ?_) <;> (try simp only [hb0, decide_eq_true_eq, decide_eq_false_iff_not, simprocAttr] at hb) <;> (try (exfalso; omega))) | (refine hK _ _ ?_; clear hK; try simp only [pst0, simprocAttr]))
         (first | refine a_dcall0 (hwp _) (by (try simp only [Ty.w, simprocAttr, W]); try rfl) ?_ | refine a_dcallA (hwp _) (by (try simp only [Ty.w, simprocAttr, W]); try rfl) (by simp only [Ty.w, simprocAttr, W]; try trivial) ?_); simp (maxSteps := 2000000) only [Ty.w, simprocAttr, W, Option.getD_some]
         skip
         (first | refine a_dcall0 (hli _) (by (try simp only [Ty.w, simprocAttr, W]); try rfl) ?_ | refine a_dcallA (hli _) (by (try simp only [Ty.w, simprocAttr, W]); try rfl) (by simp only [Ty.w, simprocAttr, W]; try trivial) ?_); simp (maxSteps := 2000000) only [Ty.w, simprocAttr, W, Option.getD_some]
         repeat' (first | (with_reducible refine a_past2 (by simp only [List.forall_mem_cons, Ty.w, simprocAttr, g1, g2, g3, k7, o2, o2H, n2, t1, t2, hpr, hpc, hp1, hb]; (repeat' apply And.intro) <;> first | trivial | exact .inl (by decide +kernel)) ?_; try simp (maxSteps := 2000000) only [Ty.w, simprocAttr, W]) | (rw [if_pos]; rotate_left 1; omega; simp (maxSteps := 2000000) only [Ty.w, simprocAttr, W]))
         (simp (maxSteps := 2000000) only [Ty.w, simprocAttr, W, Ty.all, Fm.cells])
         exact hpush
        | false =>
         cases k8 : (op.data.toList == (#[101, 120, 105, 115, 116, 115] : Array UInt8).toList) with
         | true =>
          rw [if_pos (by simp [isQ, n7, n8, k8])]
          obtain ⟨hg, p, H, hn, o1, o2, tl, t1, t2, t3, t4, hgH, hpc, hp1⟩ := hI
          have hwp := writeParams_c (l := params) hpl
          have hli : ∀ h : Heap, PCall Try.prog 110 [.imm 6 (Sx.rows (paramsW params))] h fun r h' => r = .agg (listM (paramsW params)).cells ∧ h' = h := fun h => list_c rfl (fun _ => frz_imm (sxs_in _ _))
          generalize hX : listM (paramsW params) = X at hli ⊢
          clear hX
          generalize Sx.rows (paramsW params) = PR at hwp hli
          have o2H : H.obj (h.next + 1) = _ := (t4 _ (by omega)).trans o2
          have n2 : (h.next + 1 = H.next) = False := by simp; omega
          have hpr := Sx.rows_len L0
          have hpush := WrI.push (L := L0) (X := X) (m := L0.length + 1) hn o1 t3 t4 hgH rfl
          generalize Sx.rows L0 = R at t1 hpr hpush
          have hb : (L0.length + 1) * 72 ≤ 140737488355328 := by omega
          obtain ⟨ki, va, li, co, te, ks⟩ := X
          simp only [Sx.cells] at hli hpush
          have W := And.intro g1 (And.intro g2 (And.intro g3 (And.intro k7 (And.intro k8 (And.intro o2 (And.intro o2H (And.intro n2 (And.intro t1 (And.intro t2 (And.intro hpr (And.intro hpc (And.intro hp1 hb))))))))))))
          repeat' (first | refine a_seq fun K hK => ?_ | ((first | refine a_regionS ?_ | refine a_drawS (by decide +kernel) ?_); simp (maxSteps := 2000000) only [Ty.w, simprocAttr, W]) | (refine a_cond _ (by (try simp (maxSteps := 2000000) only [Ty.w, simprocAttr, W]); rfl) (fun hb => ?_) (fun hb => ?_) <;> (try simp only [hb0, decide_eq_true_eq, decide_eq_false_iff_not, simprocAttr] at hb) <;> (try (exfalso; omega))) | (refine hK _ _ ?_; clear hK; try simp only [pst0, simprocAttr]))
          (first | refine a_dcall0 (hwp _) (by (try simp only [Ty.w, simprocAttr, W]); try rfl) ?_ | refine a_dcallA (hwp _) (by (try simp only [Ty.w, simprocAttr, W]); try rfl) (by simp only [Ty.w, simprocAttr, W]; try trivial) ?_); simp (maxSteps := 2000000) only [Ty.w, simprocAttr, W, Option.getD_some]
          skip
          (first | refine a_dcall0 (hli _) (by (try simp only [Ty.w, simprocAttr, W]); try rfl) ?_ | refine a_dcallA (hli _) (by (try simp only [Ty.w, simprocAttr, W]); try rfl) (by simp only [Ty.w, simprocAttr, W]; try trivial) ?_); simp (maxSteps := 2000000) only [Ty.w, simprocAttr, W, Option.getD_some]
          repeat' (first | (with_reducible refine a_past2 (by simp only [List.forall_mem_cons, Ty.w, simprocAttr, g1, g2, g3, k7, k8, o2, o2H, n2, t1, t2, hpr, hpc, hp1, hb]; (repeat' apply And.intro) <;> first | trivial | exact .inl (by decide +kernel)) ?_; try simp (maxSteps := 2000000) only [Ty.w, simprocAttr, W]) | (rw [if_pos]; rotate_left 1; omega; simp (maxSteps := 2000000) only [Ty.w, simprocAttr, W]))
          (simp (maxSteps := 2000000) only [Ty.w, simprocAttr, W, Ty.all, Fm.cells])
          exact hpush
         | false =>
          rw [if_neg (by simp [isQ, n7, n8, k7, k8]), List.append_nil]
          repeat' (first | refine a_seq fun K hK => ?_ | (refine a_regionS ?_; simp (maxSteps := 2000000) only [Ty.w, simprocAttr, g1, g2, g3, k7, k8]) | (refine a_skip ?_; try simp only [pst0, simprocAttr]) | (refine a_cond _ (by (try simp (maxSteps := 2000000) only [Ty.w, simprocAttr, g1, g2, g3, k7, k8]); rfl) (fun hb => ?_) (fun hb => ?_) <;> (try simp only [hb0, decide_eq_true_eq, decide_eq_false_iff_not, simprocAttr] at hb) <;> (try (exfalso; omega))) | (refine hK _ _ ?_; clear hK; try simp only [pst0, simprocAttr]))
          (simp (maxSteps := 2000000) only [Ty.w, simprocAttr, Ty.all, g1, g2, g3, Fm.cells])
          exact hI
       ·clear hI g1 g2 g3
        obtain ⟨L1, hL1, hl1⟩ : ∃ L1 : List Sx, L0 ++ (if isQ op = true then [listM (paramsW params)] else []) = L1 ∧ L1.length ≤ 2 := ⟨_, rfl, by split <;> simp <;> omega⟩
        rw [hL1]
        rw [fmWs_map]
        clear hL1 hL0 hl0
        rintro S h' ⟨g1, g2, g3, hI⟩
        simp only [Fm.cells] at g1
        have hrl : ∀ k, (L1 ++ (kids.take k).map fmW).length ≤ 1048578 := fun k => by simp; omega
        repeat' (first | refine a_seq fun K hK => ?_ | (refine a_block ?_) | (refine a_regionS ?_; simp (maxSteps := 2000000) only [Ty.w, simprocAttr, g1, g2, g3, hlK]) | (refine hK _ _ ?_; clear hK; try simp only [pst0, simprocAttr]))
        refine a_loop (fun c S h' => S 2 = .ptr h.next 0 0 ∧ S 3 = .ptr (h.next + 1) 0 0 ∧ S 75 = .imm 6 (Fm.rows kids) ∧ S 76 = .sc (.int .i64 kids.length) ∧ ∃ k : Nat, S 77 = .sc (.int .i64 k) ∧ k ≤ kids.length ∧ c = kids.length - k ∧ WrI h (L1 ++ (kids.take k).map fmW) h') kids.length ?_ ?_
        ·simp only [Ty.w, simprocAttr, g2, g3]
         refine ⟨0, rfl, by omega, rfl, ?_⟩
         simpa using hI
        ·clear hI g1 g2 g3
         rintro c S h' ⟨g2, g3, g75, g76, k, g77, hk, rfl, hI⟩
         by_cases hlt : k < kids.length
         ·have hdk : decide ((k : Int) < (kids.length : Int)) = true := by simp; omega
          have w7 : IntKind.i64.wrap ((k : Int) + 1) = k + 1 := by rw [wrap64 (by omega) (by omega)]
          obtain ⟨x, hx⟩ : ∃ x, kids[k]? = some x := ⟨_, List.getElem?_eq_getElem hlt⟩
          have hmem := List.mem_of_getElem? hx
          have hr := Fm.rows_get hx
          have hcx := ih x hmem (hks x hmem) (hsk x hmem)
          have hL : L1 ++ (kids.take (k + 1)).map fmW = L1 ++ (kids.take k).map fmW ++ [fmW x] := by rw [List.take_add_one, hx]; simp
          have hrk := hrl k
          generalize L1 ++ (kids.take k).map fmW = L2 at hI hrk hL
          obtain ⟨hg, p, H, hn, o1, o2, tl, t1, t2, t3, t4, hgH, hpc, hp1⟩ := hI
          generalize fmW x = X at hcx hL
          obtain ⟨xo, xn, xa, xp, xe, xk⟩ := x
          obtain ⟨ki, va, li, co, te, ks⟩ := X
          simp only [Fm.cells, Sx.cells] at hr hcx
          clear t1 t2 t3 t4 hgH H
          have hG2 : Grow h ((h'.new (.arr 6 [[.sc (.string ⟨#[]⟩), .sc (.string ⟨#[]⟩), .sc (.slice none 0 0), .sc (.slice none 0 0), .sc (.slice none 0 0), .sc (.slice none 0 0)]])).set h'.next (.arr 6 [[sPV xo, sPV xn, .imm 1 (strRows xa), .imm 2 (pmRows xp), .imm 5 (Ex.rows xe), .imm 6 (Fm.rows xk)]])) := (hg.new _).set hg.le _
          have m1 : ¬ h.next = h'.next := by omega
          have m2 : ¬ h.next + 1 = h'.next := by omega
          have m2' : (h.next + 1 = h'.next) = False := eq_false m2
          have tl2 := tl.up (h' := ((h'.new (.arr 6 [[.sc (.string ⟨#[]⟩), .sc (.string ⟨#[]⟩), .sc (.slice none 0 0), .sc (.slice none 0 0), .sc (.slice none 0 0), .sc (.slice none 0 0)]])).set h'.next (.arr 6 [[sPV xo, sPV xn, .imm 1 (strRows xa), .imm 2 (pmRows xp), .imm 5 (Ex.rows xe), .imm 6 (Fm.rows xk)]]))) (by simp [Heap.set, Heap.new]) fun j _ hj => by simp only [Heap.set, Heap.new]; rw [if_neg (by omega), if_neg (by omega)]
          obtain ⟨H, t1, t2, t3, t4, t5⟩ := tl2.tail
          have hgH := t5 h ⟨hG2.le, hG2.old⟩ (by omega)
          have o1x : ((h'.new (.arr 6 [[.sc (.string ⟨#[]⟩), .sc (.string ⟨#[]⟩), .sc (.slice none 0 0), .sc (.slice none 0 0), .sc (.slice none 0 0), .sc (.slice none 0 0)]])).set h'.next (.arr 6 [[sPV xo, sPV xn, .imm 1 (strRows xa), .imm 2 (pmRows xp), .imm 5 (Ex.rows xe), .imm 6 (Fm.rows xk)]])).obj h.next = some (.arr 6 [[.sc (.int .i64 0), .sc (.int .i64 0), .sc (.int .i64 0), .sc (.int .i64 0), .sc (.string ⟨#[]⟩), .sc (.slice none 0 0)]]) := by simp only [Heap.set, Heap.new, m1, if_false]; exact o1
          have o2H : H.obj (h.next + 1) = _ := (t4 _ (by omega)).trans (show ((h'.new (.arr 6 [[.sc (.string ⟨#[]⟩), .sc (.string ⟨#[]⟩), .sc (.slice none 0 0), .sc (.slice none 0 0), .sc (.slice none 0 0), .sc (.slice none 0 0)]])).set h'.next (.arr 6 [[sPV xo, sPV xn, .imm 1 (strRows xa), .imm 2 (pmRows xp), .imm 5 (Ex.rows xe), .imm 6 (Fm.rows xk)]])).obj (h.next + 1) = _ by simp only [Heap.set, Heap.new, m2, if_false]; exact o2)
          have t3' : H.next = h'.next + 1 := by rw [t3]; simp [Heap.new, Heap.set]
          have n2 : (h.next + 1 = H.next) = False := by simp; omega
          have hpr := Sx.rows_len L2
          have hpush := WrI.push (h' := ((h'.new (.arr 6 [[.sc (.string ⟨#[]⟩), .sc (.string ⟨#[]⟩), .sc (.slice none 0 0), .sc (.slice none 0 0), .sc (.slice none 0 0), .sc (.slice none 0 0)]])).set h'.next (.arr 6 [[sPV xo, sPV xn, .imm 1 (strRows xa), .imm 2 (pmRows xp), .imm 5 (Ex.rows xe), .imm 6 (Fm.rows xk)]]))) (L := L2) (X := .mk ki va li co te ks) (m := L2.length + 1) (by simp only [Heap.set, Heap.new]; omega) o1x t3 t4 ⟨hgH.1, hgH.2⟩ rfl
          have hb : (L2.length + 1) * 72 ≤ 140737488355328 := by omega
          simp only [Sx.cells] at hpush
          clear tl tl2 t5
          generalize Sx.rows L2 = R at t1 hpr hpush
          have W := And.intro g2 (And.intro g3 (And.intro g75 (And.intro g76 (And.intro g77 (And.intro w7 (And.intro m2' (And.intro o2 (And.intro o2H (And.intro n2 (And.intro t1 (And.intro t2 (And.intro hpr (And.intro hpc (And.intro hp1 hb))))))))))))))
          repeat' (first | refine a_seq fun K hK => ?_ | ((first | refine a_regionS ?_ | refine a_draw (by decide +kernel) (fun K hK => ?_)); simp (maxSteps := 2000000) only [Ty.w, simprocAttr, W, hdk, hr]) | (refine a_skip ?_; try simp only [pst0, simprocAttr]) | (refine a_cond _ (by (try simp (maxSteps := 2000000) only [Ty.w, simprocAttr, W, hdk, hr]); rfl) (fun hb => ?_) (fun hb => ?_) <;> (try simp only [hb0, decide_eq_true_eq, decide_eq_false_iff_not, simprocAttr] at hb) <;> (try (exfalso; omega))) | (refine hK _ _ ?_; clear hK; try simp only [pst0, simprocAttr]))
          (first | refine a_dcall0 (hcx _) (by (try simp only [Ty.w, simprocAttr, W]); try rfl) ?_ | refine a_dcallA (hcx _) (by (try simp only [Ty.w, simprocAttr, W]); try rfl) (by simp only [Ty.w, simprocAttr, W]; try trivial) ?_); simp (maxSteps := 2000000) only [Ty.w, simprocAttr, W, Option.getD_some]
          repeat' (first | (refine a_regionS ?_; simp (maxSteps := 2000000) only [Ty.w, simprocAttr, W]) | (refine hK _ _ ?_; clear hK; try simp only [pst0, simprocAttr]) | (with_reducible refine a_past2 (by simp only [List.forall_mem_cons, Ty.w, simprocAttr, g2, g3, g75, g76, g77, w7, m2', o2, o2H, n2, t1, t2, hpr, hpc, hp1, hb]; (repeat' apply And.intro) <;> first | trivial | exact .inl (by decide +kernel)) ?_; try simp (maxSteps := 2000000) only [Ty.w, simprocAttr, W]) | (rw [if_pos]; rotate_left 1; omega; simp (maxSteps := 2000000) only [Ty.w, simprocAttr, W]))
          exact ⟨kids.length - (k + 1), by omega, k + 1, by simp, by omega, rfl, by rw [hL]; exact hpush⟩
         ·have hdk : decide ((k : Int) < (kids.length : Int)) = false := by simp; omega
          have hke : k = kids.length := by omega
          subst hke
          rw [List.take_length] at hI
          obtain ⟨hg, p, H, hn, o1, o2, tl, t1, t2, t3, t4, hgH, hpc, hp1⟩ := hI
          repeat' (first | refine a_seq fun K hK => ?_ | ((first | refine a_regionS ?_ | refine a_ret ?_); simp (maxSteps := 2000000) only [Ty.w, simprocAttr, g2, g3, g75, g76, g77, hdk, o1, o2, hpc]) | (refine a_exit ?_; try simp only [pst0, simprocAttr]) | (refine a_cond _ (by (try simp (maxSteps := 2000000) only [Ty.w, simprocAttr, g2, g3, g75, g76, g77, hdk, o1, o2, hpc]); rfl) (fun hb => ?_) (fun hb => ?_) <;> (try simp only [hb0, decide_eq_true_eq, decide_eq_false_iff_not, simprocAttr] at hb) <;> (try (exfalso; omega))) | ((first | refine hK _ _ ?_ | (clear hK; refine hK _ _ ?_)); clear hK; try simp only [pst0, simprocAttr]) | (rw [if_pos]; rotate_left 1; omega; simp (maxSteps := 2000000) only [Ty.w, simprocAttr, g2, g3, g75, g76, g77, hdk, o1, o2, hpc]))
          refine ⟨?_, hg.set (Nat.le_refl _) _⟩
          have tl2 : Tl (h'.set h.next (.arr 6 [[.sc (.int .i64 3), .sc (.int .i64 0), .sc (.int .i64 0), .sc (.int .i64 0), .sc (.string ⟨#[]⟩), p]])) (h.next + 2) 6 p (Sx.rows (L1 ++ kids.map fmW)) := tl.up (Nat.le_refl _) fun j hj _ => by simp only [Heap.set]; rw [if_neg (by omega)]
          simp only [listM, Sx.cells, FrzTo, FrzL]
          exact ⟨_, rfl, rfl, rfl, rfl, rfl, rfl, by have := tl_frzX (Tl.low tl2 (show h.next ≤ h.next + 2 by omega)); simpa only [FrzTo] using this, trivial⟩
theorem paramsW_ok : ∀ l : List Pm, (∀ p ∈ l, p.ok) → Sx.oks (paramsW l)
 | [], _ => by simp [paramsW, Sx.oks]
 | p :: l, h => by
  have hp := h p (by simp)
  simp only [paramsW, Sx.oks]
  exact ⟨wordM_ok hp.1, wordM_ok (by simp [bigN, ByteArray.size]), wordM_ok hp.2, paramsW_ok l fun q hq => h q (by simp [hq])⟩
theorem parts_cmp {op name : ByteArray} {args : List ByteArray} {params : List Pm} {ne nk : Nat} (h1 : ¬ bEq op opAtom = true) (h2 : ¬ bEq op opSame = true) (h3 : isCmp op = true) (hp : partsOk op name args params ne nk = true) : ne = 2 := by
 unfold partsOk shapeOf at hp
 rw [if_neg h1, if_neg h2] at hp
 simp only [isCmp, Bool.or_eq_true] at h3
 by_cases k1 : bEq op opLt = true
 ·simp [k1] at hp; omega
 by_cases k2 : bEq op opLe = true
 ·simp [k1, k2] at hp; omega
 have k3 : bEq op opEq = true := by rcases h3 with (h3 | h3) | h3 <;> simp_all
 simp [k1, k2, k3] at hp; omega
theorem fmW_ok : ∀ f : Fm, f.ok → f.small → shapedF f = true → (fmW f).ok := by
 refine Fm.ind ?_
 intro op name args params exprs kids ih hok hsm hsh
 simp only [Fm.ok] at hok
 simp only [Fm.small] at hsm
 simp only [shapedF, Bool.and_eq_true] at hsh
 obtain ⟨⟨hpo, _⟩, hsh⟩ := hsh
 rw [shapedFs_iff] at hsh
 obtain ⟨hop, hname, hargs, ⟨_, hps⟩, ⟨_, hes⟩, _, hks⟩ := hok
 obtain ⟨hal, hpl, hse, hkl, hsk⟩ := hsm
 rw [Fm.oks_iff] at hks
 rw [Ex.oks_iff] at hes
 have hse := Ex.smalls_iff.1 hse
 have hsk := Fm.smalls_iff.1 hsk
 unfold fmW
 split
 ·exact wordsM_ok hname hal hargs.2
 split
 ·exact wordsM_ok (by simp [opEq, bigN, ByteArray.size]) hal hargs.2
 split
 ·rename_i c1 c2 c3
  have h2 := parts_cmp c1 c2 c3 hpo
  refine listM_ok (by simp only [List.length_cons, List.length_map]; unfold bigN; omega) (Sx.oks_iff.2 ?_)
  intro k hk
  simp only [List.mem_cons, List.mem_map] at hk
  rcases hk with rfl | ⟨e, he, rfl⟩
  ·exact wordM_ok hop
  ·exact exW_ok e (hes e he) (hse e he)
 ·rw [fmWs_map]
  refine listM_ok ?_ (Sx.oks_iff.2 ?_)
  ·simp only [List.length_append, List.length_map]
   have a1 : (if (bEq op opAnd && kids.isEmpty) = true then [] else [wordM op]).length ≤ 1 := by split <;> simp
   have a2 : (if isQ op = true then [listM (paramsW params)] else []).length ≤ 1 := by split <;> simp
   unfold bigN; omega
  ·intro k hk
   simp only [List.mem_append, List.mem_map] at hk
   rcases hk with (hk | hk) | ⟨e, he, rfl⟩
   ·split at hk
    ·simp at hk
    ·simp only [List.mem_singleton] at hk; subst hk; exact wordM_ok hop
   ·split at hk
    ·simp only [List.mem_singleton] at hk; subst hk
     exact listM_ok (by rw [paramsW_len]; unfold bigN; omega) (paramsW_ok _ hps)
    ·simp at hk
   ·exact ih e he (hks e he) (hsk e he) (hsh e he)
theorem formedMs_shaped : ∀ (l : List Ex) (d n : Nat), (formedMs l d n).1 = true → ∀ e ∈ l, shapedE e = true
 | [], _, _, _ => by simp
 | e :: l, d, n, h => by
  unfold formedMs at h
  have h1 := formedM_shaped e d n
  split at h
  ·rename_i c he
   rw [he] at h1
   intro x hx
   rcases List.mem_cons.1 hx with rfl | hx
   ·exact h1 rfl
   ·exact formedMs_shaped l d c h x hx
  ·simp at h
mutual
theorem shapedM_F : ∀ (f : Fm) (d n : Nat), (shapedM f d n).1 = true → shapedF f = true
 | .mk op name args params exprs kids, d, n, h => by
  unfold shapedM at h
  split at h
  ·split at h
   ·rename_i hp
    have h1 := formedMs_shaped exprs (d + 1) (n + 1)
    split at h
    ·rename_i c he
     rw [he] at h1
     simp only [shapedF, Bool.and_eq_true, List.all_eq_true]
     exact ⟨⟨hp, h1 rfl⟩, shapedMs_F kids (d + 1) c h⟩
    ·simp at h
   ·simp at h
  ·simp at h
theorem shapedMs_F : ∀ (l : List Fm) (d n : Nat), (shapedMs l d n).1 = true → shapedFs l = true
 | [], _, _, _ => by simp [shapedFs]
 | k :: l, d, n, h => by
  unfold shapedMs at h
  have h1 := shapedM_F k d n
  split at h
  ·rename_i c he
   rw [he] at h1
   simp only [shapedFs, Bool.and_eq_true]
   exact ⟨h1 rfl, shapedMs_F l d c h⟩
  ·simp at h
end
theorem fvalid_c {f : Fm} (hok : f.ok) (hsm : f.small) (h : Heap) : PCall Try.prog 26 [.agg f.cells] h fun r h' => r = .sc (.bool (validF f)) ∧ h' = h := by
 have hf := shaped_c f hok 0 0 (by omega) (by omega) h.next (h.new (.arr 1 [[.sc (.int .i64 0)]])) (by simp [Heap.new, cntO])
 have hsh := shapedM_F f 0 0
 have hx := fmW_ok f hok hsm
 have hw0 := write_c f hsm
 have hv : validF f = ((shapedM f 0 0).1 && (svalid (fmW f) 0 0).1) := rfl
 rw [hv]
 refine PCall.quiet Ty.hb_26 ?_
 generalize shapedM f 0 0 = V at hf hsh ⊢
 obtain ⟨b, c⟩ := V
 cases b with
 | false =>
  obtain ⟨op, name, args, params, exprs, kids⟩ := f
  simp only [Fm.cells, Int.natCast_zero] at hf ⊢
  refine pcall_body (ow := fun t => t == 5) (wf := fun _ => false) Ty.mixed Try.func26 rfl Ty.hb_26 (by rw [Try.ntmps26]; simp) ?_
  rw [Try.ntmps26, Try.results26]
  repeat' (first | refine a_seq fun K hK => ?_ | (refine a_regionS ?_; simp (maxSteps := 2000000) only [Ty.w, simprocAttr]) | (refine hK _ _ ?_; clear hK; try simp only [pst0, simprocAttr]))
  refine owp_useH (hf) (by (try simp only [Ty.w, simprocAttr, ]); try rfl) ?_; simp (maxSteps := 2000000) only [Ty.w, simprocAttr, ]
  repeat' (first | (refine a_ret ?_; simp (maxSteps := 2000000) only [Ty.w, simprocAttr]) | (refine hK _ _ ?_; clear hK; try simp only [pst0, simprocAttr]))
  exact ((Grow.refl h).new _).set (Nat.le_refl _) _
 | true =>
  have hw := hw0 (hsh rfl)
  have hvv := svalid_c (hx (hsh rfl))
  clear hw0
  generalize fmW f = X at hw hvv ⊢
  obtain ⟨op, name, args, params, exprs, kids⟩ := f
  obtain ⟨ki, va, li, co, te, ks⟩ := X
  simp only [Fm.cells, Sx.cells, Int.natCast_zero] at hf hw hvv ⊢
  refine pcall_body (ow := fun t => t == 5) (wf := fun _ => false) Ty.mixed Try.func26 rfl Ty.hb_26 (by rw [Try.ntmps26]; simp) ?_
  rw [Try.ntmps26, Try.results26]
  repeat' (first | refine a_seq fun K hK => ?_ | (refine a_regionS ?_; simp (maxSteps := 2000000) only [Ty.w, simprocAttr]) | (refine hK _ _ ?_; clear hK; try simp only [pst0, simprocAttr]))
  refine owp_useH (hf) (by (try simp only [Ty.w, simprocAttr, ]); try rfl) ?_; simp (maxSteps := 2000000) only [Ty.w, simprocAttr, ]
  skip
  refine owp_useQ (hw _) (by (try simp only [Ty.w, simprocAttr, ]); try rfl) ?_; simp (maxSteps := 2000000) only [Ty.w, simprocAttr, ]
  skip
  refine owp_useQ (hvv _) (by (try simp only [Ty.w, simprocAttr, ]); try rfl) ?_; simp (maxSteps := 2000000) only [Ty.w, simprocAttr, ]
  repeat' (first | (refine a_ret ?_; simp (maxSteps := 2000000) only [Ty.w, simprocAttr]) | (refine hK _ _ ?_; clear hK; try simp only [pst0, simprocAttr]))
  exact ((Grow.refl h).new _).set (Nat.le_refl _) _
theorem fWrite_c {f : Fm} (hok : f.ok) (hsm : f.small) (h : Heap) : PCall Try.prog 28 [.agg f.cells] h fun r h' => r = (if validF f then .tup [.agg (fmW f).cells, .sc .nilIface] else .tup [.agg zeroSx.cells, errV 2]) ∧ h' = h := by
 have hv := fvalid_c hok hsm
 refine PCall.frz Ty.hb_28 ?_
 cases hb : validF f with
 | false =>
  rw [hb] at hv
  obtain ⟨op, name, args, params, exprs, kids⟩ := f
  simp only [Fm.cells, Bool.false_eq_true, if_false] at hv ⊢
  refine pcall_body (ow := fun _ => false) (wf := fun _ => false) Ty.mixed Try.func28 rfl Ty.hb_28 (by rw [Try.ntmps28]; simp) ?_
  rw [Try.ntmps28, Try.results28]
  repeat' (first | refine a_seq fun K hK => ?_ | (refine a_regionS ?_; simp (maxSteps := 2000000) only [Ty.w, simprocAttr]) | (refine hK _ _ ?_; clear hK; try simp only [pst0, simprocAttr]))
  refine owp_useQ (hv _) (by (try simp only [Ty.w, simprocAttr, Bool.not_false]); try rfl) ?_; simp (maxSteps := 2000000) only [Ty.w, simprocAttr, Bool.not_false]
  repeat' (first | refine a_seq fun K hK => ?_ | ((first | refine a_regionS ?_ | refine a_ret ?_); simp (maxSteps := 2000000) only [Ty.w, simprocAttr, Bool.not_false]) | (refine hK _ _ ?_; clear hK; try simp only [pst0, simprocAttr]))
  refine ⟨?_, ((Grow.refl h).new _).set (Nat.le_refl _) _⟩
  simp only [zeroSx, errV, Sx.cells, Sx.rows, FrzTo, FrzL]
  exact ⟨_, rfl, ⟨_, rfl, rfl, rfl, rfl, rfl, rfl, .inr (.inl ⟨rfl, .inr rfl⟩), trivial⟩, rfl, trivial⟩
 | true =>
  rw [hb] at hv
  have hsh := shapedM_F f 0 0 (by unfold validF at hb; simp only [Bool.and_eq_true] at hb; exact hb.1)
  have hw := write_c f hsm hsh
  have hfz := fun (n : Nat) (h : Heap) => sx_frz n h (fmW f)
  generalize fmW f = X at hw hfz ⊢
  obtain ⟨op, name, args, params, exprs, kids⟩ := f
  obtain ⟨ki, va, li, co, te, ks⟩ := X
  simp only [Fm.cells, Sx.cells, if_true] at hv hw hfz ⊢
  refine pcall_body (ow := fun _ => false) (wf := fun _ => false) Ty.mixed Try.func28 rfl Ty.hb_28 (by rw [Try.ntmps28]; simp) ?_
  rw [Try.ntmps28, Try.results28]
  repeat' (first | refine a_seq fun K hK => ?_ | (refine a_regionS ?_; simp (maxSteps := 2000000) only [Ty.w, simprocAttr]) | (refine hK _ _ ?_; clear hK; try simp only [pst0, simprocAttr]))
  refine owp_useQ (hv _) (by (try simp only [Ty.w, simprocAttr, Bool.not_true]); try rfl) ?_; simp (maxSteps := 2000000) only [Ty.w, simprocAttr, Bool.not_true]
  repeat' (first | refine a_seq fun K hK => ?_ | (refine a_regionS ?_; simp (maxSteps := 2000000) only [Ty.w, simprocAttr, Bool.not_true]) | (refine a_skip ?_; try simp only [pst0, simprocAttr]) | (refine a_cond _ (by (try simp (maxSteps := 2000000) only [Ty.w, simprocAttr, Bool.not_true]); rfl) (fun hb => ?_) (fun hb => ?_) <;> (try simp only [hb0, decide_eq_true_eq, decide_eq_false_iff_not, simprocAttr] at hb) <;> (try (exfalso; omega))) | (refine hK _ _ ?_; clear hK; try simp only [pst0, simprocAttr]))
  refine owp_useQ (hw _) (by (try simp only [Ty.w, simprocAttr, ]); try rfl) ?_; simp (maxSteps := 2000000) only [Ty.w, simprocAttr, ]
  repeat' (first | (refine a_ret ?_; simp (maxSteps := 2000000) only [Ty.w, simprocAttr]) | (refine hK _ _ ?_; clear hK; try simp only [pst0, simprocAttr]))
  refine ⟨?_, ((Grow.refl h).new _).set (Nat.le_refl _) _⟩
  simp only [FrzTo, FrzL]
  exact ⟨_, rfl, ⟨_, rfl, hfz _ _⟩, rfl, trivial⟩
end Go.Proofs.Ytjlkapgpjamnkaa
namespace Go.Proofs.Ytjlkapgpjamnkaa
open Go.AM
theorem bEq_eq {a b : ByteArray} (h : bEq a b = true) : a = b := ba_ext (by simpa [bEq] using h)
end Go.Proofs.Ytjlkapgpjamnkaa
namespace Go.Proofs.Ytjlkapgpjamnkaa
open Go.AM
set_option maxHeartbeats 4000000
set_option maxRecDepth 20000
theorem nsucc (n : Nat) : (n = n + 1) = False := by simp
end Go.Proofs.Ytjlkapgpjamnkaa
namespace Go.Proofs.Ytjlkapgpjamnkaa
open Go.AM
set_option maxHeartbeats 4000000
set_option maxRecDepth 20000
theorem rwriteParams_c {l : List Pm} (hl : l.length ≤ 1048576) (h : Heap) : PCall Try.prog 72 [.imm 2 (pmRows l)] h fun r h' => r = .imm 6 (Sx.rows (paramsW l)) ∧ h' = h := by
 refine PCall.frz Ty.hb_72 ?_
 have hll := pmRows_len l
 have hw : ∀ (s : ByteArray) (h : Heap), PCall Try.prog 71 [sPV s] h fun r h' => r = .agg (wordM s).cells ∧ h' = h := fun s h => rwd_c
 simp only [wordM, Sx.cells, Sx.rows] at hw
 refine pcall_body (ow := fun _ => false) (wf := fun _ => false) Ty.mixed Try.func72 rfl Ty.hb_72 (by rw [Try.ntmps72]; simp) ?_
 rw [Try.ntmps72, Try.results72]
 repeat' (first | refine a_seq fun K hK => ?_ | (refine a_block ?_) | (refine a_regionS ?_; simp only [Ty.w, simprocAttr, hll]) | (refine hK _ _ ?_; clear hK; try simp only [pst0, simprocAttr]))
 refine a_loop (fun m S h' => S 0 = .imm 2 (pmRows l) ∧ ∃ (k : Nat) (o : PV), S 4 = .sc (.int .i64 k) ∧ S 3 = o ∧ k ≤ l.length ∧ m = l.length - k ∧ Grow h h' ∧ Tl h' h.next 6 o (Sx.rows (paramsW (l.take k)))) l.length ?_ ?_
 ·simp only [Ty.w, simprocAttr]
  exact ⟨0, _, rfl, rfl, by omega, rfl, Grow.refl _, Tl.nil⟩
 ·rintro m S h' ⟨g0, k, o, g4, g3, hk, rfl, hg, tl⟩
  by_cases hlt : k < l.length
  ·have hd : decide ((k : Int) < (l.length : Int)) = true := by simp; omega
   have w7 : IntKind.i64.wrap ((k : Int) + 1) = k + 1 := by rw [wrap64 (by omega) (by omega)]
   obtain ⟨p, hx⟩ : ∃ p, l[k]? = some p := ⟨_, List.getElem?_eq_getElem hlt⟩
   have hr := pmRows_get hx
   obtain ⟨H, t1, t2, t3, t4, t5⟩ := tl.tail
   have hpr : (Sx.rows (paramsW (l.take k))).length = 3 * k := by rw [Sx.rows_len, paramsW_len, List.length_take]; omega
   have hb : (3 * k + 3) * 72 ≤ 140737488355328 := by omega
   have hR : Sx.rows (paramsW (l.take (k + 1))) = Sx.rows (paramsW (l.take k)) ++ [[.sc (.int .i64 1), .sc (.int .i64 0), .sc (.int .i64 0), .sc (.int .i64 0), sPV p.name, .imm 6 []], [.sc (.int .i64 1), .sc (.int .i64 0), .sc (.int .i64 0), .sc (.int .i64 0), sPV ⟨#[45]⟩, .imm 6 []], [.sc (.int .i64 1), .sc (.int .i64 0), .sc (.int .i64 0), .sc (.int .i64 0), sPV p.type, .imm 6 []]] := by
    rw [List.take_add_one, hx, paramsW_append]
    simp only [Sx.rows_map, List.map_append, Option.toList_some, paramsW, List.map_cons, List.map_nil, wordM, Sx.cells]
   generalize Sx.rows (paramsW (l.take k)) = R at tl t1 t2 hpr hR
   have W := And.intro g0 (And.intro g4 (And.intro g3 (And.intro hr (And.intro w7 (And.intro t1 (And.intro t2 (And.intro hpr hb)))))))
   repeat' (first | refine a_seq fun K hK => ?_ | (refine a_block ?_) | ((first | refine a_regionS ?_ | refine a_draw (by decide +kernel) (fun K hK => ?_)); simp only [Ty.w, simprocAttr, W, hd, hll]) | (refine a_skip ?_; try simp only [pst0, simprocAttr]) | (refine a_cond _ (by (try simp only [Ty.w, simprocAttr, W, hd, hll]); rfl) (fun hb => ?_) (fun hb => ?_) <;> (try simp only [hb0, decide_eq_true_eq, decide_eq_false_iff_not, simprocAttr] at hb) <;> (try (exfalso; omega))) | (refine hK _ _ ?_; clear hK; try simp only [pst0, simprocAttr]))
   (first | refine a_dcall0 (hw p.name _) (by (try simp only [Ty.w, simprocAttr, W]); try rfl) ?_ | refine a_dcallA (hw p.name _) (by (try simp only [Ty.w, simprocAttr, W]); try rfl) (by simp only [Ty.w, simprocAttr, W]; try trivial) ?_); simp only [Ty.w, simprocAttr, W, Option.getD_some]
   skip
   (first | refine a_dcall0 (hw ⟨#[45]⟩ _) (by (try simp only [Ty.w, simprocAttr, W]); try rfl) ?_ | refine a_dcallA (hw ⟨#[45]⟩ _) (by (try simp only [Ty.w, simprocAttr, W]); try rfl) (by simp only [Ty.w, simprocAttr, W]; try trivial) ?_); simp only [Ty.w, simprocAttr, W, Option.getD_some]
   skip
   (first | refine a_dcall0 (hw p.type _) (by (try simp only [Ty.w, simprocAttr, W]); try rfl) ?_ | refine a_dcallA (hw p.type _) (by (try simp only [Ty.w, simprocAttr, W]); try rfl) (by simp only [Ty.w, simprocAttr, W]; try trivial) ?_); simp only [Ty.w, simprocAttr, W, Option.getD_some]
   repeat' (first | (refine a_regionS ?_; simp only [Ty.w, simprocAttr, W]) | (refine hK _ _ ?_; clear hK; try simp only [pst0, simprocAttr]) | (with_reducible refine a_past2 (by simp only [List.forall_mem_cons, Ty.w, simprocAttr, g0, g4, g3, hr, w7, t1, t2, hpr, hb]; (repeat' apply And.intro) <;> first | trivial | exact .inl (by decide +kernel)) ?_; try simp only [Ty.w, simprocAttr, W]) | (rw [if_pos]; rotate_left 1; omega; simp only [Ty.w, simprocAttr, W]))
   have hkp := t5 h ⟨hg.le, hg.old⟩ (Nat.le_refl _)
   have hgH : Grow h H := ⟨hkp.1, hkp.2⟩
   rw [← hR]
   have hRl : 3 * k + 3 = (Sx.rows (paramsW (l.take (k + 1)))).length := by rw [Sx.rows_len, paramsW_len, List.length_take]; omega
   exact ⟨l.length - (k + 1), by omega, k + 1, .own H.next 0 (3 * k + 3), by simp, by first | rfl | rw [t3], by omega, rfl, hgH.new _, Tl.grow hkp.1 hRl⟩
  ·have hd : decide ((k : Int) < (l.length : Int)) = false := by simp; omega
   have hke : k = l.length := by omega
   subst hke
   rw [List.take_length] at tl
   repeat' (first | refine a_seq fun K hK => ?_ | ((first | refine a_regionS ?_ | refine a_ret ?_); simp only [Ty.w, simprocAttr, g0, g4, g3, hd, hll]) | (refine a_exit ?_; try simp only [pst0, simprocAttr]) | (refine a_cond _ (by (try simp only [Ty.w, simprocAttr, g0, g4, g3, hd, hll]); rfl) (fun hb => ?_) (fun hb => ?_) <;> (try simp only [hb0, decide_eq_true_eq, decide_eq_false_iff_not, simprocAttr] at hb) <;> (try (exfalso; omega))) | ((first | refine hK _ _ ?_ | (clear hK; refine hK _ _ ?_)); clear hK; try simp only [pst0, simprocAttr]))
   exact ⟨tl_frzX tl, hg⟩
theorem rwriteF_c : ∀ f : Fm, f.small → shapedF f = true → ∀ h : Heap, PCall Try.prog 31 [.agg f.cells] h fun r h' => r = .agg (fmW f).cells ∧ h' = h := by
 refine Fm.ind ?_
 intro op name args params exprs kids ih hsm hsh h
 simp only [Fm.small] at hsm
 obtain ⟨hal, hpl, hes, hkl, hks⟩ := hsm
 rw [Ex.smalls_iff] at hes
 rw [Fm.smalls_iff] at hks
 simp only [shapedF, Bool.and_eq_true] at hsh
 obtain ⟨⟨hpo, hse⟩, hsk⟩ := hsh
 rw [shapedFs_iff] at hsk
 rw [List.all_eq_true] at hse
 have hlK := Fm.rows_len kids
 unfold fmW
 refine PCall.frz Ty.hb_31 ?_
 cases k1 : (op.data.toList == (#[97, 116, 111, 109] : Array UInt8).toList) with
 | true =>
  rw [if_pos (show bEq op opAtom = true from k1)]
  have hw : ∀ h : Heap, PCall Try.prog 70 [sPV name, .imm 1 (strRows args)] h fun r h' => r = .agg (wordsM name args).cells ∧ h' = h := fun h => rlist_c hal
  have hfz := fun (n : Nat) (h : Heap) => sx_frz n h (wordsM name args)
  simp only [Fm.cells]
  generalize wordsM name args = X at hw hfz ⊢
  obtain ⟨ki, va, li, co, te, ks⟩ := X
  simp only [Sx.cells] at hw hfz ⊢
  refine pcall_body (ow := fun _ => false) (wf := fun _ => false) Ty.mixed Try.func31 rfl Ty.hb_31 (by rw [Try.ntmps31]; simp) ?_
  rw [Try.ntmps31, Try.results31]
  repeat' (first | refine a_seq fun K hK => ?_ | (refine a_regionS ?_; simp only [Ty.w, simprocAttr, k1]) | (refine hK _ _ ?_; clear hK; try simp only [pst0, simprocAttr]))
  refine owp_useQ (hw _) (by (try simp only [Ty.w, simprocAttr, k1]); try rfl) ?_; simp only [Ty.w, simprocAttr, k1]
  repeat' (first | (refine a_ret ?_; simp only [Ty.w, simprocAttr]) | (refine hK _ _ ?_; clear hK; try simp only [pst0, simprocAttr]))
  refine ⟨?_, ((Grow.refl h).new _).set (Nat.le_refl _) _⟩
  simp only [FrzTo]
  exact ⟨_, rfl, hfz _ _⟩
 | false =>
  cases k2 : (op.data.toList == (#[115, 97, 109, 101] : Array UInt8).toList) with
  | true =>
   rw [if_neg (by rw [(show bEq op opAtom = false from k1)]; simp)]
   rw [if_pos (show bEq op opSame = true from k2)]
   have hw : ∀ h : Heap, PCall Try.prog 70 [sPV ⟨#[61]⟩, .imm 1 (strRows args)] h fun r h' => r = .agg (wordsM opEq args).cells ∧ h' = h := fun h => rlist_c hal
   have hfz := fun (n : Nat) (h : Heap) => sx_frz n h (wordsM opEq args)
   simp only [Fm.cells]
   generalize wordsM opEq args = X at hw hfz ⊢
   obtain ⟨ki, va, li, co, te, ks⟩ := X
   simp only [Sx.cells] at hw hfz ⊢
   refine pcall_body (ow := fun _ => false) (wf := fun _ => false) Ty.mixed Try.func31 rfl Ty.hb_31 (by rw [Try.ntmps31]; simp) ?_
   rw [Try.ntmps31, Try.results31]
   repeat' (first | refine a_seq fun K hK => ?_ | (refine a_regionS ?_; simp only [Ty.w, simprocAttr, k1, k2]) | (refine hK _ _ ?_; clear hK; try simp only [pst0, simprocAttr]))
   refine owp_useQ (hw _) (by (try simp only [Ty.w, simprocAttr, k1, k2]); try rfl) ?_; simp only [Ty.w, simprocAttr, k1, k2]
   repeat' (first | (refine a_ret ?_; simp only [Ty.w, simprocAttr]) | (refine hK _ _ ?_; clear hK; try simp only [pst0, simprocAttr]))
   refine ⟨?_, ((Grow.refl h).new _).set (Nat.le_refl _) _⟩
   simp only [FrzTo]
   exact ⟨_, rfl, hfz _ _⟩
  | false =>
   rw [if_neg (by rw [(show bEq op opAtom = false from k1)]; simp), if_neg (by rw [(show bEq op opSame = false from k2)]; simp)]
   cases k3 : (op.data.toList == (#[60] : Array UInt8).toList) with
   | true =>
    rw [if_pos (by simp [isCmp, (show bEq op opAtom = false from k1), (show bEq op opSame = false from k2), (show bEq op opLt = true from k3)])]
    have hx2 : exprs.length = 2 := by have q := hpo; simp [partsOk, shapeOf, (show bEq op opAtom = false from k1), (show bEq op opSame = false from k2), (show bEq op opLt = true from k3)] at q; omega
    obtain ⟨a, b, rfl⟩ : ∃ a b, exprs = [a, b] := by
     match exprs, hx2 with
     | [a, b], _ => exact ⟨a, b, rfl⟩
    have ca := rwriteE_c a (hes a (by simp)) (hse a (by simp))
    have cb := rwriteE_c b (hes b (by simp)) (hse b (by simp))
    have hw := fun h : Heap => rwd_c (h := h) (s := op)
    simp only [List.map_cons, List.map_nil]
    have hfz := fun (n : Nat) (h : Heap) => sx_frz n h (listM [wordM op, exW a, exW b])
    generalize exW a = xa at ca hfz ⊢
    generalize exW b = xb at cb hfz ⊢
    clear ih hks hpo hse hsk hes
    obtain ⟨aop, aname, an, aargs, akids⟩ := a
    obtain ⟨bop, bname, bn, bargs, bkids⟩ := b
    obtain ⟨ki, va, li, co, te, ks⟩ := xa
    obtain ⟨ki2, va2, li2, co2, te2, ks2⟩ := xb
    simp only [Fm.cells, Ex.cells, Ex.rows, listM, Sx.cells, Sx.rows, wordM] at ca cb hw hfz ⊢
    refine pcall_body (ow := fun _ => false) (wf := fun _ => false) Ty.mixed Try.func31 rfl Ty.hb_31 (by rw [Try.ntmps31]; simp) ?_
    rw [Try.ntmps31, Try.results31]
    repeat' (first | refine a_seq fun K hK => ?_ | ((first | refine a_regionS ?_ | refine a_drawS (by decide +kernel) ?_); simp only [Ty.w, simprocAttr, k1, k2, k3]) | (refine a_skip ?_; try simp only [pst0, simprocAttr]) | (refine a_cond _ (by (try simp only [Ty.w, simprocAttr, k1, k2, k3]); rfl) (fun hb => ?_) (fun hb => ?_) <;> (try simp only [hb0, decide_eq_true_eq, decide_eq_false_iff_not, simprocAttr] at hb) <;> (try (exfalso; omega))) | (refine hK _ _ ?_; clear hK; try simp only [pst0, simprocAttr]))
    (first | refine a_dcall0 (hw _) (by (try simp only [Ty.w, simprocAttr, ]); try rfl) ?_ | refine a_dcallA (hw _) (by (try simp only [Ty.w, simprocAttr, ]); try rfl) (by simp only [Ty.w, simprocAttr, ]; try trivial) ?_); simp only [Ty.w, simprocAttr, Option.getD_some, ]
    skip
    (first | refine a_dcall0 (ca _) (by (try simp only [Ty.w, simprocAttr, ]); try rfl) ?_ | refine a_dcallA (ca _) (by (try simp only [Ty.w, simprocAttr, ]); try rfl) (by simp only [Ty.w, simprocAttr, ]; try trivial) ?_); simp only [Ty.w, simprocAttr, Option.getD_some, ]
    skip
    (first | refine a_dcall0 (cb _) (by (try simp only [Ty.w, simprocAttr, ]); try rfl) ?_ | refine a_dcallA (cb _) (by (try simp only [Ty.w, simprocAttr, ]); try rfl) (by simp only [Ty.w, simprocAttr, ]; try trivial) ?_); simp only [Ty.w, simprocAttr, Option.getD_some, ]
    repeat' (first | (refine a_ret ?_; simp only [Ty.w, simprocAttr]) | (refine hK _ _ ?_; clear hK; try simp only [pst0, simprocAttr]) | (with_reducible refine a_past2 (by simp only [List.forall_mem_cons, Ty.w, simprocAttr]; (repeat' apply And.intro) <;> first | trivial | exact .inl (by decide +kernel)) ?_; try simp only [Ty.w, simprocAttr]))
    refine ⟨?_, ((Grow.refl h).new _).set (Nat.le_refl _) _⟩
    simp only [FrzTo]
    exact ⟨_, rfl, hfz _ _⟩
   | false =>
    cases k4 : (op.data.toList == (#[60, 61] : Array UInt8).toList) with
    | true =>
     rw [if_pos (by simp [isCmp, (show bEq op opAtom = false from k1), (show bEq op opSame = false from k2), (show bEq op opLt = false from k3), (show bEq op opLe = true from k4)])]
     have hx2 : exprs.length = 2 := by have q := hpo; simp [partsOk, shapeOf, (show bEq op opAtom = false from k1), (show bEq op opSame = false from k2), (show bEq op opLt = false from k3), (show bEq op opLe = true from k4)] at q; omega
     obtain ⟨a, b, rfl⟩ : ∃ a b, exprs = [a, b] := by
      match exprs, hx2 with
      | [a, b], _ => exact ⟨a, b, rfl⟩
     have ca := rwriteE_c a (hes a (by simp)) (hse a (by simp))
     have cb := rwriteE_c b (hes b (by simp)) (hse b (by simp))
     have hw := fun h : Heap => rwd_c (h := h) (s := op)
     simp only [List.map_cons, List.map_nil]
     have hfz := fun (n : Nat) (h : Heap) => sx_frz n h (listM [wordM op, exW a, exW b])
     generalize exW a = xa at ca hfz ⊢
     generalize exW b = xb at cb hfz ⊢
     clear ih hks hpo hse hsk hes
     obtain ⟨aop, aname, an, aargs, akids⟩ := a
     obtain ⟨bop, bname, bn, bargs, bkids⟩ := b
     obtain ⟨ki, va, li, co, te, ks⟩ := xa
     obtain ⟨ki2, va2, li2, co2, te2, ks2⟩ := xb
     simp only [Fm.cells, Ex.cells, Ex.rows, listM, Sx.cells, Sx.rows, wordM] at ca cb hw hfz ⊢
     refine pcall_body (ow := fun _ => false) (wf := fun _ => false) Ty.mixed Try.func31 rfl Ty.hb_31 (by rw [Try.ntmps31]; simp) ?_
     rw [Try.ntmps31, Try.results31]
     repeat' (first | refine a_seq fun K hK => ?_ | ((first | refine a_regionS ?_ | refine a_drawS (by decide +kernel) ?_); simp only [Ty.w, simprocAttr, k1, k2, k3, k4]) | (refine a_skip ?_; try simp only [pst0, simprocAttr]) | (refine a_cond _ (by (try simp only [Ty.w, simprocAttr, k1, k2, k3, k4]); rfl) (fun hb => ?_) (fun hb => ?_) <;> (try simp only [hb0, decide_eq_true_eq, decide_eq_false_iff_not, simprocAttr] at hb) <;> (try (exfalso; omega))) | (refine hK _ _ ?_; clear hK; try simp only [pst0, simprocAttr]))
     (first | refine a_dcall0 (hw _) (by (try simp only [Ty.w, simprocAttr, ]); try rfl) ?_ | refine a_dcallA (hw _) (by (try simp only [Ty.w, simprocAttr, ]); try rfl) (by simp only [Ty.w, simprocAttr, ]; try trivial) ?_); simp only [Ty.w, simprocAttr, Option.getD_some, ]
     skip
     (first | refine a_dcall0 (ca _) (by (try simp only [Ty.w, simprocAttr, ]); try rfl) ?_ | refine a_dcallA (ca _) (by (try simp only [Ty.w, simprocAttr, ]); try rfl) (by simp only [Ty.w, simprocAttr, ]; try trivial) ?_); simp only [Ty.w, simprocAttr, Option.getD_some, ]
     skip
     (first | refine a_dcall0 (cb _) (by (try simp only [Ty.w, simprocAttr, ]); try rfl) ?_ | refine a_dcallA (cb _) (by (try simp only [Ty.w, simprocAttr, ]); try rfl) (by simp only [Ty.w, simprocAttr, ]; try trivial) ?_); simp only [Ty.w, simprocAttr, Option.getD_some, ]
     repeat' (first | (refine a_ret ?_; simp only [Ty.w, simprocAttr]) | (refine hK _ _ ?_; clear hK; try simp only [pst0, simprocAttr]) | (with_reducible refine a_past2 (by simp only [List.forall_mem_cons, Ty.w, simprocAttr]; (repeat' apply And.intro) <;> first | trivial | exact .inl (by decide +kernel)) ?_; try simp only [Ty.w, simprocAttr]))
     refine ⟨?_, ((Grow.refl h).new _).set (Nat.le_refl _) _⟩
     simp only [FrzTo]
     exact ⟨_, rfl, hfz _ _⟩
    | false =>
     cases k5 : (op.data.toList == (#[61] : Array UInt8).toList) with
     | true =>
      rw [if_pos (by simp [isCmp, (show bEq op opAtom = false from k1), (show bEq op opSame = false from k2), (show bEq op opLt = false from k3), (show bEq op opLe = false from k4), (show bEq op opEq = true from k5)])]
      have hx2 : exprs.length = 2 := by have q := hpo; simp [partsOk, shapeOf, (show bEq op opAtom = false from k1), (show bEq op opSame = false from k2), (show bEq op opLt = false from k3), (show bEq op opLe = false from k4), (show bEq op opEq = true from k5)] at q; omega
      obtain ⟨a, b, rfl⟩ : ∃ a b, exprs = [a, b] := by
       match exprs, hx2 with
       | [a, b], _ => exact ⟨a, b, rfl⟩
      have ca := rwriteE_c a (hes a (by simp)) (hse a (by simp))
      have cb := rwriteE_c b (hes b (by simp)) (hse b (by simp))
      have hw := fun h : Heap => rwd_c (h := h) (s := op)
      simp only [List.map_cons, List.map_nil]
      have hfz := fun (n : Nat) (h : Heap) => sx_frz n h (listM [wordM op, exW a, exW b])
      generalize exW a = xa at ca hfz ⊢
      generalize exW b = xb at cb hfz ⊢
      clear ih hks hpo hse hsk hes
      obtain ⟨aop, aname, an, aargs, akids⟩ := a
      obtain ⟨bop, bname, bn, bargs, bkids⟩ := b
      obtain ⟨ki, va, li, co, te, ks⟩ := xa
      obtain ⟨ki2, va2, li2, co2, te2, ks2⟩ := xb
      simp only [Fm.cells, Ex.cells, Ex.rows, listM, Sx.cells, Sx.rows, wordM] at ca cb hw hfz ⊢
      refine pcall_body (ow := fun _ => false) (wf := fun _ => false) Ty.mixed Try.func31 rfl Ty.hb_31 (by rw [Try.ntmps31]; simp) ?_
      rw [Try.ntmps31, Try.results31]
      repeat' (first | refine a_seq fun K hK => ?_ | ((first | refine a_regionS ?_ | refine a_drawS (by decide +kernel) ?_); simp only [Ty.w, simprocAttr, k1, k2, k3, k4, k5]) | (refine a_cond _ (by (try simp only [Ty.w, simprocAttr, k1, k2, k3, k4, k5]); rfl) (fun hb => ?_) (fun hb => ?_) <;> (try simp only [hb0, decide_eq_true_eq, decide_eq_false_iff_not, simprocAttr] at hb) <;> (try (exfalso; omega))) | (refine hK _ _ ?_; clear hK; try simp only [pst0, simprocAttr]))
      (first | refine a_dcall0 (hw _) (by (try simp only [Ty.w, simprocAttr, ]); try rfl) ?_ | refine a_dcallA (hw _) (by (try simp only [Ty.w, simprocAttr, ]); try rfl) (by simp only [Ty.w, simprocAttr, ]; try trivial) ?_); simp only [Ty.w, simprocAttr, Option.getD_some, ]
      skip
      (first | refine a_dcall0 (ca _) (by (try simp only [Ty.w, simprocAttr, ]); try rfl) ?_ | refine a_dcallA (ca _) (by (try simp only [Ty.w, simprocAttr, ]); try rfl) (by simp only [Ty.w, simprocAttr, ]; try trivial) ?_); simp only [Ty.w, simprocAttr, Option.getD_some, ]
      skip
      (first | refine a_dcall0 (cb _) (by (try simp only [Ty.w, simprocAttr, ]); try rfl) ?_ | refine a_dcallA (cb _) (by (try simp only [Ty.w, simprocAttr, ]); try rfl) (by simp only [Ty.w, simprocAttr, ]; try trivial) ?_); simp only [Ty.w, simprocAttr, Option.getD_some, ]
      repeat' (first | (refine a_ret ?_; simp only [Ty.w, simprocAttr]) | (refine hK _ _ ?_; clear hK; try simp only [pst0, simprocAttr]) | (with_reducible refine a_past2 (by simp only [List.forall_mem_cons, Ty.w, simprocAttr]; (repeat' apply And.intro) <;> first | trivial | exact .inl (by decide +kernel)) ?_; try simp only [Ty.w, simprocAttr]))
      refine ⟨?_, ((Grow.refl h).new _).set (Nat.le_refl _) _⟩
      simp only [FrzTo]
      exact ⟨_, rfl, hfz _ _⟩
     | false =>
      rw [if_neg (by simp [isCmp, (show bEq op opLt = false from k3), (show bEq op opLe = false from k4), (show bEq op opEq = false from k5)])]
      clear hse hes hpo
      have n6 : bEq op opAnd = (op.data.toList == (#[97, 110, 100] : Array UInt8).toList) := rfl
      by_cases hz : (bEq op opAnd && kids.isEmpty) = true
      ·have hz2 := hz
       rw [Bool.and_eq_true] at hz2
       have k6 : (op.data.toList == (#[97, 110, 100] : Array UInt8).toList) = true := hz2.1
       have hk0 : kids = [] := List.isEmpty_iff.1 hz2.2
       have hq : isQ op = false := by rw [bEq_eq hz2.1]; try rfl
       subst hk0
       rw [if_pos hz, hq]
       simp only [Bool.false_eq_true, if_false, fmWs, List.append_nil, Fm.cells, Fm.rows]
       refine pcall_body (ow := fun _ => false) (wf := fun _ => false) Ty.mixed Try.func31 rfl Ty.hb_31 (by rw [Try.ntmps31]; simp) ?_
       rw [Try.ntmps31, Try.results31]
       repeat' (first | refine a_seq fun K hK => ?_ | (refine a_block ?_) | ((first | refine a_regionS ?_ | refine a_ret ?_); simp only [Ty.w, simprocAttr, k1, k2, k3, k4, k5, k6]) | (refine a_skip ?_; try simp only [pst0, simprocAttr]) | (refine a_cond _ (by (try simp only [Ty.w, simprocAttr, k1, k2, k3, k4, k5, k6]); rfl) (fun hb => ?_) (fun hb => ?_) <;> (try simp only [hb0, decide_eq_true_eq, decide_eq_false_iff_not, simprocAttr] at hb) <;> (try (exfalso; omega))) | (refine hK _ _ ?_; clear hK; try simp only [pst0, simprocAttr]))
       refine ⟨?_, ((Grow.refl h).new _).set (Nat.le_refl _) _⟩
       simp only [listM, Sx.cells, Sx.rows, FrzTo, FrzL]
       exact ⟨_, rfl, rfl, rfl, rfl, rfl, rfl, .inr (.inl ⟨rfl, .inr rfl⟩), trivial⟩
      ·rw [if_neg hz]
       have hw : ∀ (s : ByteArray) (h : Heap), PCall Try.prog 71 [sPV s] h fun r h' => r = .agg (wordM s).cells ∧ h' = h := fun s h => rwd_c
       simp only [wordM, Sx.cells, Sx.rows] at hw
       simp only [Fm.cells]
       refine pcall_body (ow := fun t => t == 51) (wf := fun _ => false) Ty.mixed Try.func31 rfl Ty.hb_31 (by rw [Try.ntmps31]; simp) ?_
       rw [Try.ntmps31, Try.results31]
       repeat' (first | (with_reducible refine a_hold 10 ?_) | refine a_seq fun K hK => ?_ | (refine a_block ?_) | (refine a_regionS ?_; simp only [Ty.w, simprocAttr, k1, k2, k3, k4, k5]) | (refine a_skip ?_; try simp only [pst0, simprocAttr]) | (refine a_cond _ (by (try simp only [Ty.w, simprocAttr, k1, k2, k3, k4, k5]); rfl) (fun hb => ?_) (fun hb => ?_) <;> (try simp only [hb0, decide_eq_true_eq, decide_eq_false_iff_not, simprocAttr] at hb) <;> (try (exfalso; omega))) | (refine hK _ _ ?_; clear hK; try simp only [pst0, simprocAttr]))
       refine ⟨?_⟩
       refine a_cut (fun S h' => S 1 = .cptr (Fm.mk op name args params exprs kids).cells ∧ S 2 = .ptr h.next 0 0 ∧ h' = h.new (.arr 6 [[.sc (.int .i64 0), .sc (.int .i64 0), .sc (.int .i64 0), .sc (.int .i64 0), .sc (.string ⟨#[]⟩), .sc (.slice none 0 0)]])) ?_ ?_
       ·cases k6 : (op.data.toList == (#[97, 110, 100] : Array UInt8).toList) with
        | false =>
         repeat' (first | refine a_seq fun K hK => ?_ | (refine a_regionS ?_; simp only [Ty.w, simprocAttr, k6]) | (refine a_skip ?_; try simp only [pst0, simprocAttr]) | (refine a_cond _ (by (try simp only [Ty.w, simprocAttr, k6]); rfl) (fun hb => ?_) (fun hb => ?_) <;> (try simp only [hb0, decide_eq_true_eq, decide_eq_false_iff_not, simprocAttr] at hb) <;> (try (exfalso; omega))) | (refine hK _ _ ?_; clear hK; try simp only [pst0, simprocAttr]))
         all_goals first | rfl | trivial | ((try refine ⟨?_, ?_, ?_⟩) <;> first | rfl | trivial) | ((try refine ⟨?_, ?_⟩) <;> first | rfl | trivial)
        | true =>
         have hk0 : ((kids.length : Int) == 0) = false := by
          cases kids with
          | nil => exact absurd (by rw [n6, k6]; try rfl) hz
          | cons a l => simp; omega
         repeat' (first | refine a_seq fun K hK => ?_ | (refine a_regionS ?_; simp only [Ty.w, simprocAttr, k6, hk0, hlK]) | (refine a_skip ?_; try simp only [pst0, simprocAttr]) | (refine a_cond _ (by (try simp only [Ty.w, simprocAttr, k6, hk0, hlK]); rfl) (fun hb => ?_) (fun hb => ?_) <;> (try simp only [hb0, decide_eq_true_eq, decide_eq_false_iff_not, simprocAttr] at hb) <;> (try (exfalso; omega))) | (refine hK _ _ ?_; clear hK; try simp only [pst0, simprocAttr]))
         all_goals first | rfl | trivial | ((try refine ⟨?_, ?_, ?_⟩) <;> first | rfl | trivial) | ((try refine ⟨?_, ?_⟩) <;> first | rfl | trivial)
       ·rintro S h' ⟨g1, g2, rfl⟩
        simp only [Fm.cells] at g1
        repeat' (first | refine a_seq fun K hK => ?_ | (refine a_regionS ?_; simp only [Ty.w, simprocAttr, g1, g2]))
        refine owp_useQ (hw op _) (by (try simp only [Ty.w, simprocAttr, g1, g2]); try rfl) ?_; simp only [Ty.w, simprocAttr, g1, g2]
        repeat' (first | (with_reducible refine a_hold 13 ?_) | (refine hK _ _ ?_; clear hK; try simp only [pst0, simprocAttr]))
        refine ⟨?_⟩
        refine a_cut (fun S h' => S 1 = .cptr (Fm.mk op name args params exprs kids).cells ∧ S 2 = .ptr h.next 0 0 ∧ ∃ id, S 3 = .own id 0 (wordM op :: (if isQ op = true then [listM (paramsW params)] else [])).length ∧ Grow h h' ∧ h.next < id ∧ id < h'.next ∧ h'.obj h.next = some (.arr 6 [[.sc (.int .i64 0), .sc (.int .i64 0), .sc (.int .i64 0), .sc (.int .i64 0), .sc (.string ⟨#[]⟩), .sc (.slice none 0 0)]]) ∧ h'.obj id = some (.arr 6 (Sx.rows (wordM op :: (if isQ op = true then [listM (paramsW params)] else []))))) ?_ ?_
        ·have n7 : bEq op opAll = (op.data.toList == (#[102, 111, 114, 97, 108, 108] : Array UInt8).toList) := rfl
         have n8 : bEq op opSome = (op.data.toList == (#[101, 120, 105, 115, 116, 115] : Array UInt8).toList) := rfl
         cases k7 : (op.data.toList == (#[102, 111, 114, 97, 108, 108] : Array UInt8).toList) with
         | true =>
          rw [if_pos (by simp [isQ, n7, n8, k7])]
          have hwp := rwriteParams_c (l := params) hpl
          simp only [listM, wordM, Sx.rows, Sx.cells, List.length_cons, List.length_nil]
          generalize Sx.rows (paramsW params) = PR at hwp ⊢
          repeat' (first | refine a_seq fun K hK => ?_ | (refine a_regionS ?_; simp only [Ty.w, simprocAttr, g1, g2, k7, nsucc, Nat.add_eq_left, Nat.one_ne_zero]) | (refine a_cond _ (by (try simp only [Ty.w, simprocAttr, g1, g2, k7, nsucc, Nat.add_eq_left, Nat.one_ne_zero]); rfl) (fun hb => ?_) (fun hb => ?_) <;> (try simp only [hb0, decide_eq_true_eq, decide_eq_false_iff_not, simprocAttr] at hb) <;> (try (exfalso; omega))) | (refine hK _ _ ?_; clear hK; try simp only [pst0, simprocAttr]))
          refine owp_useQ (hwp _) (by (try simp only [Ty.w, simprocAttr, g1, g2, k7]); try rfl) ?_; simp only [Ty.w, simprocAttr, g1, g2, k7]
          skip
          refine ⟨rfl, h.next + 1 + 1, ?_, ((((Grow.refl h).new _).new _).kill (Nat.le_succ _)).new _, by omega, by simp [Heap.new, Heap.kill], ?_, ?_⟩
          all_goals first | rfl | (simp [Heap.new, Heap.kill]; done) | (simp [Heap.new, Heap.kill]; omega)
         | false =>
          cases k8 : (op.data.toList == (#[101, 120, 105, 115, 116, 115] : Array UInt8).toList) with
          | true =>
           rw [if_pos (by simp [isQ, n7, n8, k7, k8])]
           have hwp := rwriteParams_c (l := params) hpl
           simp only [listM, wordM, Sx.rows, Sx.cells, List.length_cons, List.length_nil]
           generalize Sx.rows (paramsW params) = PR at hwp ⊢
           repeat' (first | refine a_seq fun K hK => ?_ | (refine a_regionS ?_; simp only [Ty.w, simprocAttr, g1, g2, k7, k8, nsucc, Nat.add_eq_left, Nat.one_ne_zero]) | (refine a_cond _ (by (try simp only [Ty.w, simprocAttr, g1, g2, k7, k8, nsucc, Nat.add_eq_left, Nat.one_ne_zero]); rfl) (fun hb => ?_) (fun hb => ?_) <;> (try simp only [hb0, decide_eq_true_eq, decide_eq_false_iff_not, simprocAttr] at hb) <;> (try (exfalso; omega))) | (refine hK _ _ ?_; clear hK; try simp only [pst0, simprocAttr]))
           refine owp_useQ (hwp _) (by (try simp only [Ty.w, simprocAttr, g1, g2, k7, k8]); try rfl) ?_; simp only [Ty.w, simprocAttr, g1, g2, k7, k8]
           skip
           refine ⟨rfl, h.next + 1 + 1, ?_, ((((Grow.refl h).new _).new _).kill (Nat.le_succ _)).new _, by omega, by simp [Heap.new, Heap.kill], ?_, ?_⟩
           all_goals first | rfl | (simp [Heap.new, Heap.kill]; done) | (simp [Heap.new, Heap.kill]; omega)
          | false =>
           rw [if_neg (by simp [isQ, n7, n8, k7, k8])]
           simp only [wordM, Sx.rows, Sx.cells, List.length_cons, List.length_nil]
           repeat' (first | refine a_seq fun K hK => ?_ | (refine a_regionS ?_; simp only [Ty.w, simprocAttr, g1, g2, k7, k8]) | (refine a_skip ?_; try simp only [pst0, simprocAttr]) | (refine a_cond _ (by (try simp only [Ty.w, simprocAttr, g1, g2, k7, k8]); rfl) (fun hb => ?_) (fun hb => ?_) <;> (try simp only [hb0, decide_eq_true_eq, decide_eq_false_iff_not, simprocAttr] at hb) <;> (try (exfalso; omega))) | (refine hK _ _ ?_; clear hK; try simp only [pst0, simprocAttr]))
           (try simp only [Ty.w, simprocAttr, Ty.all, g1, g2])
           refine ⟨rfl, h.next + 1, ?_, ((Grow.refl h).new _).new _, by omega, by simp [Heap.new], ?_, ?_⟩
           all_goals first | rfl | simp [Heap.new]
        ·clear g1 g2 S
         obtain ⟨L1, hL1, hl1⟩ : ∃ L1 : List Sx, (wordM op :: (if isQ op = true then [listM (paramsW params)] else [])) = L1 ∧ L1.length ≤ 2 := ⟨_, rfl, by split <;> simp⟩
         have hfin : [wordM op] ++ (if isQ op = true then [listM (paramsW params)] else []) ++ fmWs kids = L1 ++ kids.map fmW := by rw [← hL1, fmWs_map]; try rfl
         rw [hfin, hL1]
         clear hL1 hfin
         rintro S h' ⟨g1, g2, id, g3, hg, hlo, hhi, o1, o2⟩
         simp only [Fm.cells] at g1
         have hrl : ∀ k, (L1 ++ (kids.take k).map fmW).length ≤ 1048578 := fun k => by simp; omega
         repeat' (first | refine a_seq fun K hK => ?_ | (refine a_block ?_) | (refine a_regionS ?_; simp only [Ty.w, simprocAttr, g1, g2, g3, hlK]) | (refine hK _ _ ?_; clear hK; try simp only [pst0, simprocAttr]))
         refine a_loop (fun c S h' => S 1 = .cptr (Fm.mk op name args params exprs kids).cells ∧ S 2 = .ptr h.next 0 0 ∧ ∃ k id : Nat, S 4 = .sc (.int .i64 k) ∧ S 3 = .own id 0 (L1 ++ (kids.take k).map fmW).length ∧ k ≤ kids.length ∧ c = kids.length - k ∧ Grow h h' ∧ h.next < id ∧ id < h'.next ∧ h'.obj h.next = some (.arr 6 [[.sc (.int .i64 0), .sc (.int .i64 0), .sc (.int .i64 0), .sc (.int .i64 0), .sc (.string ⟨#[]⟩), .sc (.slice none 0 0)]]) ∧ h'.obj id = some (.arr 6 (Sx.rows (L1 ++ (kids.take k).map fmW)))) kids.length ?_ ?_
         ·simp only [Ty.w, simprocAttr, g1, g2, g3]
          exact ⟨rfl, 0, id, rfl, by simp, by omega, rfl, hg, hlo, hhi, o1, by simpa using o2⟩
         ·clear g1 g2 g3 o1 o2 hg hlo hhi S
          rintro c S h' ⟨g1, g2, k, id, g4, g3, hk, rfl, hg, hlo, hhi, o1, o2⟩
          simp only [Fm.cells] at g1
          by_cases hlt : k < kids.length
          ·have hdk : decide ((k : Int) < (kids.length : Int)) = true := by simp; omega
           have w7 : IntKind.i64.wrap ((k : Int) + 1) = k + 1 := by rw [wrap64 (by omega) (by omega)]
           obtain ⟨x, hx⟩ : ∃ x, kids[k]? = some x := ⟨_, List.getElem?_eq_getElem hlt⟩
           have hmem := List.mem_of_getElem? hx
           have hr := Fm.rows_get hx
           have hcx := ih x hmem (hks x hmem) (hsk x hmem)
           have hL : L1 ++ (kids.take (k + 1)).map fmW = L1 ++ (kids.take k).map fmW ++ [fmW x] := by rw [List.take_add_one, hx]; simp
           have hrk := hrl k
           generalize L1 ++ (kids.take k).map fmW = L2 at g3 o2 hrk hL
           generalize fmW x = X at hcx hL
           obtain ⟨xo, xn, xa, xp, xe, xk⟩ := x
           obtain ⟨ki, va, li, co, te, ks⟩ := X
           simp only [Fm.cells, Sx.cells] at hr hcx
           have hR : Sx.rows (L2 ++ [.mk ki va li co te ks]) = Sx.rows L2 ++ [[.sc (.int .i64 ki), .sc (.int .i64 va), .sc (.int .i64 li), .sc (.int .i64 co), sPV te, .imm 6 (Sx.rows ks)]] := by simp [Sx.rows_map, Sx.cells]
           have hpr := Sx.rows_len L2
           generalize Sx.rows L2 = R at o2 hpr hR
           have htk : List.take L2.length R = R := List.take_of_length_le (by omega)
           have hb : (L2.length + 1) * 72 ≤ 140737488355328 := by omega
           have W := And.intro g1 (And.intro g2 (And.intro g3 (And.intro g4 (And.intro hpr (And.intro htk (And.intro o2 hb))))))
           repeat' (first | refine a_seq fun K hK => ?_ | (refine a_block ?_) | ((first | refine a_regionS ?_ | refine a_region (fun K hK => ?_)); simp only [Ty.w, simprocAttr, W, hlK, hdk, hr]) | (refine a_skip ?_; try simp only [pst0, simprocAttr]) | (refine a_cond _ (by (try simp only [Ty.w, simprocAttr, W, hlK, hdk, hr]); rfl) (fun hb => ?_) (fun hb => ?_) <;> (try simp only [hb0, decide_eq_true_eq, decide_eq_false_iff_not, simprocAttr] at hb) <;> (try (exfalso; omega))) | (refine hK _ _ ?_; clear hK; try simp only [pst0, simprocAttr]))
           refine owp_useQ (hcx _) (by (try simp only [Ty.w, simprocAttr, W]); try rfl) ?_; simp only [Ty.w, simprocAttr, W]
           repeat' (first | (refine a_regionS ?_; simp only [Ty.w, simprocAttr, W, w7]) | (refine hK _ _ ?_; clear hK; try simp only [pst0, simprocAttr]) | (rw [if_pos]; rotate_left 1; omega; simp only [Ty.w, simprocAttr, W, w7]))
           refine ⟨kids.length - (k + 1), by omega, rfl, k + 1, h'.next, by simp, ?_, by omega, rfl, (hg.kill (by omega)).new _, by omega, by simp [Heap.new, Heap.kill], ?_, ?_⟩
           ·rw [hL]; simp
           ·rw [if_neg (by omega), if_neg (by omega)]
            exact o1
           ·rw [hL, hR]; simp [Heap.new, Heap.kill]
          ·have hdk : decide ((k : Int) < (kids.length : Int)) = false := by simp; omega
           have hke : k = kids.length := by omega
           subst hke
           rw [List.take_length] at o2 g3
           repeat' (first | refine a_seq fun K hK => ?_ | ((first | refine a_regionS ?_ | refine a_ret ?_); simp only [Ty.w, simprocAttr, g1, g2, g3, g4, hlK, hdk, o1, o2]) | (refine a_exit ?_; try simp only [pst0, simprocAttr]) | (refine a_cond _ (by (try simp only [Ty.w, simprocAttr, g1, g2, g3, g4, hlK, hdk, o1, o2]); rfl) (fun hb => ?_) (fun hb => ?_) <;> (try simp only [hb0, decide_eq_true_eq, decide_eq_false_iff_not, simprocAttr] at hb) <;> (try (exfalso; omega))) | ((first | refine hK _ _ ?_ | (clear hK; refine hK _ _ ?_)); clear hK; try simp only [pst0, simprocAttr]))
           refine ⟨?_, hg.set (Nat.le_refl _) _⟩
           simp only [listM, Sx.cells, FrzTo, FrzL]
           refine ⟨_, rfl, rfl, rfl, rfl, rfl, rfl, .inr (.inr ⟨id, 0, _, Sx.rows (L1 ++ kids.map fmW), rfl, by omega, ?_, ?_, ?_⟩), trivial⟩
           ·simp only [Heap.set]; rw [if_neg (by omega)]; exact o2
           ·rw [Sx.rows_len]; omega
           ·rw [List.drop_zero, List.take_of_length_le (by rw [Sx.rows_len]; omega)]
            exact sxs_frz _ _ _
end Go.Proofs.Ytjlkapgpjamnkaa
namespace Go.Proofs.Ytjlkapgpjamnkaa
open Go.AM
set_option maxHeartbeats 4000000
set_option maxRecDepth 20000
theorem rvalidF_c {f : Fm} (hok : f.ok) (hsm : f.small) (hd : (fmW f).depth ≤ bigN) (h : Heap) : PCall Try.prog 20 [.agg f.cells] h fun r h' => r = .sc (.bool (shapedF f && rvalidB (fmW f))) ∧ h' = h := by
 have hs := rshapedF_c f hok
 cases hb : shapedF f with
 | false =>
  rw [hb] at hs
  obtain ⟨op, name, args, params, exprs, kids⟩ := f
  simp only [Fm.cells] at hs ⊢
  refine pcall_body (ow := fun _ => false) (wf := fun _ => false) Ty.mixed Try.func20 rfl Ty.hb_20 (by rw [Try.ntmps20]; simp) ?_
  rw [Try.ntmps20, Try.results20]
  repeat' (first | refine a_seq fun K hK => ?_ | (refine a_block ?_) | ((first | refine a_regionS ?_ | refine a_region (fun K hK => ?_) | refine a_ret ?_); simp (maxSteps := 2000000) only [Ty.w, simprocAttr]) | ((first | refine a_skip ?_ | refine a_exit ?_); try simp only [pst0, simprocAttr]) | (refine a_cond _ (by (try simp (maxSteps := 2000000) only [Ty.w, simprocAttr]); rfl) (fun hb => ?_) (fun hb => ?_) <;> (try simp only [hb0, decide_eq_true_eq, decide_eq_false_iff_not, simprocAttr] at hb) <;> (try (exfalso; omega))) | (with_reducible refine ite_in (fun hb => ?_) (fun hb => ?_) <;> (try simp only [Decidable.not_not] at hb) <;> (try simp only [hb, if_true, if_false, not_false_eq_true, not_true_eq_false, ↓reduceIte]) <;> (try simp only [hb0, decide_eq_true_eq, decide_eq_false_iff_not, simprocAttr] at hb) <;> (try (exfalso; omega))) | ((first | refine hK _ _ ?_ | (clear hK; refine hK _ _ ?_) | (clear hK; clear hK; refine hK _ _ ?_) | (clear hK; clear hK; clear hK; refine hK _ _ ?_)); clear hK; try simp only [pst0, simprocAttr]) | (rw [if_pos]; rotate_left 1; omega; simp (maxSteps := 2000000) only [Ty.w, simprocAttr]))
  refine owp_useQ (hs _) (by (try simp only [Ty.w, simprocAttr, ]); try rfl) ?_; simp (maxSteps := 2000000) only [Ty.w, simprocAttr, ]
  repeat' (first | refine a_seq fun K hK => ?_ | (refine a_block ?_) | ((first | refine a_regionS ?_ | refine a_region (fun K hK => ?_) | refine a_ret ?_); simp (maxSteps := 2000000) only [Ty.w, simprocAttr]) | ((first | refine a_skip ?_ | refine a_exit ?_); try simp only [pst0, simprocAttr]) | (refine a_cond _ (by (try simp (maxSteps := 2000000) only [Ty.w, simprocAttr]); rfl) (fun hb => ?_) (fun hb => ?_) <;> (try simp only [hb0, decide_eq_true_eq, decide_eq_false_iff_not, simprocAttr] at hb) <;> (try (exfalso; omega))) | (with_reducible refine ite_in (fun hb => ?_) (fun hb => ?_) <;> (try simp only [Decidable.not_not] at hb) <;> (try simp only [hb, if_true, if_false, not_false_eq_true, not_true_eq_false, ↓reduceIte]) <;> (try simp only [hb0, decide_eq_true_eq, decide_eq_false_iff_not, simprocAttr] at hb) <;> (try (exfalso; omega))) | ((first | refine hK _ _ ?_ | (clear hK; refine hK _ _ ?_) | (clear hK; clear hK; refine hK _ _ ?_) | (clear hK; clear hK; clear hK; refine hK _ _ ?_)); clear hK; try simp only [pst0, simprocAttr]) | (rw [if_pos]; rotate_left 1; omega; simp (maxSteps := 2000000) only [Ty.w, simprocAttr]))
  all_goals rfl
 | true =>
  rw [hb] at hs
  have hx := fmW_ok f hok hsm hb
  have hw := rwriteF_c f hsm hb
  have hv := rvalid_c hx hd
  have hq : rvalidB (fmW f) = (shapedS (fmW f) && decide (((fmW f).depth : Int) ≤ 32) && decide ((fmW f).count ≤ 4096)) := rfl
  rw [← hq] at hv
  clear hq
  generalize rvalidB (fmW f) = bb at hv ⊢
  generalize fmW f = X at hw hv
  obtain ⟨op, name, args, params, exprs, kids⟩ := f
  obtain ⟨ki, va, li, co, te, ks⟩ := X
  simp only [Fm.cells, Sx.cells, Bool.true_and] at hs hw hv ⊢
  refine pcall_body (ow := fun _ => false) (wf := fun _ => false) Ty.mixed Try.func20 rfl Ty.hb_20 (by rw [Try.ntmps20]; simp) ?_
  rw [Try.ntmps20, Try.results20]
  repeat' (first | refine a_seq fun K hK => ?_ | (refine a_block ?_) | ((first | refine a_regionS ?_ | refine a_region (fun K hK => ?_) | refine a_ret ?_); simp (maxSteps := 2000000) only [Ty.w, simprocAttr]) | ((first | refine a_skip ?_ | refine a_exit ?_); try simp only [pst0, simprocAttr]) | (refine a_cond _ (by (try simp (maxSteps := 2000000) only [Ty.w, simprocAttr]); rfl) (fun hb => ?_) (fun hb => ?_) <;> (try simp only [hb0, decide_eq_true_eq, decide_eq_false_iff_not, simprocAttr] at hb) <;> (try (exfalso; omega))) | (with_reducible refine ite_in (fun hb => ?_) (fun hb => ?_) <;> (try simp only [Decidable.not_not] at hb) <;> (try simp only [hb, if_true, if_false, not_false_eq_true, not_true_eq_false, ↓reduceIte]) <;> (try simp only [hb0, decide_eq_true_eq, decide_eq_false_iff_not, simprocAttr] at hb) <;> (try (exfalso; omega))) | ((first | refine hK _ _ ?_ | (clear hK; refine hK _ _ ?_) | (clear hK; clear hK; refine hK _ _ ?_) | (clear hK; clear hK; clear hK; refine hK _ _ ?_)); clear hK; try simp only [pst0, simprocAttr]) | (rw [if_pos]; rotate_left 1; omega; simp (maxSteps := 2000000) only [Ty.w, simprocAttr]))
  refine owp_useQ (hs _) (by (try simp only [Ty.w, simprocAttr, ]); try rfl) ?_; simp (maxSteps := 2000000) only [Ty.w, simprocAttr, ]
  repeat' (first | refine a_seq fun K hK => ?_ | (refine a_block ?_) | ((first | refine a_regionS ?_ | refine a_region (fun K hK => ?_) | refine a_ret ?_); simp (maxSteps := 2000000) only [Ty.w, simprocAttr]) | ((first | refine a_skip ?_ | refine a_exit ?_); try simp only [pst0, simprocAttr]) | (refine a_cond _ (by (try simp (maxSteps := 2000000) only [Ty.w, simprocAttr]); rfl) (fun hb => ?_) (fun hb => ?_) <;> (try simp only [hb0, decide_eq_true_eq, decide_eq_false_iff_not, simprocAttr] at hb) <;> (try (exfalso; omega))) | (with_reducible refine ite_in (fun hb => ?_) (fun hb => ?_) <;> (try simp only [Decidable.not_not] at hb) <;> (try simp only [hb, if_true, if_false, not_false_eq_true, not_true_eq_false, ↓reduceIte]) <;> (try simp only [hb0, decide_eq_true_eq, decide_eq_false_iff_not, simprocAttr] at hb) <;> (try (exfalso; omega))) | ((first | refine hK _ _ ?_ | (clear hK; refine hK _ _ ?_) | (clear hK; clear hK; refine hK _ _ ?_) | (clear hK; clear hK; clear hK; refine hK _ _ ?_)); clear hK; try simp only [pst0, simprocAttr]) | (rw [if_pos]; rotate_left 1; omega; simp (maxSteps := 2000000) only [Ty.w, simprocAttr]))
  refine owp_useQ (hw _) (by (try simp only [Ty.w, simprocAttr, ]); try rfl) ?_; simp (maxSteps := 2000000) only [Ty.w, simprocAttr, ]
  repeat' (first | refine a_seq fun K hK => ?_ | (refine a_block ?_) | ((first | refine a_regionS ?_ | refine a_region (fun K hK => ?_) | refine a_ret ?_); simp (maxSteps := 2000000) only [Ty.w, simprocAttr]) | ((first | refine a_skip ?_ | refine a_exit ?_); try simp only [pst0, simprocAttr]) | (refine a_cond _ (by (try simp (maxSteps := 2000000) only [Ty.w, simprocAttr]); rfl) (fun hb => ?_) (fun hb => ?_) <;> (try simp only [hb0, decide_eq_true_eq, decide_eq_false_iff_not, simprocAttr] at hb) <;> (try (exfalso; omega))) | (with_reducible refine ite_in (fun hb => ?_) (fun hb => ?_) <;> (try simp only [Decidable.not_not] at hb) <;> (try simp only [hb, if_true, if_false, not_false_eq_true, not_true_eq_false, ↓reduceIte]) <;> (try simp only [hb0, decide_eq_true_eq, decide_eq_false_iff_not, simprocAttr] at hb) <;> (try (exfalso; omega))) | ((first | refine hK _ _ ?_ | (clear hK; refine hK _ _ ?_) | (clear hK; clear hK; refine hK _ _ ?_) | (clear hK; clear hK; clear hK; refine hK _ _ ?_)); clear hK; try simp only [pst0, simprocAttr]) | (rw [if_pos]; rotate_left 1; omega; simp (maxSteps := 2000000) only [Ty.w, simprocAttr]))
  refine owp_useQ (hv _) (by (try simp only [Ty.w, simprocAttr, ]); try rfl) ?_; simp (maxSteps := 2000000) only [Ty.w, simprocAttr, ]
  repeat' (first | refine a_seq fun K hK => ?_ | (refine a_block ?_) | ((first | refine a_regionS ?_ | refine a_region (fun K hK => ?_) | refine a_ret ?_); simp (maxSteps := 2000000) only [Ty.w, simprocAttr]) | ((first | refine a_skip ?_ | refine a_exit ?_); try simp only [pst0, simprocAttr]) | (refine a_cond _ (by (try simp (maxSteps := 2000000) only [Ty.w, simprocAttr]); rfl) (fun hb => ?_) (fun hb => ?_) <;> (try simp only [hb0, decide_eq_true_eq, decide_eq_false_iff_not, simprocAttr] at hb) <;> (try (exfalso; omega))) | (with_reducible refine ite_in (fun hb => ?_) (fun hb => ?_) <;> (try simp only [Decidable.not_not] at hb) <;> (try simp only [hb, if_true, if_false, not_false_eq_true, not_true_eq_false, ↓reduceIte]) <;> (try simp only [hb0, decide_eq_true_eq, decide_eq_false_iff_not, simprocAttr] at hb) <;> (try (exfalso; omega))) | ((first | refine hK _ _ ?_ | (clear hK; refine hK _ _ ?_) | (clear hK; clear hK; refine hK _ _ ?_) | (clear hK; clear hK; clear hK; refine hK _ _ ?_)); clear hK; try simp only [pst0, simprocAttr]) | (rw [if_pos]; rotate_left 1; omega; simp (maxSteps := 2000000) only [Ty.w, simprocAttr]))
end Go.Proofs.Ytjlkapgpjamnkaa
namespace Go.Proofs.Ytjlkapgpjamnkaa
open Go.AM
set_option maxHeartbeats 2000000
set_option maxRecDepth 20000
theorem fnum_c {h : Heap} {n : Int} : PCall Try.prog 35 [errV n] h fun r h' => r = .sc (.int .i64 n) ∧ h' = h := by
 unfold errV
 refine pcall_body (ow := fun _ => false) (wf := fun _ => false) Ty.mixed Try.func35 rfl Ty.hb_35 (by rw [Try.ntmps35]; simp) ?_
 rw [Try.ntmps35, Try.results35]
 repeat' (first | refine a_seq fun K hK => ?_ | (refine a_block ?_) | ((first | refine a_regionS ?_ | refine a_region (fun K hK => ?_) | refine a_ret ?_); simp only [Ty.w, simprocAttr]) | ((first | refine a_skip ?_ | refine a_exit ?_); try simp only [pst0, simprocAttr]) | (refine a_cond _ (by (try simp only [Ty.w, simprocAttr]); rfl) (fun hb => ?_) (fun hb => ?_) <;> (try simp only [hb0, decide_eq_true_eq, decide_eq_false_iff_not, simprocAttr] at hb) <;> (try (exfalso; omega))) | (with_reducible refine ite_in (fun hb => ?_) (fun hb => ?_) <;> (try simp only [Decidable.not_not] at hb) <;> (try simp only [hb, if_true, if_false, not_false_eq_true, not_true_eq_false, ↓reduceIte]) <;> (try simp only [hb0, decide_eq_true_eq, decide_eq_false_iff_not, simprocAttr] at hb) <;> (try (exfalso; omega))) | ((first | refine hK _ _ ?_ | (clear hK; refine hK _ _ ?_) | (clear hK; clear hK; refine hK _ _ ?_) | (clear hK; clear hK; clear hK; refine hK _ _ ?_)); clear hK; try simp only [pst0, simprocAttr]) | (rw [if_pos]; rotate_left 1; omega; simp only [Ty.w, simprocAttr]))
 all_goals rfl
theorem fis_c {h : Heap} {n m : Int} : PCall Try.prog 29 [errV n, .sc (.int .i64 m)] h fun r h' => r = .sc (.bool (n == m)) ∧ h' = h := by
 have hn := fun h : Heap => fnum_c (h := h) (n := n)
 unfold errV at hn ⊢
 refine pcall_body (ow := fun _ => false) (wf := fun _ => false) Ty.mixed Try.func29 rfl Ty.hb_29 (by rw [Try.ntmps29]; simp) ?_
 rw [Try.ntmps29, Try.results29]
 repeat' (first | refine a_seq fun K hK => ?_ | (refine a_block ?_) | ((first | refine a_regionS ?_ | refine a_region (fun K hK => ?_) | refine a_ret ?_); simp only [Ty.w, simprocAttr]) | ((first | refine a_skip ?_ | refine a_exit ?_); try simp only [pst0, simprocAttr]) | (refine a_cond _ (by (try simp only [Ty.w, simprocAttr]); rfl) (fun hb => ?_) (fun hb => ?_) <;> (try simp only [hb0, decide_eq_true_eq, decide_eq_false_iff_not, simprocAttr] at hb) <;> (try (exfalso; omega))) | (with_reducible refine ite_in (fun hb => ?_) (fun hb => ?_) <;> (try simp only [Decidable.not_not] at hb) <;> (try simp only [hb, if_true, if_false, not_false_eq_true, not_true_eq_false, ↓reduceIte]) <;> (try simp only [hb0, decide_eq_true_eq, decide_eq_false_iff_not, simprocAttr] at hb) <;> (try (exfalso; omega))) | ((first | refine hK _ _ ?_ | (clear hK; refine hK _ _ ?_) | (clear hK; clear hK; refine hK _ _ ?_) | (clear hK; clear hK; clear hK; refine hK _ _ ?_)); clear hK; try simp only [pst0, simprocAttr]) | (rw [if_pos]; rotate_left 1; omega; simp only [Ty.w, simprocAttr]))
 refine owp_useQ (hn _) (by (try simp only [Ty.w, simprocAttr, eq_self]); try rfl) ?_; simp only [Ty.w, simprocAttr, eq_self]
 repeat' (first | refine a_seq fun K hK => ?_ | (refine a_block ?_) | ((first | refine a_regionS ?_ | refine a_region (fun K hK => ?_) | refine a_ret ?_); simp only [Ty.w, simprocAttr]) | ((first | refine a_skip ?_ | refine a_exit ?_); try simp only [pst0, simprocAttr]) | (refine a_cond _ (by (try simp only [Ty.w, simprocAttr]); rfl) (fun hb => ?_) (fun hb => ?_) <;> (try simp only [hb0, decide_eq_true_eq, decide_eq_false_iff_not, simprocAttr] at hb) <;> (try (exfalso; omega))) | (with_reducible refine ite_in (fun hb => ?_) (fun hb => ?_) <;> (try simp only [Decidable.not_not] at hb) <;> (try simp only [hb, if_true, if_false, not_false_eq_true, not_true_eq_false, ↓reduceIte]) <;> (try simp only [hb0, decide_eq_true_eq, decide_eq_false_iff_not, simprocAttr] at hb) <;> (try (exfalso; omega))) | ((first | refine hK _ _ ?_ | (clear hK; refine hK _ _ ?_) | (clear hK; clear hK; refine hK _ _ ?_) | (clear hK; clear hK; clear hK; refine hK _ _ ?_)); clear hK; try simp only [pst0, simprocAttr]) | (rw [if_pos]; rotate_left 1; omega; simp only [Ty.w, simprocAttr]))
end Go.Proofs.Ytjlkapgpjamnkaa
namespace Go.AM
section
variable {P : Program} {ow : Nat → Bool} {wf : FuncId → Bool} {n : Nat}
def Loc (P : Program) (ow : Nat → Bool) (wf : FuncId → Bool) (n : Nat) (ops : List Oper) (base j : Nat) (o : Oper) (s s' : Slots) (h h' : Heap) (v : PV) (l : Option (Nat × AObj)) : Prop :=
  o.dst.all (fun d => decide (d < n)) = true ∧ ∃ b, wantedB ops s o = some b ∧
    (b = false → s' = updO s o.dst (.sc undef) ∧ h' = h ∧ l = none) ∧
    (b = true → s' = updO s o.dst v ∧
      (isW ow wf o = false → h' = h ∧ l = none ∧ ∀ H, Does P ow o (pev s) H v H) ∧
      (isW ow wf o = true →
        (isA ow o = true ∧ ∃ ob, l = some (base + j, ob) ∧ aop P ow (base + j) o (pev s) = some (v, ob) ∧ h' = h.set (base + j) ob) ∨
        (∃ t x y id r f ob, o.op = .store t x y ∧ pev s x = .ptr id r f ∧ l = some (id, ob) ∧ h' = h.set id ob ∧ (∀ f q, j < f → ops[f]? = some q → isA ow q = true → base + f ≠ id) ∧ eff P (o.dst.any ow) o.op (pev s) h = some (v, h'))))
def dr3 (P : Program) (ow : Nat → Bool) (wf : FuncId → Bool) (n : Nat) (ops : List Oper) (base : Nat) : Nat → List Oper → List (Nat × Nat) → (Slots → Heap → Prop) → Slots → Heap → Prop
  | _, [], _, K, s, h => K s h
  | k, o :: rest, ls, K, s, h => ∃ s' h' v l, Loc P ow wf n ops base k o s s' h h' v l ∧ (∀ p, l = some p → ∀ x ∈ ls, pre ops x.1 k = true ∨ x.2 ≠ p.1) ∧ dr3 P ow wf n ops base (k + 1) rest (match l with | some p => (k, p.1) :: ls | none => ls) K s' h'
theorem dr3_facts {ops : List Oper} {base : Nat} {K : Slots → Heap → Prop} : ∀ (rest : List Oper) (k : Nat) (ls : List (Nat × Nat)) (s : Slots) (h : Heap), ops.drop k = rest → k ≤ ops.length → dr3 P ow wf n ops base k rest ls K s h →
    ∃ (sk : Nat → Slots) (hk : Nat → Heap) (vk : Nat → PV) (lt : Nat → Option (Nat × AObj)), sk k = s ∧ hk k = h ∧ K (sk ops.length) (hk ops.length) ∧
      (∀ j o, k ≤ j → ops[j]? = some o → Loc P ow wf n ops base j o (sk j) (sk (j + 1)) (hk j) (hk (j + 1)) (vk j) (lt j)) ∧
      (∀ j p, k ≤ j → j < ops.length → lt j = some p → ∀ x ∈ ls, pre ops x.1 j = true ∨ x.2 ≠ p.1) ∧
      (∀ i j p q, k ≤ i → i < j → j < ops.length → lt i = some p → lt j = some q → pre ops i j = true ∨ p.1 ≠ q.1)
  | [], k, ls, s, h, hd, hk, hr => by
    have hl : ops.length ≤ k := by simpa using hd
    have hke : k = ops.length := by omega
    refine ⟨fun _ => s, fun _ => h, fun _ => .emp, fun _ => none, rfl, rfl, hr, fun j o hj ho => ?_, fun j p _ _ hp => by simp at hp, fun i j p q _ _ _ hp => by simp at hp⟩
    have := (List.getElem?_eq_some_iff.1 ho).1
    omega
  | o :: rest, k, ls, s, h, hd, hk, hr => by
    have ho : ops[k]? = some o := by
      have : (ops.drop k)[0]? = some o := by rw [hd]; try rfl
      simpa using this
    have hkl : k < ops.length := (List.getElem?_eq_some_iff.1 ho).1
    have hd2 : ops.drop (k + 1) = rest := by
      have := List.drop_eq_getElem_cons hkl
      rw [hd] at this
      simp only [List.cons.injEq] at this
      exact this.2.symm
    obtain ⟨s', h', v, l, hloc, hls, hrec⟩ := hr
    obtain ⟨sk, hk', vk, lt, e1, e2, e3, e4, e5, e6⟩ := dr3_facts rest (k + 1) _ s' h' hd2 (by omega) hrec
    refine ⟨fun j => if j = k then s else sk j, fun j => if j = k then h else hk' j, fun j => if j = k then v else vk j, fun j => if j = k then l else lt j, by simp, by simp, ?_, fun j q hj hq => ?_, fun j p hj hjl hp x hx => ?_, fun i j p q hi hij hjl hp hq => ?_⟩
    · simp only
      rw [if_neg (by omega), if_neg (by omega)]; exact e3
    · by_cases hjk : j = k
      · subst hjk
        rw [ho] at hq
        simp only [Option.some.injEq] at hq
        subst hq
        simp only [if_true]
        rw [if_neg (by omega), if_neg (by omega), e1, e2]
        exact hloc
      · simp only [hjk, if_false]
        rw [if_neg (by omega), if_neg (by omega)]
        exact e4 j q (by omega) hq
    · by_cases hjk : j = k
      · subst hjk
        simp only [if_true] at hp
        exact hls p hp x hx
      · simp only [hjk, if_false] at hp
        refine e5 j p (by omega) hjl hp x ?_
        cases l with
        | none => exact hx
        | some y => exact List.mem_cons_of_mem _ hx
    · have hjk : ¬ j = k := by omega
      simp only [hjk, if_false] at hq
      by_cases hik : i = k
      · subst hik
        simp only [if_true] at hp
        subst hp
        exact e5 j q (by omega) hjl hq (i, p.1) (List.mem_cons_self ..)
      · simp only [hik, if_false] at hp
        exact e6 i j p q (by omega) hij hjl hp hq
theorem dwp3_of {ops : List Oper} {K : Slots → Heap → Prop} {s : Slots} {h : Heap} (hd : dOk3 ops = true) (hr : dr3 P ow wf n ops h.next 0 ops [] K s ⟨h.next + ops.length, h.obj⟩) : dwp3 P ow wf n ops K s h := by
  obtain ⟨sk, hk, vk, lt, e1, e2, e3, e4, _, e6⟩ := dr3_facts ops 0 [] s _ rfl (Nat.zero_le _) hr
  refine ⟨hd, sk, hk, vk, lt, fun _ => false, e1, e2, e3, ⟨fun j o ho => ?_, fun i j hij hj hi hj2 => ?_⟩⟩
  · obtain ⟨g1, b, g2, g3, g4⟩ := e4 j o (Nat.zero_le _) ho
    refine ⟨g1, b, g2, fun hb => ?_, fun hb => ?_⟩
    · obtain ⟨k1, k2, k3⟩ := g3 hb
      exact ⟨k1, k2, k3, rfl⟩
    · obtain ⟨k1, k2, k3⟩ := g4 hb
      refine ⟨k1, fun hw => ?_, fun hw => ?_⟩
      · obtain ⟨m1, m2, m3⟩ := k2 hw
        exact ⟨m1, m2, rfl, fun M _ => ⟨kx ow ops lt j, fun _ hx => hx, m3 _⟩⟩
      · rcases k3 hw with ⟨m1, ob, m2, m3, m4⟩ | ⟨t, x, y, id, r, f, ob, m1, m2, m3, m4, m5, m6⟩
        · exact .inr (.inl ⟨rfl, m1, ob, m2, m3, m4⟩)
        · exact .inr (.inr ⟨rfl, t, x, y, id, r, f, ob, m1, m2, m3, m4, m5, m6⟩)
  · have hi' : (lt i).isSome = true := hi.resolve_left (by simp)
    have hj' : (lt j).isSome = true := hj2.resolve_left (by simp)
    obtain ⟨p, hp⟩ := Option.isSome_iff_exists.1 hi'
    obtain ⟨q, hq⟩ := Option.isSome_iff_exists.1 hj'
    rcases e6 i j p q (Nat.zero_le _) hij hj hp hq with h1 | h1
    · exact .inl h1
    · exact .inr (.inl ⟨p, q, hp, hq, h1⟩)
theorem a_draw3 {Q : Post} {s : Slots} {h : Heap} {id : Nat} {ops : List Oper} (hd : dOk3 ops = true) (hk : ∀ K : Slots → Heap → Prop, (∀ s h, Q .normal s h → K s h) → dr3 P ow wf n ops h.next 0 ops [] K s ⟨h.next + ops.length, h.obj⟩) : awp P ow wf n (.region id ops.toArray true) Q s h := by
  simp only [awp, if_true]
  exact .inr (.inr (dwp3_of hd (hk _ fun _ _ hq => hq)))
theorem a_draw3S {Q : Post} {s : Slots} {h : Heap} {id : Nat} {ops : List Oper} {K : Slots → Heap → Prop} (hd : dOk3 ops = true) (hk : dr3 P ow wf n ops h.next 0 ops [] K s ⟨h.next + ops.length, h.obj⟩) : awp P ow wf n (.region id ops.toArray true) (Post.seq K Q) s h :=
  a_draw3 hd fun K' hK' => by
    have hm : ∀ (l : List Oper) (k : Nat) (ls : List (Nat × Nat)) (s : Slots) (h0 : Heap), dr3 P ow wf n ops h.next k l ls K s h0 → dr3 P ow wf n ops h.next k l ls K' s h0 := by
      intro l
      induction l with
      | nil => intro k ls s h0 hr; exact hK' _ _ hr
      | cons o l ih =>
        intro k ls s h0 hr
        obtain ⟨s', h', v, l', a, b, c⟩ := hr
        exact ⟨s', h', v, l', a, b, ih _ _ _ _ c⟩
    exact hm _ _ _ _ _ hk
variable {ops rest : List Oper} {base k : Nat} {o : Oper} {ls : List (Nat × Nat)} {K : Slots → Heap → Prop} {s : Slots} {h : Heap}
theorem d3_end (hK : K s h) : dr3 P ow wf n ops base k [] ls K s h := hK
theorem d3_quiet (v : PV) (hd : o.dst.all (fun d => decide (d < n)) = true) (hw : wantedB ops s o = some true) (hW : isW ow wf o = false) (he : ∀ H, Does P ow o (pev s) H v H) (hk : dr3 P ow wf n ops base (k + 1) rest ls K (updO s o.dst v) h) : dr3 P ow wf n ops base k (o :: rest) ls K s h :=
  ⟨_, _, v, none, ⟨hd, true, hw, fun hb => (by cases hb), fun _ => ⟨rfl, fun _ => ⟨rfl, rfl, he⟩, fun hw2 => (by rw [hW] at hw2; cases hw2)⟩⟩, fun p hp => (by cases hp), hk⟩
theorem d3_alloc {t : TypeId} {zs : List Value} (hop : o.op = .alloc t) (hd : o.dst.all (fun d => decide (d < n)) = true) (hw : wantedB ops s o = some true) (hz : zeroT P t = some zs) (hl : 0 < zs.length) (hls : ∀ x ∈ ls, pre ops x.1 k = true ∨ x.2 ≠ base + k)
    (hk : dr3 P ow wf n ops base (k + 1) rest ((k, base + k) :: ls) K (updO s o.dst (.ptr (base + k) 0 0)) (h.set (base + k) (.arr zs.length [zs.map .sc]))) : dr3 P ow wf n ops base k (o :: rest) ls K s h := by
  refine ⟨_, _, .ptr (base + k) 0 0, some (base + k, .arr zs.length [zs.map .sc]), ⟨hd, true, hw, fun hb => (by cases hb), fun _ => ⟨rfl, fun hw2 => ?_, fun _ => .inl ⟨?_, _, rfl, ?_, rfl⟩⟩⟩, fun p hp => ?_, hk⟩
  · unfold isW at hw2; rw [hop] at hw2; simp at hw2
  · unfold isA; rw [hop]
  · unfold aop
    rw [hop]
    simp [eff, hz, hl, Heap.new]
  · simp only [Option.some.injEq] at hp
    subst hp
    exact hls
theorem d3_store {t : TypeId} {x y : Operand} {id r f : Nat} {ob : AObj} {v : PV} (hop : o.op = .store t x y) (hd : o.dst.all (fun d => decide (d < n)) = true) (hw : wantedB ops s o = some true) (hx : pev s x = .ptr id r f) (he : eff P (o.dst.any ow) (.store t x y) (pev s) h = some (v, h.set id ob))
    (hlate : ∀ f q, k < f → ops[f]? = some q → isA ow q = true → base + f ≠ id) (hls : ∀ x ∈ ls, pre ops x.1 k = true ∨ x.2 ≠ id)
    (hk : dr3 P ow wf n ops base (k + 1) rest ((k, id) :: ls) K (updO s o.dst v) (h.set id ob)) : dr3 P ow wf n ops base k (o :: rest) ls K s h := by
  refine ⟨_, _, v, some (id, ob), ⟨hd, true, hw, fun hb => (by cases hb), fun _ => ⟨rfl, fun hw2 => ?_, fun _ => .inr ⟨t, x, y, id, r, f, ob, hop, hx, rfl, rfl, hlate, by rw [hop]; exact he⟩⟩⟩, fun p hp => ?_, hk⟩
  · unfold isW at hw2; rw [hop] at hw2; simp at hw2
  · simp only [Option.some.injEq] at hp
    subst hp
    exact hls
end
end Go.AM
namespace Go.AM
theorem Grow.bump {h h' : Heap} (g : Grow h h') (k : Nat) : Grow h ⟨h'.next + k, h'.obj⟩ := ⟨Nat.le_add_right_of_le g.1, g.2⟩
end Go.AM
namespace Go.Proofs.Ytjlkapgpjamnkaa
open Go.AM
set_option maxHeartbeats 4000000
set_option maxRecDepth 20000
theorem a_genD {P : Program} {ow : Nat → Bool} {wf : FuncId → Bool} {n : Nat} {Q : Post} {s : Slots} {h : Heap} {c : Code} (I : Slots → Heap → Prop) (hi : I s h) (hh : ∀ s h, I s h → awp P ow wf n c Q s h) : awp P ow wf n c Q s h := hh _ _ hi
def sxKids : Sx → List Sx
 | .mk _ _ _ _ _ ks => ks
mutual
def sameX : Sx → Sx → Bool
 | .mk k v li co t ks, .mk k2 v2 _ _ t2 ks2 => (k == k2) && ((v == v2) && ((t.data.toList == t2.data.toList) && ((li == 0) && ((co == 0) && sameXs ks ks2))))
def sameXs : List Sx → List Sx → Bool
 | [], [] => true
 | a :: l, b :: m => sameX a b && sameXs l m
 | _, _ => false
end
theorem sameXs_len : ∀ {l m : List Sx}, ¬ l.length = m.length → sameXs l m = false
 | [], [], h => by simp at h
 | [], _ :: _, _ => rfl
 | _ :: _, [], _ => rfl
 | a :: l, b :: m, h => by simp only [sameXs, sameXs_len (l := l) (m := m) (by simpa using h), Bool.and_false]
theorem same_of {l m : List Sx} (hl : l.length ≤ bigN) (hf : ∀ x ∈ l, ∀ (m : List Sx) (h : Heap), PCall Try.prog 30 [.imm 6 (Sx.rows (sxKids x)), .imm 6 (Sx.rows m)] h fun r h' => r = .sc (.bool (sameXs (sxKids x) m)) ∧ h' = h) (h : Heap) :
  PCall Try.prog 30 [.imm 6 (Sx.rows l), .imm 6 (Sx.rows m)] h fun r h' => r = .sc (.bool (sameXs l m)) ∧ h' = h := by
 unfold bigN at hl
 have hll := Sx.rows_len l
 have hlm := Sx.rows_len m
 refine PCall.quiet Ty.hb_30 ?_
 refine pcall_body (ow := fun _ => false) (wf := fun _ => false) Ty.mixed Try.func30 rfl Ty.hb_30 (by rw [Try.ntmps30]; simp) ?_
 rw [Try.ntmps30, Try.results30]
 cases hne : ((l.length : Int) != m.length) with
 | true =>
  have : sameXs l m = false := sameXs_len (by simp at hne; omega)
  repeat' (first | refine a_seq fun K hK => ?_ | (refine a_block ?_) | ((first | refine a_regionS ?_ | refine a_region (fun K hK => ?_) | refine a_ret ?_); simp (maxSteps := 2000000) only [Ty.w, simprocAttr, hll, hlm, hne]) | ((first | refine a_skip ?_ | refine a_exit ?_); try simp only [pst0, simprocAttr]) | (refine a_cond _ (by (try simp (maxSteps := 2000000) only [Ty.w, simprocAttr, hll, hlm, hne]); rfl) (fun hb => ?_) (fun hb => ?_) <;> (try simp only [hb0, decide_eq_true_eq, decide_eq_false_iff_not, simprocAttr] at hb) <;> (try (exfalso; omega))) | (with_reducible refine ite_in (fun hb => ?_) (fun hb => ?_) <;> (try simp only [Decidable.not_not] at hb) <;> (try simp only [hb, if_true, if_false, not_false_eq_true, not_true_eq_false, ↓reduceIte]) <;> (try simp only [hb0, decide_eq_true_eq, decide_eq_false_iff_not, simprocAttr] at hb) <;> (try (exfalso; omega))) | ((first | refine hK _ _ ?_ | (clear hK; refine hK _ _ ?_) | (clear hK; clear hK; refine hK _ _ ?_) | (clear hK; clear hK; clear hK; refine hK _ _ ?_)); clear hK; try simp only [pst0, simprocAttr]) | (rw [if_pos]; rotate_left 1; omega; simp (maxSteps := 2000000) only [Ty.w, simprocAttr, hll, hlm, hne]))
  rw [this]
  exact ⟨rfl, Grow.refl _⟩
 | false =>
  have hlen : l.length = m.length := by simp at hne; omega
  repeat' (first | refine a_seq fun K hK => ?_ | (refine a_block ?_) | ((first | refine a_regionS ?_ | refine a_region (fun K hK => ?_) | refine a_ret ?_); simp (maxSteps := 2000000) only [Ty.w, simprocAttr, hll, hlm, hne]) | ((first | refine a_skip ?_ | refine a_exit ?_); try simp only [pst0, simprocAttr]) | (refine a_cond _ (by (try simp (maxSteps := 2000000) only [Ty.w, simprocAttr, hll, hlm, hne]); rfl) (fun hb => ?_) (fun hb => ?_) <;> (try simp only [hb0, decide_eq_true_eq, decide_eq_false_iff_not, simprocAttr] at hb) <;> (try (exfalso; omega))) | (with_reducible refine ite_in (fun hb => ?_) (fun hb => ?_) <;> (try simp only [Decidable.not_not] at hb) <;> (try simp only [hb, if_true, if_false, not_false_eq_true, not_true_eq_false, ↓reduceIte]) <;> (try simp only [hb0, decide_eq_true_eq, decide_eq_false_iff_not, simprocAttr] at hb) <;> (try (exfalso; omega))) | ((first | refine hK _ _ ?_ | (clear hK; refine hK _ _ ?_) | (clear hK; clear hK; refine hK _ _ ?_) | (clear hK; clear hK; clear hK; refine hK _ _ ?_)); clear hK; try simp only [pst0, simprocAttr]) | (rw [if_pos]; rotate_left 1; omega; simp (maxSteps := 2000000) only [Ty.w, simprocAttr, hll, hlm, hne]))
  refine a_loop (fun c S h' => Grow h h' ∧ S 0 = .imm 6 (Sx.rows l) ∧ S 1 = .imm 6 (Sx.rows m) ∧ ∃ k : Nat, S 5 = .sc (.int .i64 k) ∧ k ≤ l.length ∧ c = l.length - k ∧ sameXs l m = sameXs (l.drop k) (m.drop k)) l.length ?_ ?_
  ·simp only [Ty.w, simprocAttr]
   exact ⟨Grow.refl _, 0, rfl, by omega, rfl, by simp⟩
  ·rintro c S h' ⟨hg, g0, g1, k, g5, hkl, rfl, hinv⟩
   by_cases hlt : k < l.length
   ·have hd : decide ((k : Int) < (l.length : Int)) = true := by simp; omega
    have w7 : IntKind.i64.wrap ((k : Int) + 1) = k + 1 := by rw [wrap64 (by omega) (by omega)]
    obtain ⟨a, hx⟩ : ∃ a, l[k]? = some a := ⟨_, List.getElem?_eq_getElem hlt⟩
    obtain ⟨b, hy⟩ : ∃ b, m[k]? = some b := ⟨_, List.getElem?_eq_getElem (by omega)⟩
    have hc := hf a (List.mem_of_getElem? hx) (sxKids b)
    rw [drop_of_get hx, drop_of_get hy] at hinv
    simp only [sameXs] at hinv
    have hr := Sx.rows_get hx
    have hr2 := Sx.rows_get hy
    obtain ⟨ki, va, li, co, te, ks⟩ := a
    obtain ⟨ki2, va2, li2, co2, te2, ks2⟩ := b
    simp only [sxKids, sameX] at hc hinv
    simp only [Sx.cells] at hr hr2
    generalize sameXs ks ks2 = v at hc hinv
    repeat' (first | refine a_seq fun K hK => ?_ | (refine a_block ?_) | ((first | refine a_regionS ?_ | refine a_region (fun K hK => ?_) | refine a_ret ?_); simp (maxSteps := 2000000) only [Ty.w, simprocAttr, g0, g1, g5, hll, hlm, hd]) | ((first | refine a_skip ?_ | refine a_exit ?_); try simp only [pst0, simprocAttr]) | (refine a_cond _ (by (try simp (maxSteps := 2000000) only [Ty.w, simprocAttr, g0, g1, g5, hll, hlm, hd]); rfl) (fun hb => ?_) (fun hb => ?_) <;> (try simp only [hb0, decide_eq_true_eq, decide_eq_false_iff_not, simprocAttr] at hb) <;> (try (exfalso; omega))) | (with_reducible refine ite_in (fun hb => ?_) (fun hb => ?_) <;> (try simp only [Decidable.not_not] at hb) <;> (try simp only [hb, if_true, if_false, not_false_eq_true, not_true_eq_false, ↓reduceIte]) <;> (try simp only [hb0, decide_eq_true_eq, decide_eq_false_iff_not, simprocAttr] at hb) <;> (try (exfalso; omega))) | ((first | refine hK _ _ ?_ | (clear hK; refine hK _ _ ?_) | (clear hK; clear hK; refine hK _ _ ?_) | (clear hK; clear hK; clear hK; refine hK _ _ ?_)); clear hK; try simp only [pst0, simprocAttr]) | (rw [if_pos]; rotate_left 1; omega; simp (maxSteps := 2000000) only [Ty.w, simprocAttr, g0, g1, g5, hll, hlm, hd]))
    refine a_draw3S (by decide +kernel) ?_
    refine d3_quiet _ (by decide) rfl rfl (fun H => by (try simp (maxSteps := 2000000) only [Ty.w, simprocAttr, Ty.all, g0, g1, g5]); first | rfl | exact ⟨rfl, rfl⟩) ?_
    refine d3_quiet _ (by decide) rfl rfl (fun H => by (try simp (maxSteps := 2000000) only [Ty.w, simprocAttr, Ty.all, g0, g1, g5]); first | rfl | exact ⟨rfl, rfl⟩) ?_
    refine d3_quiet _ (by decide) rfl rfl (fun H => by (try simp (maxSteps := 2000000) only [Ty.w, simprocAttr, Ty.all, g0, g1, g5, hr]); first | rfl | exact ⟨rfl, rfl⟩) ?_
    refine d3_quiet _ (by decide) rfl rfl (fun H => by (try simp (maxSteps := 2000000) only [Ty.w, simprocAttr, Ty.all, g0, g1, g5, hr]); first | rfl | exact ⟨rfl, rfl⟩) ?_
    refine d3_quiet _ (by decide) rfl rfl (fun H => by (try simp (maxSteps := 2000000) only [Ty.w, simprocAttr, Ty.all, g0, g1, g5]); first | rfl | exact ⟨rfl, rfl⟩) ?_
    refine d3_quiet _ (by decide) rfl rfl (fun H => by (try simp (maxSteps := 2000000) only [Ty.w, simprocAttr, Ty.all, g0, g1, g5]); first | rfl | exact ⟨rfl, rfl⟩) ?_
    refine d3_quiet _ (by decide) rfl rfl (fun H => by (try simp (maxSteps := 2000000) only [Ty.w, simprocAttr, Ty.all, g0, g1, g5, hr2]); first | rfl | exact ⟨rfl, rfl⟩) ?_
    refine d3_quiet _ (by decide) rfl rfl (fun H => by (try simp (maxSteps := 2000000) only [Ty.w, simprocAttr, Ty.all, g0, g1, g5, hr2]); first | rfl | exact ⟨rfl, rfl⟩) ?_
    refine d3_alloc rfl (by decide) rfl (by simp only [Ty.all]; rfl) (by decide) (by intro x hx; repeat' (first | (exact absurd hx (List.not_mem_nil)) | (rcases List.mem_cons.1 hx with rfl | hx) | exact .inl (by dsimp only; decide +kernel) | exact .inl (by decide +kernel) | exact .inr (by (try dsimp only); omega))) ?_
    refine d3_alloc rfl (by decide) rfl (by simp only [Ty.all]; rfl) (by decide) (by intro x hx; repeat' (first | (exact absurd hx (List.not_mem_nil)) | (rcases List.mem_cons.1 hx with rfl | hx) | exact .inl (by dsimp only; decide +kernel) | exact .inl (by decide +kernel) | exact .inr (by (try dsimp only); omega))) ?_
    refine d3_store rfl (by decide) rfl (by (try simp (maxSteps := 2000000) only [Ty.w, simprocAttr, Ty.all, nsucc, Nat.add_eq_left, Nat.one_ne_zero]); rfl) (by (try simp (maxSteps := 2000000) only [Ty.w, simprocAttr, Ty.all, nsucc, Nat.add_eq_left, Nat.one_ne_zero]); first | rfl | exact ⟨rfl, rfl⟩) (fun f q hf _ _ hq => absurd hf (by rw [Nat.add_left_cancel hq]; decide)) (by intro x hx; repeat' (first | (exact absurd hx (List.not_mem_nil)) | (rcases List.mem_cons.1 hx with rfl | hx) | exact .inl (by dsimp only; decide +kernel) | exact .inl (by decide +kernel) | exact .inr (by (try dsimp only); omega))) ?_
    refine d3_store rfl (by decide) rfl (by (try simp (maxSteps := 2000000) only [Ty.w, simprocAttr, Ty.all, nsucc, Nat.add_eq_left, Nat.one_ne_zero]); rfl) (by (try simp (maxSteps := 2000000) only [Ty.w, simprocAttr, Ty.all, nsucc, Nat.add_eq_left, Nat.one_ne_zero]); first | rfl | exact ⟨rfl, rfl⟩) (fun f q hf _ _ hq => absurd hf (by rw [Nat.add_left_cancel hq]; decide)) (by intro x hx; repeat' (first | (exact absurd hx (List.not_mem_nil)) | (rcases List.mem_cons.1 hx with rfl | hx) | exact .inl (by dsimp only; decide +kernel) | exact .inl (by decide +kernel) | exact .inr (by (try dsimp only); omega))) ?_
    refine d3_end ?_
    refine hK _ _ ?_
    clear hK K
    refine a_genD (fun S2 h2 => Grow h h2 ∧ S2 0 = .imm 6 (Sx.rows l) ∧ S2 1 = .imm 6 (Sx.rows m) ∧ S2 5 = .sc (.int .i64 k) ∧ S2 6 = .ptr (h'.next + 8) 0 0 ∧ S2 7 = .ptr (h'.next + 9) 0 0 ∧ h2.obj (h'.next + 8) = some (.arr 6 [[.sc (.int .i64 ki), .sc (.int .i64 va), .sc (.int .i64 li), .sc (.int .i64 co), sPV te, .imm 6 (Sx.rows ks)]]) ∧ h2.obj (h'.next + 9) = some (.arr 6 [[.sc (.int .i64 ki2), .sc (.int .i64 va2), .sc (.int .i64 li2), .sc (.int .i64 co2), sPV te2, .imm 6 (Sx.rows ks2)]])) ?_ ?_
    ·simp (maxSteps := 2000000) only [Ty.w, simprocAttr, g0, g1, g5, nsucc, Nat.add_eq_left, Nat.one_ne_zero]
     exact (((((hg.bump _).set (Nat.le_add_right_of_le hg.le) _).set (Nat.le_add_right_of_le hg.le) _).set (Nat.le_add_right_of_le hg.le) _).set (Nat.le_add_right_of_le hg.le) _)
    ·rintro S2 h2 ⟨hg2, k0, k1, k5, k7, k8, o7, o8⟩
     clear hg g0 g1 g5
     cases q0 : (ki == ki2) with
     | false =>
      repeat' (first | refine a_seq fun K hK => ?_ | (refine a_block ?_) | ((first | refine a_regionS ?_ | refine a_region (fun K hK => ?_) | refine a_ret ?_); simp (maxSteps := 2000000) only [Ty.w, simprocAttr, k0, k1, k5, k7, k8, o7, o8, bne, Bool.not_true, Bool.not_false, q0]) | ((first | refine a_skip ?_ | refine a_exit ?_); try simp only [pst0, simprocAttr]) | (refine a_cond _ (by (try simp (maxSteps := 2000000) only [Ty.w, simprocAttr, k0, k1, k5, k7, k8, o7, o8, bne, Bool.not_true, Bool.not_false, q0]); rfl) (fun hb => ?_) (fun hb => ?_) <;> (try simp only [hb0, decide_eq_true_eq, decide_eq_false_iff_not, simprocAttr] at hb) <;> (try (exfalso; omega))) | (with_reducible refine ite_in (fun hb => ?_) (fun hb => ?_) <;> (try simp only [Decidable.not_not] at hb) <;> (try simp only [hb, if_true, if_false, not_false_eq_true, not_true_eq_false, ↓reduceIte]) <;> (try simp only [hb0, decide_eq_true_eq, decide_eq_false_iff_not, simprocAttr] at hb) <;> (try (exfalso; omega))) | ((first | refine hK _ _ ?_ | (clear hK; refine hK _ _ ?_) | (clear hK; clear hK; refine hK _ _ ?_) | (clear hK; clear hK; clear hK; refine hK _ _ ?_)); clear hK; try simp only [pst0, simprocAttr]) | (rw [if_pos]; rotate_left 1; omega; simp (maxSteps := 2000000) only [Ty.w, simprocAttr, k0, k1, k5, k7, k8, o7, o8, bne, Bool.not_true, Bool.not_false, q0]))
      all_goals (refine ⟨?_, hg2⟩; rw [hinv]; simp only [q0, Bool.true_and, Bool.false_and, Bool.and_false, Bool.and_true]; done)
     | true =>
      cases q1 : (va == va2) with
      | false =>
       repeat' (first | refine a_seq fun K hK => ?_ | (refine a_block ?_) | ((first | refine a_regionS ?_ | refine a_region (fun K hK => ?_) | refine a_ret ?_); simp (maxSteps := 2000000) only [Ty.w, simprocAttr, k0, k1, k5, k7, k8, o7, o8, bne, Bool.not_true, Bool.not_false, q0, q1]) | ((first | refine a_skip ?_ | refine a_exit ?_); try simp only [pst0, simprocAttr]) | (refine a_cond _ (by (try simp (maxSteps := 2000000) only [Ty.w, simprocAttr, k0, k1, k5, k7, k8, o7, o8, bne, Bool.not_true, Bool.not_false, q0, q1]); rfl) (fun hb => ?_) (fun hb => ?_) <;> (try simp only [hb0, decide_eq_true_eq, decide_eq_false_iff_not, simprocAttr] at hb) <;> (try (exfalso; omega))) | (with_reducible refine ite_in (fun hb => ?_) (fun hb => ?_) <;> (try simp only [Decidable.not_not] at hb) <;> (try simp only [hb, if_true, if_false, not_false_eq_true, not_true_eq_false, ↓reduceIte]) <;> (try simp only [hb0, decide_eq_true_eq, decide_eq_false_iff_not, simprocAttr] at hb) <;> (try (exfalso; omega))) | ((first | refine hK _ _ ?_ | (clear hK; refine hK _ _ ?_) | (clear hK; clear hK; refine hK _ _ ?_) | (clear hK; clear hK; clear hK; refine hK _ _ ?_)); clear hK; try simp only [pst0, simprocAttr]) | (rw [if_pos]; rotate_left 1; omega; simp (maxSteps := 2000000) only [Ty.w, simprocAttr, k0, k1, k5, k7, k8, o7, o8, bne, Bool.not_true, Bool.not_false, q0, q1]))
       all_goals (refine ⟨?_, hg2⟩; rw [hinv]; simp only [q0, q1, Bool.true_and, Bool.false_and, Bool.and_false, Bool.and_true]; done)
      | true =>
       cases q2 : (te.data.toList == te2.data.toList) with
       | false =>
        repeat' (first | refine a_seq fun K hK => ?_ | (refine a_block ?_) | ((first | refine a_regionS ?_ | refine a_region (fun K hK => ?_) | refine a_ret ?_); simp (maxSteps := 2000000) only [Ty.w, simprocAttr, k0, k1, k5, k7, k8, o7, o8, bne, Bool.not_true, Bool.not_false, q0, q1, q2]) | ((first | refine a_skip ?_ | refine a_exit ?_); try simp only [pst0, simprocAttr]) | (refine a_cond _ (by (try simp (maxSteps := 2000000) only [Ty.w, simprocAttr, k0, k1, k5, k7, k8, o7, o8, bne, Bool.not_true, Bool.not_false, q0, q1, q2]); rfl) (fun hb => ?_) (fun hb => ?_) <;> (try simp only [hb0, decide_eq_true_eq, decide_eq_false_iff_not, simprocAttr] at hb) <;> (try (exfalso; omega))) | (with_reducible refine ite_in (fun hb => ?_) (fun hb => ?_) <;> (try simp only [Decidable.not_not] at hb) <;> (try simp only [hb, if_true, if_false, not_false_eq_true, not_true_eq_false, ↓reduceIte]) <;> (try simp only [hb0, decide_eq_true_eq, decide_eq_false_iff_not, simprocAttr] at hb) <;> (try (exfalso; omega))) | ((first | refine hK _ _ ?_ | (clear hK; refine hK _ _ ?_) | (clear hK; clear hK; refine hK _ _ ?_) | (clear hK; clear hK; clear hK; refine hK _ _ ?_)); clear hK; try simp only [pst0, simprocAttr]) | (rw [if_pos]; rotate_left 1; omega; simp (maxSteps := 2000000) only [Ty.w, simprocAttr, k0, k1, k5, k7, k8, o7, o8, bne, Bool.not_true, Bool.not_false, q0, q1, q2]))
        all_goals (refine ⟨?_, hg2⟩; rw [hinv]; simp only [q0, q1, q2, Bool.true_and, Bool.false_and, Bool.and_false, Bool.and_true]; done)
       | true =>
        cases q3 : (li == 0) with
        | false =>
         repeat' (first | refine a_seq fun K hK => ?_ | (refine a_block ?_) | ((first | refine a_regionS ?_ | refine a_region (fun K hK => ?_) | refine a_ret ?_); simp (maxSteps := 2000000) only [Ty.w, simprocAttr, k0, k1, k5, k7, k8, o7, o8, bne, Bool.not_true, Bool.not_false, q0, q1, q2, q3]) | ((first | refine a_skip ?_ | refine a_exit ?_); try simp only [pst0, simprocAttr]) | (refine a_cond _ (by (try simp (maxSteps := 2000000) only [Ty.w, simprocAttr, k0, k1, k5, k7, k8, o7, o8, bne, Bool.not_true, Bool.not_false, q0, q1, q2, q3]); rfl) (fun hb => ?_) (fun hb => ?_) <;> (try simp only [hb0, decide_eq_true_eq, decide_eq_false_iff_not, simprocAttr] at hb) <;> (try (exfalso; omega))) | (with_reducible refine ite_in (fun hb => ?_) (fun hb => ?_) <;> (try simp only [Decidable.not_not] at hb) <;> (try simp only [hb, if_true, if_false, not_false_eq_true, not_true_eq_false, ↓reduceIte]) <;> (try simp only [hb0, decide_eq_true_eq, decide_eq_false_iff_not, simprocAttr] at hb) <;> (try (exfalso; omega))) | ((first | refine hK _ _ ?_ | (clear hK; refine hK _ _ ?_) | (clear hK; clear hK; refine hK _ _ ?_) | (clear hK; clear hK; clear hK; refine hK _ _ ?_)); clear hK; try simp only [pst0, simprocAttr]) | (rw [if_pos]; rotate_left 1; omega; simp (maxSteps := 2000000) only [Ty.w, simprocAttr, k0, k1, k5, k7, k8, o7, o8, bne, Bool.not_true, Bool.not_false, q0, q1, q2, q3]))
         all_goals (refine ⟨?_, hg2⟩; rw [hinv]; simp only [q0, q1, q2, q3, Bool.true_and, Bool.false_and, Bool.and_false, Bool.and_true]; done)
        | true =>
         cases q4 : (co == 0) with
         | false =>
          repeat' (first | refine a_seq fun K hK => ?_ | (refine a_block ?_) | ((first | refine a_regionS ?_ | refine a_region (fun K hK => ?_) | refine a_ret ?_); simp (maxSteps := 2000000) only [Ty.w, simprocAttr, k0, k1, k5, k7, k8, o7, o8, bne, Bool.not_true, Bool.not_false, q0, q1, q2, q3, q4]) | ((first | refine a_skip ?_ | refine a_exit ?_); try simp only [pst0, simprocAttr]) | (refine a_cond _ (by (try simp (maxSteps := 2000000) only [Ty.w, simprocAttr, k0, k1, k5, k7, k8, o7, o8, bne, Bool.not_true, Bool.not_false, q0, q1, q2, q3, q4]); rfl) (fun hb => ?_) (fun hb => ?_) <;> (try simp only [hb0, decide_eq_true_eq, decide_eq_false_iff_not, simprocAttr] at hb) <;> (try (exfalso; omega))) | (with_reducible refine ite_in (fun hb => ?_) (fun hb => ?_) <;> (try simp only [Decidable.not_not] at hb) <;> (try simp only [hb, if_true, if_false, not_false_eq_true, not_true_eq_false, ↓reduceIte]) <;> (try simp only [hb0, decide_eq_true_eq, decide_eq_false_iff_not, simprocAttr] at hb) <;> (try (exfalso; omega))) | ((first | refine hK _ _ ?_ | (clear hK; refine hK _ _ ?_) | (clear hK; clear hK; refine hK _ _ ?_) | (clear hK; clear hK; clear hK; refine hK _ _ ?_)); clear hK; try simp only [pst0, simprocAttr]) | (rw [if_pos]; rotate_left 1; omega; simp (maxSteps := 2000000) only [Ty.w, simprocAttr, k0, k1, k5, k7, k8, o7, o8, bne, Bool.not_true, Bool.not_false, q0, q1, q2, q3, q4]))
          all_goals (refine ⟨?_, hg2⟩; rw [hinv]; simp only [q0, q1, q2, q3, q4, Bool.true_and, Bool.false_and, Bool.and_false, Bool.and_true]; done)
         | true =>
          repeat' (first | refine a_seq fun K hK => ?_ | (refine a_block ?_) | ((first | refine a_regionS ?_ | refine a_region (fun K hK => ?_) | refine a_ret ?_); simp (maxSteps := 2000000) only [Ty.w, simprocAttr, k0, k1, k5, k7, k8, o7, o8, bne, Bool.not_true, Bool.not_false, q0, q1, q2, q3, q4]) | ((first | refine a_skip ?_ | refine a_exit ?_); try simp only [pst0, simprocAttr]) | (refine a_cond _ (by (try simp (maxSteps := 2000000) only [Ty.w, simprocAttr, k0, k1, k5, k7, k8, o7, o8, bne, Bool.not_true, Bool.not_false, q0, q1, q2, q3, q4]); rfl) (fun hb => ?_) (fun hb => ?_) <;> (try simp only [hb0, decide_eq_true_eq, decide_eq_false_iff_not, simprocAttr] at hb) <;> (try (exfalso; omega))) | (with_reducible refine ite_in (fun hb => ?_) (fun hb => ?_) <;> (try simp only [Decidable.not_not] at hb) <;> (try simp only [hb, if_true, if_false, not_false_eq_true, not_true_eq_false, ↓reduceIte]) <;> (try simp only [hb0, decide_eq_true_eq, decide_eq_false_iff_not, simprocAttr] at hb) <;> (try (exfalso; omega))) | ((first | refine hK _ _ ?_ | (clear hK; refine hK _ _ ?_) | (clear hK; clear hK; refine hK _ _ ?_) | (clear hK; clear hK; clear hK; refine hK _ _ ?_)); clear hK; try simp only [pst0, simprocAttr]) | (rw [if_pos]; rotate_left 1; omega; simp (maxSteps := 2000000) only [Ty.w, simprocAttr, k0, k1, k5, k7, k8, o7, o8, bne, Bool.not_true, Bool.not_false, q0, q1, q2, q3, q4]))
          cases v with
          | false =>
           have W := And.intro k0 (And.intro k1 (And.intro k5 (And.intro k7 (And.intro k8 (And.intro o7 (And.intro o8 (And.intro q0 (And.intro q1 (And.intro q2 (And.intro q3 q4))))))))))
           refine owp_useQ (hc _) (by (try simp only [Ty.w, simprocAttr, W, bne, Bool.not_true, Bool.not_false]); try rfl) ?_; simp (maxSteps := 2000000) only [Ty.w, simprocAttr, W, bne, Bool.not_true, Bool.not_false]
           repeat' (first | refine a_seq fun K hK => ?_ | (refine a_block ?_) | ((first | refine a_regionS ?_ | refine a_region (fun K hK => ?_) | refine a_ret ?_); simp (maxSteps := 2000000) only [Ty.w, simprocAttr, W, bne, Bool.not_true, Bool.not_false]) | ((first | refine a_skip ?_ | refine a_exit ?_); try simp only [pst0, simprocAttr]) | (refine a_cond _ (by (try simp (maxSteps := 2000000) only [Ty.w, simprocAttr, W, bne, Bool.not_true, Bool.not_false]); rfl) (fun hb => ?_) (fun hb => ?_) <;> (try simp only [hb0, decide_eq_true_eq, decide_eq_false_iff_not, simprocAttr] at hb) <;> (try (exfalso; omega))) | (with_reducible refine ite_in (fun hb => ?_) (fun hb => ?_) <;> (try simp only [Decidable.not_not] at hb) <;> (try simp only [hb, if_true, if_false, not_false_eq_true, not_true_eq_false, ↓reduceIte]) <;> (try simp only [hb0, decide_eq_true_eq, decide_eq_false_iff_not, simprocAttr] at hb) <;> (try (exfalso; omega))) | ((first | refine hK _ _ ?_ | (clear hK; refine hK _ _ ?_) | (clear hK; clear hK; refine hK _ _ ?_) | (clear hK; clear hK; clear hK; refine hK _ _ ?_)); clear hK; try simp only [pst0, simprocAttr]) | (rw [if_pos]; rotate_left 1; omega; simp (maxSteps := 2000000) only [Ty.w, simprocAttr, W, bne, Bool.not_true, Bool.not_false]))
           all_goals (refine ⟨?_, hg2⟩; rw [hinv]; simp only [q0, q1, q2, q3, q4, Bool.true_and, Bool.false_and, Bool.and_false, Bool.and_true]; done)
          | true =>
           have W := And.intro k0 (And.intro k1 (And.intro k5 (And.intro k7 (And.intro k8 (And.intro o7 (And.intro o8 (And.intro q0 (And.intro q1 (And.intro q2 (And.intro q3 (And.intro q4 w7)))))))))))
           refine owp_useQ (hc _) (by (try simp only [Ty.w, simprocAttr, W, bne, Bool.not_true, Bool.not_false]); try rfl) ?_; simp (maxSteps := 2000000) only [Ty.w, simprocAttr, W, bne, Bool.not_true, Bool.not_false]
           repeat' (first | refine a_seq fun K hK => ?_ | (refine a_block ?_) | ((first | refine a_regionS ?_ | refine a_region (fun K hK => ?_) | refine a_ret ?_); simp (maxSteps := 2000000) only [Ty.w, simprocAttr, W, bne, Bool.not_true, Bool.not_false]) | ((first | refine a_skip ?_ | refine a_exit ?_); try simp only [pst0, simprocAttr]) | (refine a_cond _ (by (try simp (maxSteps := 2000000) only [Ty.w, simprocAttr, W, bne, Bool.not_true, Bool.not_false]); rfl) (fun hb => ?_) (fun hb => ?_) <;> (try simp only [hb0, decide_eq_true_eq, decide_eq_false_iff_not, simprocAttr] at hb) <;> (try (exfalso; omega))) | (with_reducible refine ite_in (fun hb => ?_) (fun hb => ?_) <;> (try simp only [Decidable.not_not] at hb) <;> (try simp only [hb, if_true, if_false, not_false_eq_true, not_true_eq_false, ↓reduceIte]) <;> (try simp only [hb0, decide_eq_true_eq, decide_eq_false_iff_not, simprocAttr] at hb) <;> (try (exfalso; omega))) | ((first | refine hK _ _ ?_ | (clear hK; refine hK _ _ ?_) | (clear hK; clear hK; refine hK _ _ ?_) | (clear hK; clear hK; clear hK; refine hK _ _ ?_)); clear hK; try simp only [pst0, simprocAttr]) | (rw [if_pos]; rotate_left 1; omega; simp (maxSteps := 2000000) only [Ty.w, simprocAttr, W, bne, Bool.not_true, Bool.not_false]))
           (simp only [q0, q1, q2, q3, q4, Bool.true_and] at hinv; exact ⟨l.length - (k + 1), by omega, hg2, k + 1, by simp, by omega, rfl, hinv⟩)
   ·have hd : decide ((k : Int) < (l.length : Int)) = false := by simp; omega
    rw [List.drop_eq_nil_of_le (by omega), List.drop_eq_nil_of_le (by omega)] at hinv
    simp only [sameXs] at hinv
    repeat' (first | refine a_seq fun K hK => ?_ | (refine a_block ?_) | ((first | refine a_regionS ?_ | refine a_region (fun K hK => ?_) | refine a_ret ?_); simp (maxSteps := 2000000) only [Ty.w, simprocAttr, g0, g1, g5, hll, hd]) | ((first | refine a_skip ?_ | refine a_exit ?_); try simp only [pst0, simprocAttr]) | (refine a_cond _ (by (try simp (maxSteps := 2000000) only [Ty.w, simprocAttr, g0, g1, g5, hll, hd]); rfl) (fun hb => ?_) (fun hb => ?_) <;> (try simp only [hb0, decide_eq_true_eq, decide_eq_false_iff_not, simprocAttr] at hb) <;> (try (exfalso; omega))) | (with_reducible refine ite_in (fun hb => ?_) (fun hb => ?_) <;> (try simp only [Decidable.not_not] at hb) <;> (try simp only [hb, if_true, if_false, not_false_eq_true, not_true_eq_false, ↓reduceIte]) <;> (try simp only [hb0, decide_eq_true_eq, decide_eq_false_iff_not, simprocAttr] at hb) <;> (try (exfalso; omega))) | ((first | refine hK _ _ ?_ | (clear hK; refine hK _ _ ?_) | (clear hK; clear hK; refine hK _ _ ?_) | (clear hK; clear hK; clear hK; refine hK _ _ ?_)); clear hK; try simp only [pst0, simprocAttr]) | (rw [if_pos]; rotate_left 1; omega; simp (maxSteps := 2000000) only [Ty.w, simprocAttr, g0, g1, g5, hll, hd]))
    rw [hinv]
    exact ⟨rfl, hg⟩
theorem same_all : ∀ x : Sx, x.ok → ∀ (m : List Sx) (h : Heap), PCall Try.prog 30 [.imm 6 (Sx.rows (sxKids x)), .imm 6 (Sx.rows m)] h fun r h' => r = .sc (.bool (sameXs (sxKids x) m)) ∧ h' = h :=
 Sx.ind fun kind value line col text kids ih hx m h => by
  simp only [Sx.ok] at hx
  simp only [sxKids]
  exact same_of hx.2.2.2.1 (fun x hx2 m h => ih x hx2 (Sx.oks_iff.1 hx.2.2.2.2 x hx2) m h) h
theorem same_c {l m : List Sx} (hl : l.length ≤ bigN) (ho : ∀ x ∈ l, x.ok) (h : Heap) : PCall Try.prog 30 [.imm 6 (Sx.rows l), .imm 6 (Sx.rows m)] h fun r h' => r = .sc (.bool (sameXs l m)) ∧ h' = h :=
 same_of hl (fun x hx => same_all x (ho x hx)) h
end Go.Proofs.Ytjlkapgpjamnkaa
namespace Go.Proofs.Ytjlkapgpjamnkaa
open Go.AM
mutual
def posX : Sx → Bool
 | .mk _ _ li co _ ks => (li == 0) && (co == 0) && posXs ks
def posXs : List Sx → Bool
 | [] => true
 | k :: ks => posX k && posXs ks
end
theorem posXs_iff : ∀ {l : List Sx}, (posXs l = true ↔ ∀ k ∈ l, posX k = true)
 | [] => by simp [posXs]
 | k :: l => by simp [posXs, posXs_iff (l := l)]
mutual
theorem sameX_refl : ∀ x : Sx, posX x = true → sameX x x = true
 | .mk _ _ li co _ ks, h => by
  simp only [posX, Bool.and_eq_true] at h
  simp only [sameX, beq_self_eq_true, h.1.1, h.1.2, sameXs_refl ks h.2, Bool.and_true]
theorem sameXs_refl : ∀ l : List Sx, posXs l = true → sameXs l l = true
 | [], _ => rfl
 | k :: ks, h => by
  simp only [posXs, Bool.and_eq_true] at h
  simp only [sameXs, sameX_refl k h.1, sameXs_refl ks h.2, Bool.and_true]
end
theorem pos_word (s : ByteArray) : posX (wordM s) = true := by simp [wordM, posX, posXs]
theorem pos_list {l : List Sx} (h : ∀ k ∈ l, posX k = true) : posX (listM l) = true := by
 simp only [listM, posX, posXs_iff.2 h, beq_self_eq_true, Bool.and_true]
theorem pos_words (s : ByteArray) (l : List ByteArray) : posX (wordsM s l) = true := by
 refine pos_list fun k hk => ?_
 obtain ⟨x, _, rfl⟩ := List.mem_map.1 hk
 exact pos_word x
theorem exW_pos : ∀ e : Ex, posX (exW e) = true := by
 refine Ex.ind ?_
 intro op name n args kids ih
 unfold exW
 split
 ·simp [posX, posXs]
 ·split
  ·exact pos_words _ _
  ·split
   ·rename_i a b
    refine pos_list fun k hk => ?_
    simp only [List.mem_cons, List.not_mem_nil, or_false] at hk
    rcases hk with rfl | rfl | rfl
    ·exact pos_word _
    ·exact ih a (by simp)
    ·exact ih b (by simp)
   ·refine pos_list fun k hk => ?_
    simp only [List.mem_cons, List.not_mem_nil, or_false] at hk
    rw [hk]; exact pos_word _
theorem params_pos : ∀ l : List Pm, ∀ k ∈ paramsW l, posX k = true
 | [], k, h => by simp [paramsW] at h
 | p :: l, k, h => by
  simp only [paramsW, List.mem_cons] at h
  rcases h with rfl | rfl | rfl | h
  ·exact pos_word _
  ·exact pos_word _
  ·exact pos_word _
  ·exact params_pos l k h
theorem fmW_pos : ∀ f : Fm, posX (fmW f) = true := by
 refine Fm.ind ?_
 intro op name args params exprs kids ih
 unfold fmW
 split
 ·exact pos_words _ _
 ·split
  ·exact pos_words _ _
  ·split
   ·refine pos_list fun k hk => ?_
    rcases List.mem_cons.1 hk with rfl | hk
    ·exact pos_word _
    ·obtain ⟨x, _, rfl⟩ := List.mem_map.1 hk
     exact exW_pos x
   ·refine pos_list fun k hk => ?_
    rcases List.mem_append.1 hk with hk | hk
    ·rcases List.mem_append.1 hk with hk | hk
     ·split at hk
      ·simp at hk
      ·simp only [List.mem_cons, List.not_mem_nil, or_false] at hk
       rw [hk]; exact pos_word _
     ·split at hk
      ·simp only [List.mem_cons, List.not_mem_nil, or_false] at hk
       rw [hk]; exact pos_list (params_pos _)
      ·simp at hk
    ·rw [fmWs_map] at hk
     obtain ⟨x, hx, rfl⟩ := List.mem_map.1 hk
     exact ih x hx
theorem pcall_weak {P : Program} {f : FuncId} {xs ys : List PV} {h : Heap} {K : PV → Heap → Prop} (hab : ∀ (β : Env) (n : Nat) (F : Nat → Prop) (w : World) (vals : List Value), RepL β n F w xs vals → RepL β n F w ys vals) (hc : PCall P f ys h K) : PCall P f xs h K :=
 fun β w vals sm hr => hc β w vals sm (hab _ _ _ _ _ hr)
theorem same_zero {f : FuncId} {h : Heap} {K : PV → Heap → Prop} (hc : PCall Try.prog f [.imm 6 (Sx.rows [zeroSx]), .imm 6 (Sx.rows [zeroSx])] h K) :
  PCall Try.prog f [.imm 6 [[.sc (.int .i64 0), .sc (.int .i64 0), .sc (.int .i64 0), .sc (.int .i64 0), sPV ⟨#[]⟩, .imm 6 []]], .imm 6 [[.sc (.int .i64 0), .sc (.int .i64 0), .sc (.int .i64 0), .sc (.int .i64 0), sPV ⟨#[]⟩, .sc (.slice none 0 0)]]] h K := by
 refine pcall_weak ?_ hc
 intro β n F w vals hr
 simp only [zeroSx, Sx.rows, Sx.cells]
 match vals, hr with
 | [v1, v2], hr =>
  simp only [RepL, and_true] at hr ⊢
  refine ⟨hr.1, ?_⟩
  have h2 := hr.2
  simp only [Rep, List.length_cons, List.length_nil] at h2 ⊢
  obtain ⟨a, cap, rfl, g1, g2, g3⟩ := h2
  refine ⟨a, cap, rfl, g1, g2, ?_⟩
  rcases g3 with g3 | ⟨b, o, hF, rfl, hR⟩
  ·simp at g3
  ·refine .inr ⟨b, o, hF, rfl, ?_⟩
   simp only [RepR, RepS, Rep, and_true] at hR ⊢
   obtain ⟨e, c1, c2, c3, c4, c5, v, w1, w2, rfl⟩ := hR
   exact ⟨e, c1, c2, c3, c4, c5, _, w1, w2, none, 0, rfl, Nat.le_refl _, Nat.zero_le _, .inl trivial⟩
 | [], hr => simp [RepL] at hr
 | [_], hr => simp [RepL] at hr
 | _ :: _ :: _ :: _, hr => simp [RepL] at hr
end Go.Proofs.Ytjlkapgpjamnkaa
namespace Go.Proofs.Ytjlkapgpjamnkaa
open Go.AM
theorem nodess_append : ∀ l m : List Sx, Sx.nodess (l ++ m) = Sx.nodess l + Sx.nodess m
 | [], m => by simp [Sx.nodess]
 | k :: l, m => by simp only [List.cons_append, Sx.nodess, nodess_append l m]; omega
theorem list_nodes (l : List Sx) : (listM l).nodes = Sx.nodess l + 1 := by simp only [listM, Sx.nodes]
theorem word_nodes (s : ByteArray) : (wordM s).nodes = 1 := by simp [wordM, Sx.nodes, Sx.nodess]
theorem formed_of : ∀ (e : Ex), shapedE e = true → ∀ (d n : Nat), d + (exW e).depth ≤ 32 → n + (exW e).nodes ≤ 4096 → (formedM e d n).1 = true ∧ (formedM e d n).2 ≤ n + (exW e).nodes := by
 refine Ex.ind ?_
 intro op name v args kids ih hs d n hd hn
 unfold shapedE at hs
 unfold exW at hd hn ⊢
 unfold formedM
 cases c1 : bEq op opNum with
 | true =>
  rw [c1] at hs hd hn
  simp only [if_true] at hs hd hn ⊢
  simp only [Sx.nodes, Sx.nodess] at hn ⊢
  rw [if_pos ⟨by omega, by omega⟩]
  exact ⟨hs, by simp only; omega⟩
 | false =>
  rw [c1] at hs hd hn
  simp only [Bool.false_eq_true, if_false] at hs hd hn ⊢
  cases c2 : bEq op opFlu with
  | true =>
   rw [c2] at hs hd hn
   simp only [if_true] at hs hd hn ⊢
   simp only [wordsM, listM, Sx.nodes] at hn ⊢
   rw [if_pos ⟨by omega, by omega⟩]
   exact ⟨hs, by simp only; omega⟩
  | false =>
   rw [c2] at hs hd hn
   simp only [Bool.false_eq_true, if_false] at hs hd hn ⊢
   split at hs
   case isFalse => simp at hs
   rename_i hop
   rw [if_pos hop]
   rw [Bool.and_eq_true] at hs
   obtain ⟨h1, h2⟩ := hs
   rw [h1]
   simp only [if_true]
   split at h2
   case h_2 => simp at h2
   rename_i a b
   simp only [Bool.and_eq_true] at h2
   simp only [listM, Sx.depth, Sx.depths, Sx.nodes, Sx.nodess, wordM, if_true] at hd hn ⊢
   have k1 : ¬ ((1 : Int) = 3) := by omega
   rw [if_neg k1] at hd
   rw [if_pos ⟨by omega, by omega⟩]
   obtain ⟨f1, f2⟩ := ih a (by simp) h2.1 (d + 1) (n + 1) (by omega) (by omega)
   cases hw : formedM a (d + 1) (n + 1) with
   | mk x c =>
    rw [hw] at f1 f2
    simp only at f1 f2
    subst f1
    simp only
    obtain ⟨g1, g2⟩ := ih b (by simp) h2.2 (d + 1) c (by omega) (by omega)
    exact ⟨g1, by omega⟩
end Go.Proofs.Ytjlkapgpjamnkaa
namespace Go.Proofs.Ytjlkapgpjamnkaa
open Go.AM
def fin (r : Fm × Int) : Fm × Int := bif r.2 == 0 then r else (zeroFm, r.2)
end Go.Proofs.Ytjlkapgpjamnkaa
namespace Go.Proofs.Ytjlkapgpjamnkaa
open Go.AM
theorem partsOk_cases {op name : ByteArray} {args : List ByteArray} {params : List Pm} {ne nk : Nat} (h : partsOk op name args params ne nk = true) :
  (op = opAtom ∧ nameB name = true ∧ args.all termB = true ∧ params = [] ∧ ne = 0 ∧ nk = 0) ∨
  (op = opSame ∧ name = ⟨#[]⟩ ∧ args.length = 2 ∧ args.all termB = true ∧ params = [] ∧ ne = 0 ∧ nk = 0) ∨
  ((op = opLt ∨ op = opLe ∨ op = opEq) ∧ name = ⟨#[]⟩ ∧ args = [] ∧ params = [] ∧ ne = 2 ∧ nk = 0) ∨
  ((op = opAnd ∨ op = opOr ∨ (op = opNot ∧ nk = 1) ∨ (op = opImp ∧ nk = 2)) ∧ name = ⟨#[]⟩ ∧ args = [] ∧ params = [] ∧ ne = 0) ∨
  ((op = opAll ∨ op = opSome) ∧ name = ⟨#[]⟩ ∧ args = [] ∧ ne = 0 ∧ nk = 1 ∧ params.all pmOk = true) := by
 unfold partsOk shapeOf at h
 have t1 : ∀ o : ByteArray, bEq o opAtom = false → bEq o opSame = false → termsOk o name args = true → name = ⟨#[]⟩ ∧ args = [] := by
  intro o h1 h2 h3
  unfold termsOk at h3
  rw [h1, h2] at h3
  simp only [Bool.false_eq_true, if_false, Bool.and_eq_true, List.isEmpty_iff] at h3
  exact ⟨bEq_eq h3.1, h3.2⟩
 cases c1 : bEq op opAtom with
 | true =>
  have := bEq_eq c1
  subst this
  left
  simp [c1, termsOk, and_assoc] at h
  exact ⟨rfl, h.1, by simpa using h.2.1, h.2.2.2.2.1, h.2.2.1, h.2.2.2.1⟩
 | false =>
 cases c2 : bEq op opSame with
 | true =>
  have := bEq_eq c2
  subst this
  right; left
  simp [c1, c2, termsOk, and_assoc] at h
  obtain ⟨h1, h2, h3, h4, h5, h6, _⟩ := h
  exact ⟨rfl, bEq_eq h1, h2, by simpa using h3, h6, h4, h5⟩
 | false =>
  have t2 := t1 op c1 c2
  rw [c1, c2] at h
  simp only [Bool.false_eq_true, if_false] at h
  right; right
  by_cases c3 : bEq op opLt = true ∨ bEq op opLe = true ∨ bEq op opEq = true
  ·left
   have h' : termsOk op name args = true ∧ ne = 2 ∧ nk = 0 ∧ params = [] := by
    split at h
    ·simp at h
    ·rename_i e m q he
     have : (e, m, q) = (2, 0, false) := by
      rcases c3 with c | c | c
      ·simp [c] at he; simp [he]
      ·by_cases c0 : bEq op opLt = true
       ·simp [c0] at he; simp [he]
       ·simp [c0, c] at he; simp [he]
      ·by_cases c0 : bEq op opLt = true
       ·simp [c0] at he; simp [he]
       ·by_cases c00 : bEq op opLe = true
        ·simp [c0, c00] at he; simp [he]
        ·simp [c0, c00, c] at he; simp [he]
     simp at this
     obtain ⟨rfl, rfl, rfl⟩ := this
     simp [and_assoc] at h
     exact ⟨h.1, h.2.1, h.2.2.1, h.2.2.2.1⟩
   obtain ⟨g1, g2, g3, g4⟩ := h'
   obtain ⟨g5, g6⟩ := t2 g1
   exact ⟨c3.imp bEq_eq (fun c => c.imp bEq_eq bEq_eq), g5, g6, g4, g2, g3⟩
  ·simp only [not_or, Bool.not_eq_true] at c3
   rw [c3.1, c3.2.1, c3.2.2] at h
   simp only [Bool.false_eq_true, if_false] at h
   right
   cases c4 : bEq op opAnd with
   | true =>
    left
    simp [c4, and_assoc] at h
    exact ⟨.inl (bEq_eq c4), (t2 h.1).1, (t2 h.1).2, h.2.2.1, h.2.1⟩
   | false =>
   cases c5 : bEq op opOr with
   | true =>
    left
    simp [c4, c5, and_assoc] at h
    exact ⟨.inr (.inl (bEq_eq c5)), (t2 h.1).1, (t2 h.1).2, h.2.2.1, h.2.1⟩
   | false =>
   cases c6 : bEq op opNot with
   | true =>
    left
    simp [c4, c5, c6, and_assoc] at h
    exact ⟨.inr (.inr (.inl ⟨bEq_eq c6, h.2.2.1⟩)), (t2 h.1).1, (t2 h.1).2, h.2.2.2.1, h.2.1⟩
   | false =>
   cases c7 : bEq op opImp with
   | true =>
    left
    simp [c4, c5, c6, c7, and_assoc] at h
    exact ⟨.inr (.inr (.inr ⟨bEq_eq c7, h.2.2.1⟩)), (t2 h.1).1, (t2 h.1).2, h.2.2.2.1, h.2.1⟩
   | false =>
   cases c8 : bEq op opAll with
   | true =>
    right
    simp [c4, c5, c6, c7, c8, and_assoc] at h
    exact ⟨.inl (bEq_eq c8), (t2 h.1).1, (t2 h.1).2, h.2.1, h.2.2.1, by simpa using h.2.2.2⟩
   | false =>
   cases c9 : bEq op opSome with
   | true =>
    right
    simp [c4, c5, c6, c7, c8, c9, and_assoc] at h
    exact ⟨.inr (bEq_eq c9), (t2 h.1).1, (t2 h.1).2, h.2.1, h.2.2.1, by simpa using h.2.2.2⟩
   | false => simp [c4, c5, c6, c7, c8, c9] at h
end Go.Proofs.Ytjlkapgpjamnkaa
namespace Go.Proofs.Ytjlkapgpjamnkaa
open Go.AM
section
variable {name : ByteArray} {args : List ByteArray} {params : List Pm} {exprs : List Ex} {kids p q : List Fm} {s : Bool}
end
theorem sf_mk {op name : ByteArray} {args : List ByteArray} {params : List Pm} {exprs : List Ex} {kids : List Fm} (h1 : partsOk op name args params exprs.length kids.length = true) (h2 : ∀ e ∈ exprs, shapedE e = true) (h3 : ∀ k ∈ kids, shapedF k = true) : shapedF (.mk op name args params exprs kids) = true := by
 simp only [shapedF, Bool.and_eq_true, List.all_eq_true]
 exact ⟨⟨h1, h2⟩, shapedFs_iff.2 h3⟩
theorem sf_cases {C : Fm → Prop} (f : Fm) (hf : shapedF f = true)
  (h1 : ∀ name args, nameB name = true → args.all termB = true → C (.mk opAtom name args [] [] []))
  (h2 : ∀ args, args.length = 2 → args.all termB = true → C (.mk opSame ⟨#[]⟩ args [] [] []))
  (h3 : ∀ op a b, (op = opLt ∨ op = opLe ∨ op = opEq) → shapedE a = true → shapedE b = true → C (.mk op ⟨#[]⟩ [] [] [a, b] []))
  (h4 : ∀ op kids, (op = opAnd ∨ op = opOr) → (∀ k ∈ kids, shapedF k = true) → C (.mk op ⟨#[]⟩ [] [] [] kids))
  (h5 : ∀ k, shapedF k = true → C (.mk opNot ⟨#[]⟩ [] [] [] [k]))
  (h6 : ∀ a b, shapedF a = true → shapedF b = true → C (.mk opImp ⟨#[]⟩ [] [] [] [a, b]))
  (h7 : ∀ op params k, (op = opAll ∨ op = opSome) → params.all pmOk = true → shapedF k = true → C (.mk op ⟨#[]⟩ [] params [] [k])) : C f := by
 obtain ⟨op, name, args, params, exprs, kids⟩ := f
 simp only [shapedF, Bool.and_eq_true, List.all_eq_true] at hf
 obtain ⟨⟨hp, he⟩, hk⟩ := hf
 rw [shapedFs_iff] at hk
 rcases partsOk_cases hp with ⟨rfl, a1, a2, rfl, a3, a4⟩ | ⟨rfl, rfl, a1, a2, rfl, a3, a4⟩ | ⟨a1, rfl, rfl, rfl, a3, a4⟩ | ⟨a1, rfl, rfl, rfl, a3⟩ | ⟨a1, rfl, rfl, a3, a4, a5⟩
 ·obtain rfl := List.eq_nil_of_length_eq_zero a3
  obtain rfl := List.eq_nil_of_length_eq_zero a4
  exact h1 _ _ a1 a2
 ·obtain rfl := List.eq_nil_of_length_eq_zero a3
  obtain rfl := List.eq_nil_of_length_eq_zero a4
  exact h2 _ a1 a2
 ·obtain rfl := List.eq_nil_of_length_eq_zero a4
  match exprs, a3, he with
  | [a, b], _, he => exact h3 _ _ _ a1 (he a (by simp)) (he b (by simp))
 ·obtain rfl := List.eq_nil_of_length_eq_zero a3
  rcases a1 with rfl | rfl | ⟨rfl, a4⟩ | ⟨rfl, a4⟩
  ·exact h4 _ _ (.inl rfl) hk
  ·exact h4 _ _ (.inr rfl) hk
  ·match kids, a4, hk with
   | [k], _, hk => exact h5 _ (hk k (by simp))
  ·match kids, a4, hk with
   | [a, b], _, hk => exact h6 _ _ (hk a (by simp)) (hk b (by simp))
 ·obtain rfl := List.eq_nil_of_length_eq_zero a3
  match kids, a4, hk with
  | [k], _, hk => exact h7 _ _ _ a1 a5 (hk k (by simp))
end Go.Proofs.Ytjlkapgpjamnkaa
namespace Go.Proofs.Ytjlkapgpjamnkaa
open Go.AM
theorem list_depth {l : List Sx} {k : Sx} (h : k ∈ l) : k.depth + 1 ≤ (listM l).depth := by
 have := Sx.depths_mem 0 h
 simp only [listM, Sx.depth, if_true]; omega
theorem fmW_rest {op name : ByteArray} {args : List ByteArray} {params : List Pm} {exprs : List Ex} {kids : List Fm} (h1 : bEq op opAtom = false) (h2 : bEq op opSame = false) (h3 : isCmp op = false) : ∃ pre, fmW (.mk op name args params exprs kids) = listM (pre ++ kids.map fmW) := by
 unfold fmW
 rw [h1, h2, h3, fmWs_map]
 exact ⟨_, rfl⟩
theorem fmW_parts : ∀ f, shapedF f = true → match f with
  | .mk _ _ _ _ exprs kids => 1 + Sx.nodess (exprs.map exW) + Sx.nodess (kids.map fmW) ≤ (fmW f).nodes ∧ 1 ≤ (fmW f).depth ∧ (∀ e ∈ exprs, (exW e).depth + 1 ≤ (fmW f).depth) ∧ (∀ k ∈ kids, (fmW k).depth + 1 ≤ (fmW f).depth) := by
 intro f hf
 have d1 : ∀ l : List Sx, 1 ≤ (listM l).depth := fun l => by simp only [listM, Sx.depth, if_true]; omega
 have rest : ∀ {op : ByteArray} {params : List Pm} {kids : List Fm} {pre : List Sx}, fmW (.mk op ⟨#[]⟩ [] params [] kids) = listM (pre ++ kids.map fmW) →
   1 + Sx.nodess (([] : List Ex).map exW) + Sx.nodess (kids.map fmW) ≤ (fmW (.mk op ⟨#[]⟩ [] params [] kids)).nodes ∧ 1 ≤ (fmW (.mk op ⟨#[]⟩ [] params [] kids)).depth ∧ (∀ e ∈ ([] : List Ex), (exW e).depth + 1 ≤ (fmW (.mk op ⟨#[]⟩ [] params [] kids)).depth) ∧ (∀ k ∈ kids, (fmW k).depth + 1 ≤ (fmW (.mk op ⟨#[]⟩ [] params [] kids)).depth) := by
  intro op params kids pre e
  rw [e]
  refine ⟨?_, d1 _, by simp, fun k hk => list_depth (List.mem_append.2 (.inr (List.mem_map.2 ⟨k, hk, rfl⟩)))⟩
  rw [list_nodes, nodess_append]; simp only [List.map_nil, Sx.nodess]; omega
 refine sf_cases (C := fun f => match f with
  | .mk _ _ _ _ exprs kids => 1 + Sx.nodess (exprs.map exW) + Sx.nodess (kids.map fmW) ≤ (fmW f).nodes ∧ 1 ≤ (fmW f).depth ∧ (∀ e ∈ exprs, (exW e).depth + 1 ≤ (fmW f).depth) ∧ (∀ k ∈ kids, (fmW k).depth + 1 ≤ (fmW f).depth)) f hf ?_ ?_ ?_ ?_ ?_ ?_ ?_
 ·intro name args _ _
  have e : fmW (.mk opAtom name args [] [] []) = wordsM name args := rfl
  simp only [e]
  exact ⟨by simp only [wordsM, list_nodes, List.map_nil, Sx.nodess]; omega, d1 _, by simp, by simp⟩
 ·intro args _ _
  have e : fmW (.mk opSame ⟨#[]⟩ args [] [] []) = wordsM opEq args := rfl
  simp only [e]
  exact ⟨by simp only [wordsM, list_nodes, List.map_nil, Sx.nodess]; omega, d1 _, by simp, by simp⟩
 ·intro op a b ho _ _
  have e : fmW (.mk op ⟨#[]⟩ [] [] [a, b] []) = listM [wordM op, exW a, exW b] := by rcases ho with rfl | rfl | rfl <;> rfl
  simp only [e]
  refine ⟨?_, d1 _, ?_, by simp⟩
  ·simp only [list_nodes, List.map_cons, List.map_nil, Sx.nodess, word_nodes]; omega
  ·intro x hx
   simp only [List.mem_cons, List.not_mem_nil, or_false] at hx
   rcases hx with rfl | rfl <;> exact list_depth (by simp)
 ·intro op kids ho _
  obtain ⟨pre, e⟩ : ∃ pre, fmW (.mk op ⟨#[]⟩ [] [] [] kids) = listM (pre ++ kids.map fmW) := by rcases ho with rfl | rfl <;> exact fmW_rest rfl rfl rfl
  exact rest e
 ·intro k _
  obtain ⟨pre, e⟩ : ∃ pre, fmW (.mk opNot ⟨#[]⟩ [] [] [] [k]) = listM (pre ++ [k].map fmW) := fmW_rest rfl rfl rfl
  exact rest e
 ·intro a b _ _
  obtain ⟨pre, e⟩ : ∃ pre, fmW (.mk opImp ⟨#[]⟩ [] [] [] [a, b]) = listM (pre ++ [a, b].map fmW) := fmW_rest rfl rfl rfl
  exact rest e
 ·intro op params k ho _ _
  obtain ⟨pre, e⟩ : ∃ pre, fmW (.mk op ⟨#[]⟩ [] params [] [k]) = listM (pre ++ [k].map fmW) := by rcases ho with rfl | rfl <;> exact fmW_rest rfl rfl rfl
  exact rest e
theorem formeds_of : ∀ (l : List Ex), (∀ e ∈ l, shapedE e = true) → ∀ (d n : Nat), (∀ e ∈ l, d + (exW e).depth ≤ 32) → n + Sx.nodess (l.map exW) ≤ 4096 → (formedMs l d n).1 = true ∧ (formedMs l d n).2 ≤ n + Sx.nodess (l.map exW)
 | [], _, d, n, _, hn => by simp [formedMs, Sx.nodess]
 | e :: l, hs, d, n, hd, hn => by
  simp only [List.map_cons, Sx.nodess] at hn ⊢
  obtain ⟨f1, f2⟩ := formed_of e (hs e (by simp)) d n (hd e (by simp)) (by omega)
  unfold formedMs
  cases hw : formedM e d n with
  | mk x c =>
   rw [hw] at f1 f2
   simp only at f1 f2
   subst f1
   simp only
   obtain ⟨g1, g2⟩ := formeds_of l (fun q hq => hs q (by simp [hq])) d c (fun q hq => hd q (by simp [hq])) (by omega)
   exact ⟨g1, by omega⟩
theorem shapeds_of : ∀ (l : List Fm) (d : Nat), (∀ k ∈ l, ∀ n, n + (fmW k).nodes ≤ 4096 → (shapedM k d n).1 = true ∧ (shapedM k d n).2 ≤ n + (fmW k).nodes) → ∀ n, n + Sx.nodess (l.map fmW) ≤ 4096 → (shapedMs l d n).1 = true ∧ (shapedMs l d n).2 ≤ n + Sx.nodess (l.map fmW)
 | [], _, _, n, hn => by simp [shapedMs, Sx.nodess]
 | k :: l, d, h, n, hn => by
  simp only [List.map_cons, Sx.nodess] at hn ⊢
  obtain ⟨f1, f2⟩ := h k (by simp) n (by omega)
  unfold shapedMs
  cases hw : shapedM k d n with
  | mk x c =>
   rw [hw] at f1 f2
   simp only at f1 f2
   subst f1
   simp only
   obtain ⟨g1, g2⟩ := shapeds_of l d (fun q hq => h q (by simp [hq])) c (by omega)
   exact ⟨g1, by omega⟩
theorem shaped_of : ∀ (f : Fm), shapedF f = true → ∀ (d n : Nat), d + (fmW f).depth ≤ 32 → n + (fmW f).nodes ≤ 4096 → (shapedM f d n).1 = true ∧ (shapedM f d n).2 ≤ n + (fmW f).nodes := by
 refine Fm.ind ?_
 intro op name args params exprs kids ih hs d n hd hn
 have hp := fmW_parts _ hs
 simp only at hp
 obtain ⟨p1, p2, p3, p4⟩ := hp
 have hs2 := hs
 simp only [shapedF, Bool.and_eq_true, List.all_eq_true] at hs2
 obtain ⟨⟨h1, h2⟩, h3⟩ := hs2
 rw [shapedFs_iff] at h3
 generalize fmW (.mk op name args params exprs kids) = X at *
 unfold shapedM
 rw [if_pos ⟨by omega, by omega⟩, if_pos h1]
 obtain ⟨f1, f2⟩ := formeds_of exprs h2 (d + 1) (n + 1) (fun e he => by have := p3 e he; omega) (by omega)
 cases hw : formedMs exprs (d + 1) (n + 1) with
 | mk x c =>
  rw [hw] at f1 f2
  simp only at f1 f2
  subst f1
  simp only
  obtain ⟨g1, g2⟩ := shapeds_of kids (d + 1) (fun k hk m hm => ih k hk (h3 k hk) (d + 1) m (by have := p4 k hk; omega) hm) c (by omega)
  exact ⟨g1, by omega⟩
theorem validF_same {f : Fm} (hn : (fmW f).nodes ≤ bigN) : validF f = (shapedF f && rvalidB (fmW f)) := by
 unfold validF
 rw [valid_same hn]
 cases hs : shapedF f with
 | false =>
  have : (shapedM f 0 0).1 = false := by
   cases h : (shapedM f 0 0).1 with
   | false => rfl
   | true => rw [shapedM_F f 0 0 h] at hs; simp at hs
  simp only [this, Bool.false_and]
 | true =>
  cases hv : rvalidB (fmW f) with
  | false => simp
  | true =>
   have h1 := (svalid_iff (fmW f) 0 0 (by omega) (by omega)).1.1 (by rw [valid_same hn]; exact hv)
   rw [(shaped_of f hs 0 0 h1.2.1 h1.2.2).1]
end Go.Proofs.Ytjlkapgpjamnkaa
namespace Go.AM
open Go.ChangeShapes Go.WideShapes
def partsT (P : Program) (t : TypeId) : List (Nat × TypeId) := match P.underlying t with
  | some (.struct fs) => fs.toList.map fun f => (f.offset, f.type)
  | some (.array n e) => (List.range n).map fun i => (i * P.cellsOf e, e)
  | _ => []
def inRow (P : Program) (e : Nat) : Nat → List (Nat × TypeId) → Bool
  | o, [] => o == e
  | o, p :: l => p.1 == o && inRow P e (o + P.cellsOf p.2) l
def covB (P : Program) : Nat → TypeId → Bool
  | 0, _ => false
  | f + 1, t => match P.underlying t with
    | some .bool => true
    | some (.int _) => true
    | some .string => true
    | some (.slice e) => decide (0 < P.cellsOf e) && covB P f e
    | some (.struct _) => inRow P (P.cellsOf t) 0 (partsT P t) && (partsT P t).all fun p => covB P f p.2
    | some (.array _ _) => inRow P (P.cellsOf t) 0 (partsT P t) && (partsT P t).all fun p => covB P f p.2
    | _ => false
def Arg (P : Program) : Nat → TypeId → List PV → Prop
  | 0, _, _ => False
  | f + 1, t, ps => match P.underlying t with
    | some .bool => ∃ b, ps = [.sc (.bool b)]
    | some (.int k) => ∃ n, (Lit.int k n).wf = true ∧ ps = [.sc (.int k n)]
    | some .string => ∃ s : ByteArray, s.size ≤ reachBytes ∧ ps = [.sc (.string s)]
    | some (.slice e) => ∃ rows, ps = [.imm (P.cellsOf e) rows] ∧ rows.length * P.bytesOf e ≤ reachBytes ∧ rows.length ≤ maxLen ∧ ∀ r ∈ rows, r.length = P.cellsOf e ∧ Arg P f e r
    | some (.struct _) => ps.length = P.cellsOf t ∧ ∀ p ∈ partsT P t, Arg P f p.2 ((ps.drop p.1).take (P.cellsOf p.2))
    | some (.array _ _) => ps.length = P.cellsOf t ∧ ∀ p ∈ partsT P t, Arg P f p.2 ((ps.drop p.1).take (P.cellsOf p.2))
    | _ => False
section
variable {H : Type} {enc : TypeId × Value → H} {P : Program} {w : World} {sp : Nat → Bool} {held : Bool}
def RA (w : World) (ps : List PV) (cs : List Value) : Prop := (∀ v ∈ cs, v.oneCell' = true) ∧ ∀ β n, RepL β n (fun b => b < w.heap.size) w ps cs
theorem RA.len {ps : List PV} {cs : List Value} (h : RA w ps cs) : ps.length = cs.length := (h.2 ⟨fun _ => ⟨none, 0, 0, 0⟩, fun _ => False⟩ 0).len
theorem RA.append {ps ps' : List PV} {cs cs' : List Value} (h : RA w ps cs) (k : RA w ps' cs') : RA w (ps ++ ps') (cs ++ cs') :=
  ⟨fun v hv => by exact (List.mem_append.1 hv).elim (h.1 v) (k.1 v), fun β n => (h.2 β n).append (k.2 β n)⟩
theorem inRow_le {e : Nat} : (l : List (Nat × TypeId)) → (o : Nat) → inRow P e o l = true → o ≤ e ∧ ∀ p ∈ l, o ≤ p.1 ∧ p.1 + P.cellsOf p.2 ≤ e
  | [], o, h => by simp [inRow] at h; simp [h]
  | p :: l, o, h => by
    simp only [inRow, Bool.and_eq_true, beq_iff_eq] at h
    obtain ⟨h1, h2⟩ := inRow_le l _ h.2
    refine ⟨by omega, fun q hq => ?_⟩
    rcases List.mem_cons.1 hq with rfl | hq
    · omega
    · have := h2 q hq; omega
theorem exists_list {α : Type} {R : Nat → α → Prop} : (n : Nat) → (∀ i, i < n → ∃ x, R i x) → ∃ l : List α, l.length = n ∧ ∀ i x, l[i]? = some x → R i x
  | 0, _ => ⟨[], rfl, by simp⟩
  | n + 1, h => by
    obtain ⟨l, h1, h2⟩ := exists_list n (fun i hi => h i (by omega))
    obtain ⟨x, hx⟩ := h n (by omega)
    refine ⟨l ++ [x], by simp [h1], fun i y hy => ?_⟩
    rw [List.getElem?_append] at hy
    split at hy
    · exact h2 i y hy
    · rename_i hi
      have : i = n := by
        have := (List.getElem?_eq_some_iff.1 hy).1
        simp at this; omega
      subst this
      rw [h1] at hy
      simp at hy
      subst hy; exact hx
theorem weightsAll_mem {e : TypeId} {n : Nat} : {ds : List (DataW H)} → {i : Nat} → {d : DataW H} → ds[i]? = some d → n ∈ d.weights P e → n ∈ DataW.weightsAll P e ds
  | [], _, _, h, _ => by simp at h
  | d0 :: ds, 0, d, h, hn => by
    simp at h; subst h
    simp only [DataW.weightsAll, List.mem_append]; exact .inl hn
  | d0 :: ds, i + 1, d, h, hn => by
    simp at h
    simp only [DataW.weightsAll, List.mem_append]; exact .inr (weightsAll_mem h hn)
theorem sc_RA {v : Value} (h : v.oneCell' = true) : RA w [.sc v] [v] :=
  ⟨fun u hu => by simp at hu; subst hu; exact h, fun β n => by simp only [RepL, Rep]; exact ⟨trivial, trivial⟩⟩
end
end Go.AM
namespace Go.AM
open Go.ChangeShapes Go.WideShapes
section
variable {H : Type} {enc : TypeId × Value → H} {P : Program} {w : World} {sp : Nat → Bool} {held : Bool}
def covC (P : Program) (Ts : List TypeId) : Bool := Ts.all fun t => match P.underlying t with
  | some .bool => true
  | some (.int _) => true
  | some .string => true
  | some (.slice e) => decide (0 < P.cellsOf e) && Ts.contains e
  | some (.struct _) => inRow P (P.cellsOf t) 0 (partsT P t) && (partsT P t).all fun p => Ts.contains p.2
  | some (.array _ _) => inRow P (P.cellsOf t) 0 (partsT P t) && (partsT P t).all fun p => Ts.contains p.2
  | _ => false
end
end Go.AM
namespace Go.AM
open Go.ChangeShapes Go.WideShapes
open Go.Proofs.Ytjlkapgpjamnkaa
mutual
def PV.bulk : PV → Nat
  | .sc (.string s) => s.size + 1
  | .imm _ rows => PV.bulkR rows + 1
  | _ => 1
def PV.bulkL : List PV → Nat
  | [] => 0
  | p :: ps => p.bulk + PV.bulkL ps
def PV.bulkR : List (List PV) → Nat
  | [] => 0
  | r :: rs => PV.bulkL r + PV.bulkR rs
end
theorem PV.bulkL_append : ∀ l m : List PV, PV.bulkL (l ++ m) = PV.bulkL l + PV.bulkL m
  | [], m => by simp [PV.bulkL]
  | p :: l, m => by simp only [List.cons_append, PV.bulkL, PV.bulkL_append l m]; omega
theorem List.getElem?_range_some {k i j : Nat} (h : (List.range k)[i]? = some j) : i < k ∧ i = j := by
  have h1 := (List.getElem?_eq_some_iff.1 h).1
  simp at h1
  rw [List.getElem?_range h1] at h
  simp at h
  exact ⟨h1, h⟩
section
variable {H : Type} {enc : TypeId × Value → H} {P : Program} {w : World} {sp : Nat → Bool} {held : Bool}
theorem bulkR_le : ∀ (rows : List (List PV)) (ds : List (DataW H)), rows.length = ds.length → (∀ (i : Nat) (r : List PV), rows[i]? = some r → ∃ d, ds[i]? = some d ∧ PV.bulkL r ≤ Rows.uptoBulk d) → PV.bulkR rows ≤ Rows.uptoBulkAll ds
  | [], _, _, _ => by simp [PV.bulkR]
  | r :: rows, [], h, _ => by simp at h
  | r :: rows, d :: ds, h, hb => by
    have h1 := bulkR_le rows ds (by simpa using h) fun i q hq => by simpa using hb (i + 1) q (by simpa using hq)
    obtain ⟨d', h2, h3⟩ := hb 0 r rfl
    simp at h2; subst h2
    simp only [PV.bulkR, Rows.uptoBulkAll]; omega
theorem parts_rep5 {c : Nat} {cs : List Value} : (l : List (Nat × TypeId)) → (ds : List (DataW H)) → (o : Nat) → inRow P cs.length o l = true →
    (∀ (i : Nat) (p : Nat × TypeId), l[i]? = some p → ∃ d, ds[i]? = some d ∧ ∃ ps, Arg P c p.2 ps ∧ RA w ps ((cs.drop p.1).take (P.cellsOf p.2)) ∧ PV.bulkL ps ≤ Rows.uptoBulk d) →
    ∃ ps, RA w ps (cs.drop o) ∧ (∀ p ∈ l, Arg P c p.2 ((ps.drop (p.1 - o)).take (P.cellsOf p.2))) ∧ PV.bulkL ps ≤ Rows.uptoBulkAll ds
  | [], ds, o, h, _ => by
    simp [inRow] at h
    refine ⟨[], ⟨?_, fun β n => ?_⟩, by simp, by simp [PV.bulkL]⟩
    · rw [List.drop_of_length_le (by omega)]; simp
    · rw [List.drop_of_length_le (by omega)]; simp [RepL]
  | p :: l, [], o, h, hp => by
    obtain ⟨d, hd, _⟩ := hp 0 p rfl
    simp at hd
  | p :: l, d :: ds, o, h, hp => by
    have hle := (inRow_le (p :: l) o h).2 p (by simp)
    simp only [inRow, Bool.and_eq_true, beq_iff_eq] at h
    obtain ⟨ps, h1, h2, h20⟩ := parts_rep5 l ds _ h.2 (fun i q hq => by simpa using hp (i + 1) q (by simpa using hq))
    obtain ⟨d', hd, ps0, h3, h4, h40⟩ := hp 0 p rfl
    simp at hd; subst hd
    have hl2 := (inRow_le l _ h.2).2
    have e0 : p.1 = o := h.1
    have l0 : ps0.length = P.cellsOf p.2 := by rw [h4.len, List.length_take, List.length_drop]; omega
    refine ⟨ps0 ++ ps, ?_, fun q hq => ?_, by rw [PV.bulkL_append]; simp only [Rows.uptoBulkAll]; omega⟩
    · have : cs.drop o = (cs.drop p.1).take (P.cellsOf p.2) ++ cs.drop (o + P.cellsOf p.2) := by
        rw [e0, ← List.drop_drop, List.take_append_drop]
      rw [this]
      exact h4.append h1
    · rcases List.mem_cons.1 hq with rfl | hq
      · rw [e0, Nat.sub_self, List.drop_zero, List.take_append_of_le_length (by omega), List.take_of_length_le (by omega)]
        exact h3
      · have h5 := hl2 q hq
        have : q.1 - o = ps0.length + (q.1 - (o + P.cellsOf p.2)) := by omega
        rw [this, ← List.drop_drop, List.drop_left]
        exact h2 q hq
theorem arg_rec5 {Ts : List TypeId} (hT : covC P Ts = true) : ∀ (fuel : Nat) (t : TypeId), Ts.contains t = true → ∀ (cs : List Value) (x : DataW H × List MemPlace), DataW.trod enc P w 0 sp held fuel t cs = some x → (∀ n ∈ x.1.weights P t, n ≤ reachBytes) →
    ∃ ps, Arg P fuel t ps ∧ RA w ps cs ∧ PV.bulkL ps ≤ Rows.uptoBulk x.1
  | 0, _, _, _, _, hx, _ => by simp [DataW.trod] at hx
  | c + 1, t, ht, cs, x, hx, hw => by
    have h := List.all_eq_true.1 hT t (by simpa using ht)
    split at h
    · rename_i hu
      obtain ⟨b, rfl, rfl⟩ := DataW.trod_bool hu hx
      refine ⟨[.sc (.bool b)], ?_, sc_RA rfl, by simp [PV.bulkL, PV.bulk, Rows.uptoBulk]⟩
      unfold Arg; rw [hu]; exact ⟨b, rfl⟩
    · rename_i k hu
      obtain ⟨n, rfl, rfl, hwf⟩ := DataW.trod_int hu hx
      refine ⟨[.sc (.int k n)], ?_, sc_RA rfl, by simp [PV.bulkL, PV.bulk, Rows.uptoBulk]⟩
      unfold Arg; rw [hu]; exact ⟨n, hwf, rfl⟩
    · rename_i hu
      obtain ⟨s, rfl, rfl, hs⟩ := DataW.trod_string hu hx
      refine ⟨[.sc (.string s)], ?_, sc_RA rfl, by have e : s.data.toList.length = s.size := by { rw [Array.length_toList]; try rfl }; simp only [PV.bulkL, PV.bulk, Rows.uptoBulk]; omega⟩
      unfold Arg; rw [hu]
      refine ⟨s, ?_, rfl⟩
      have := hw s.data.toList.length (by simp [DataW.weights])
      simpa using this
    · rename_i e hu
      simp only [Bool.and_eq_true, decide_eq_true_eq] at h
      obtain ⟨hpos, hcov⟩ := h
      rcases DataW.trod_slice hu hx with ⟨rfl, rfl⟩ | ⟨a, len, cap, elems, rest, n, hfu, rfl, rfl, hb, hl, hm, hlen, hel, hsp, hns⟩
      · refine ⟨[.imm (P.cellsOf e) []], ?_, ⟨fun v hv => ?_, fun β n => ?_⟩, by simp [PV.bulkL, PV.bulk, PV.bulkR, Rows.uptoBulk]⟩
        · unfold Arg; rw [hu]; exact ⟨[], rfl, by simp, by simp, by simp⟩
        · simp at hv; subst hv; rfl
        · simp only [RepL, Rep]
          exact ⟨⟨none, 0, rfl, Nat.le_refl _, Nat.zero_le _, .inl (by trivial)⟩, trivial⟩
      · obtain rfl : c = n := by omega
        have each : ∀ i, i < len → ∃ r : List PV, (r.length = P.cellsOf e ∧ Arg P c e r ∧ ∃ d, (elems.map (·.1))[i]? = some d ∧ PV.bulkL r ≤ Rows.uptoBulk d) ∧ ∃ ci, RA w r ci ∧ ci.length = P.cellsOf e ∧ ∀ j, j < P.cellsOf e → w.cell? ((a.add (i * P.cellsOf e)).add j) = ci[j]? := by
          intro i hi
          have h1 := hel i hi
          have h2 : elems[i]? = some (elems[i]'(by omega)) := List.getElem?_eq_getElem _
          rw [h2, Option.bind_eq_some_iff] at h1
          obtain ⟨ci, h3, h4⟩ := h1
          obtain ⟨_, h5, h6⟩ := World.cells?_some h3
          obtain ⟨r, h7, h8, h80⟩ := arg_rec5 hT c e hcov ci _ h4 (fun m hm => hw m (by
            simp only [DataW.weights, hu, List.mem_cons, List.mem_append]
            exact .inr (.inl (weightsAll_mem (i := i) (by rw [List.getElem?_map, h2]; try rfl) hm))))
          exact ⟨r, ⟨by rw [h8.len, h5], h7, _, by rw [List.getElem?_map, h2]; try rfl, h80⟩, ci, h8, h5, h6⟩
        obtain ⟨rows, hrl, hrows⟩ := exists_list len each
        refine ⟨[.imm (P.cellsOf e) rows], ?_, ⟨fun v hv => ?_, fun β m => ?_⟩, ?_⟩
        · unfold Arg; rw [hu]
          refine ⟨rows, rfl, ?_, by omega, fun r hr => ?_⟩
          · have := hw ((elems.map (·.1)).length * P.bytesOf e + (rest.map (·.1)).length * P.bytesOf e) (by
              simp only [DataW.weights, hu, List.mem_cons, Nat.add_mul, true_or])
            have h9 : rows.length = (elems.map (·.1)).length := by simp [hrl, hlen]
            rw [h9]
            exact Nat.le_trans (Nat.le_add_right _ _) this
          · obtain ⟨i, hi⟩ := List.getElem?_of_mem hr
            exact ⟨(hrows i r hi).1.1, (hrows i r hi).1.2.1⟩
        · simp at hv; subst hv; rfl
        · simp only [RepL, Rep]
          refine ⟨⟨some a, cap, by rw [hrl], by omega, hm, ?_⟩, trivial⟩
          by_cases h0 : len = 0
          · left; exact List.length_eq_zero_iff.1 (by omega)
          · right
            obtain ⟨_, _, c0, _, hc0, hcell0⟩ := each 0 (by omega)
            have h10 := hcell0 0 hpos
            rw [List.getElem?_eq_getElem (by omega)] at h10
            simp only [Nat.zero_mul, Addr.add, if_true] at h10
            have hs : a.spot = none := by
              unfold World.cell? at h10
              split at h10
              · split at h10
                · simp at h10
                · rename_i hsp; simpa using hsp
              · simp at h10
            have hblk : a.block < w.heap.size := by
              unfold World.cell? at h10
              split at h10
              · rename_i hh; exact (Array.getElem?_eq_some_iff.1 hh).1
              · simp at h10
            refine ⟨a.block, a.off, hblk, by cases a; simp only at hs; subst hs; rfl, ?_⟩
            rw [RepR_iff]
            intro i r hr
            obtain ⟨⟨g1, _⟩, ci, g2, g3, g4⟩ := hrows i r hr
            refine ⟨g1, ?_⟩
            rw [RepS_iff]
            intro j p hp
            obtain ⟨v, hv, hrep⟩ := (g2.2 β m).get hp
            have hj : j < P.cellsOf e := by rw [← g3]; exact (List.getElem?_eq_some_iff.1 hv).1
            refine ⟨v, ?_, g2.1 v (List.mem_of_getElem? hv), hrep⟩
            rw [← hv, ← g4 j hj]
            congr 1
            cases a
            simp only at hs; subst hs
            simp only [Addr.add]
            split <;> split <;> simp_all <;> omega
        · have hb5 := bulkR_le rows (elems.map (·.1)) (by simp [hrl, hlen]) fun i r hr => (hrows i r hr).1.2.2
          simp only [PV.bulkL, PV.bulk, Rows.uptoBulk]
          omega
    · rename_i fs hu
      simp only [Bool.and_eq_true, List.all_eq_true] at h
      obtain ⟨xs, n, hfu, rfl, hcl, hxl, hp⟩ := DataW.trod_struct hu hx
      obtain rfl : c = n := by omega
      have hpt : partsT P t = fs.toList.map fun f => (f.offset, f.type) := by unfold partsT; rw [hu]
      obtain ⟨ps, h1, h2, h30⟩ := parts_rep5 (w := w) (c := c) (cs := cs) (partsT P t) (xs.map (·.1)) 0 (by rw [hcl]; exact h.1) (fun i p hi => by
        have hcv := h.2 p (List.mem_of_getElem? hi)
        rw [hpt] at hi
        rw [List.getElem?_map, Option.map_eq_some_iff] at hi
        obtain ⟨f, hf, rfl⟩ := hi
        have hf' : fs[i]? = some f := by simpa using hf
        have hi' : i < xs.length := by
          rw [hxl]
          exact (Array.getElem?_eq_some_iff.1 hf').1
        have h3 := hp i f hf'
        rw [List.getElem?_eq_getElem hi'] at h3
        exact ⟨xs[i].1, by rw [List.getElem?_map, List.getElem?_eq_getElem hi']; try rfl, arg_rec5 hT c f.type hcv _ _ h3 (fun m hm => hw m (by
          simp only [DataW.weights, hu]
          exact DataW.weights_mem_each (j := i) (t := f.type) (d := xs[i].1) (by rw [List.getElem?_map, hf]; try rfl) (by rw [List.getElem?_map, List.getElem?_eq_getElem hi']; try rfl) m hm))⟩)
      refine ⟨ps, ?_, by simpa using h1, by simp only [Rows.uptoBulk]; omega⟩
      unfold Arg; rw [hu]
      exact ⟨by rw [h1.len, List.drop_zero, hcl], fun p hpm => by simpa using h2 p hpm⟩
    · rename_i k e hu
      simp only [Bool.and_eq_true, List.all_eq_true] at h
      obtain ⟨xs, n, hfu, rfl, hcl, hxl, hp⟩ := DataW.trod_array hu hx
      obtain rfl : c = n := by omega
      have hpt : partsT P t = (List.range k).map fun i => (i * P.cellsOf e, e) := by unfold partsT; rw [hu]
      obtain ⟨ps, h1, h2, h30⟩ := parts_rep5 (w := w) (c := c) (cs := cs) (partsT P t) (xs.map (·.1)) 0 (by rw [hcl]; exact h.1) (fun i p hi => by
        have hcv := h.2 p (List.mem_of_getElem? hi)
        rw [hpt, List.getElem?_map, Option.map_eq_some_iff] at hi
        obtain ⟨j, hj, rfl⟩ := hi
        obtain ⟨hjk, rfl⟩ := List.getElem?_range_some hj
        have hi' : i < xs.length := by rw [hxl]; exact hjk
        have h3 := hp i hjk
        rw [List.getElem?_eq_getElem hi'] at h3
        exact ⟨xs[i].1, by rw [List.getElem?_map, List.getElem?_eq_getElem hi']; try rfl, arg_rec5 hT c e hcv _ _ h3 (fun m hm => hw m (by
          simp only [DataW.weights, hu]
          exact weightsAll_mem (i := i) (d := xs[i].1) (by rw [List.getElem?_map, List.getElem?_eq_getElem hi']; try rfl) hm))⟩)
      refine ⟨ps, ?_, by simpa using h1, by simp only [Rows.uptoBulk]; omega⟩
      unfold Arg; rw [hu]
      exact ⟨by rw [h1.len, List.drop_zero, hcl], fun p hpm => by simpa using h2 p hpm⟩
    · simp at h
theorem arg_value5 {Ts : List TypeId} (hT : covC P Ts = true) {t : TypeId} (ht : Ts.contains t = true) {fs : Array Field} (hu : P.underlying t = some (.struct fs)) {v : Value} {d : DataW H} {pl : List MemPlace}
    (h : DataW.Trod enc P w 0 sp held t v d pl) (hv : ∃ base, Value.okWide P w .any base t v) (hw : ∀ n ∈ d.weights P t, n ≤ reachBytes) :
    ∃ c ps, Arg P c t ps ∧ (∀ β n, Rep β n (fun b => b < w.heap.size) w (.agg ps) v) ∧ PV.bulkL ps ≤ Rows.uptoBulk d := by
  obtain ⟨fuel, hf⟩ := h
  obtain ⟨ps, h1, h2, h3⟩ := arg_rec5 hT fuel t ht _ _ hf hw
  obtain ⟨base, hv⟩ := hv
  unfold Value.okWide at hv
  simp only [hu] at hv
  obtain ⟨cs, rfl, _⟩ := hv
  refine ⟨fuel, ps, h1, fun β n => ?_, h3⟩
  simp only [Rep]
  exact ⟨cs.toList, by simp, h2.1, h2.2 β n⟩
end
end Go.AM
namespace Go.AM
theorem bulkR_strs : ∀ l : List ByteArray, l.length ≤ PV.bulkR (strRows l)
 | [] => by simp
 | s :: l => by
  have := bulkR_strs l
  simp only [strRows, List.map_cons, PV.bulkR, PV.bulkL, PV.bulk, List.length_cons] at this ⊢
  omega
mutual
theorem Ex.small_bulk : ∀ (e : Ex), PV.bulkL e.cells ≤ 1048576 → e.small
 | .mk op name n args kids, h => by
  simp only [Ex.cells, PV.bulkL, PV.bulk] at h
  simp only [Ex.small]
  have := bulkR_strs args
  exact ⟨by omega, Ex.smalls_bulk kids (by omega)⟩
theorem Ex.smalls_bulk : ∀ (l : List Ex), PV.bulkR (Ex.rows l) ≤ 1048576 → Ex.smalls l
 | [], _ => by simp [Ex.smalls]
 | k :: ks, h => by
  simp only [Ex.rows, PV.bulkR] at h
  simp only [Ex.smalls]
  exact ⟨Ex.small_bulk k (by omega), Ex.smalls_bulk ks (by omega)⟩
end
mutual
theorem Sx.depth_nodes : ∀ (x : Sx), x.depth ≤ x.nodes
 | .mk kind _ _ _ _ kids => by
  have := Sx.depths_nodes kids 0
  simp only [Sx.depth, Sx.nodes]
  split <;> omega
theorem Sx.depths_nodes : ∀ (l : List Sx) (m : Nat), Sx.depths m l ≤ max m (Sx.nodess l)
 | [], m => by simp [Sx.depths, Sx.nodess]
 | k :: ks, m => by
  have h1 := Sx.depth_nodes k
  have h2 := Sx.depths_nodes ks (max m k.depth)
  simp only [Sx.depths, Sx.nodess]
  omega
end
end Go.AM
namespace Go.Proofs.Ytjlkapgpjamnkaa
open Go.AM
theorem nodess_words : ∀ l : List ByteArray, Sx.nodess (l.map wordM) = l.length
 | [] => rfl
 | s :: l => by simp only [List.map_cons, Sx.nodess, word_nodes, nodess_words l, List.length_cons]; omega
theorem words_nodes (first : ByteArray) (l : List ByteArray) : (wordsM first l).nodes = l.length + 2 := by
 simp only [wordsM, list_nodes, nodess_words, List.length_cons]
theorem exW_nodes : ∀ e : Ex, (exW e).nodes ≤ PV.bulkL e.cells := by
 refine Ex.ind ?_
 intro op name n args kids ih
 have h1 := bulkR_strs args
 simp only [Ex.cells, PV.bulkL, PV.bulk]
 unfold exW
 split
 ·simp only [Sx.nodes, Sx.nodess]; omega
 ·split
  ·rw [words_nodes]; omega
  ·split
   ·rename_i a b
    have ha := ih a (by simp)
    have hb := ih b (by simp)
    simp only [Ex.rows, PV.bulkR, list_nodes, Sx.nodess, word_nodes]
    omega
   ·simp only [list_nodes, Sx.nodess, word_nodes]; omega
end Go.Proofs.Ytjlkapgpjamnkaa
namespace Go.AM
theorem bulkR_pms : ∀ l : List Pm, 2 * l.length ≤ PV.bulkR (pmRows l)
 | [] => by simp
 | s :: l => by
  have := bulkR_pms l
  simp only [pmRows, pmRow, List.map_cons, PV.bulkR, PV.bulkL, PV.bulk, List.length_cons] at this ⊢
  omega
theorem bulkR_fms : ∀ l : List Fm, l.length ≤ PV.bulkR (Fm.rows l)
 | [] => by simp
 | s :: l => by
  have := bulkR_fms l
  cases s
  simp only [Fm.rows, Fm.cells, PV.bulkR, PV.bulkL, PV.bulk, List.length_cons] at this ⊢
  omega
mutual
theorem Fm.small_bulk : ∀ (f : Fm), PV.bulkL f.cells ≤ 1048576 → f.small
 | .mk op name args params exprs kids, h => by
  simp only [Fm.cells, PV.bulkL, PV.bulk] at h
  simp only [Fm.small]
  have := bulkR_strs args
  have := bulkR_pms params
  have := bulkR_fms kids
  exact ⟨by omega, by omega, Ex.smalls_bulk exprs (by omega), by omega, Fm.smalls_bulk kids (by omega)⟩
theorem Fm.smalls_bulk : ∀ (l : List Fm), PV.bulkR (Fm.rows l) ≤ 1048576 → Fm.smalls l
 | [], _ => by simp [Fm.smalls]
 | k :: ks, h => by
  simp only [Fm.rows, PV.bulkR] at h
  simp only [Fm.smalls]
  exact ⟨Fm.small_bulk k (by omega), Fm.smalls_bulk ks (by omega)⟩
end
end Go.AM
namespace Go.Proofs.Ytjlkapgpjamnkaa
open Go.AM
theorem nodess_params : ∀ l : List Pm, Sx.nodess (paramsW l) = 3 * l.length
 | [] => rfl
 | s :: l => by simp only [paramsW, Sx.nodess, word_nodes, nodess_params l, List.length_cons]; omega
theorem exWs_nodes : ∀ l : List Ex, Sx.nodess (l.map exW) ≤ PV.bulkR (Ex.rows l)
 | [] => by simp [Sx.nodess]
 | e :: l => by
  have h1 := exWs_nodes l
  have h2 := exW_nodes e
  simp only [List.map_cons, Sx.nodess, Ex.rows, PV.bulkR]
  omega
mutual
theorem fmW_nodes : ∀ f : Fm, (fmW f).nodes ≤ 2 * PV.bulkL f.cells
 | .mk op name args params exprs kids => by
  have h1 := bulkR_strs args
  have h2 := bulkR_pms params
  have h3 := exWs_nodes exprs
  have h4 := fmWs_nodes kids
  simp only [Fm.cells, PV.bulkL, PV.bulk]
  unfold fmW
  split
  ·rw [words_nodes]; omega
  ·split
   ·rw [words_nodes]; omega
   ·split
    ·simp only [list_nodes, Sx.nodess, word_nodes]; omega
    ·simp only [list_nodes, nodess_append]
     split <;> split <;> simp only [Sx.nodess, word_nodes, list_nodes, nodess_params] <;> omega
theorem fmWs_nodes : ∀ l : List Fm, Sx.nodess (fmWs l) ≤ 2 * PV.bulkR (Fm.rows l)
 | [] => by simp [fmWs, Sx.nodess]
 | k :: l => by
  have h1 := fmW_nodes k
  have h2 := fmWs_nodes l
  simp only [fmWs, Sx.nodess, Fm.rows, PV.bulkR]
  omega
end
theorem fmW_nodes_big {f : Fm} (h : PV.bulkL f.cells ≤ 1048576) : (fmW f).nodes ≤ bigN := by
 have := fmW_nodes f
 unfold bigN; omega
theorem fmW_depth_big {f : Fm} (h : PV.bulkL f.cells ≤ 1048576) : (fmW f).depth ≤ bigN := by
 have := fmW_nodes f
 have := Sx.depth_nodes (fmW f)
 unfold bigN; omega
end Go.Proofs.Ytjlkapgpjamnkaa
namespace Go.Proofs.Ytjlkapgpjamnkaa
open Go.AM
set_option maxHeartbeats 2000000
set_option maxRecDepth 20000
theorem rsizeE_c : ∀ (e : Ex), e.ok → ∀ h : Heap, PCall Try.prog 39 [.agg e.cells] h fun r h' => r = .sc (.int .i64 e.size) ∧ h' = h := by
 refine Ex.ind ?_
 intro op name n args kids ih hok h
 simp only [Ex.ok] at hok
 obtain ⟨_, _, _, _, hk, hks⟩ := hok
 rw [Ex.oks_iff] at hks
 have hlen := Ex.rows_len kids
 simp only [Ex.cells, Ex.size]
 refine pcall_body (ow := fun _ => false) (wf := fun _ => false) Ty.mixed Try.func39 rfl Ty.hb_39 (by rw [Try.ntmps39]; simp) ?_
 rw [Try.ntmps39, Try.results39]
 repeat' (first | refine a_seq fun K hK => ?_ | (refine a_block ?_) | (refine a_regionS ?_; simp (maxSteps := 2000000) only [Ty.w, simprocAttr, hlen]) | (refine hK _ _ ?_; clear hK; try simp only [pst0, simprocAttr]))
 refine a_loop (fun m S h' => h' = h ∧ S 1 = .cptr (Ex.mk op name n args kids).cells ∧ ∃ k : Nat, S 4 = .sc (.int .i64 k) ∧ k ≤ kids.length ∧ m = kids.length - k ∧ S 3 = .sc (.int .i64 (Ex.sizes 1 (kids.take k)))) kids.length ?_ ?_
 ·simp only [Ty.w, simprocAttr]
  exact ⟨rfl, 0, rfl, by omega, rfl, by simp [Ex.sizes]⟩
 ·rintro m S h' ⟨rfl, g1, k, g4, hkl, rfl, g3⟩
  simp only [Ex.cells] at g1
  by_cases hlt : k < kids.length
  ·have hd : decide ((k : Int) < (kids.length : Int)) = true := by simp; omega
   have w7 : IntKind.i64.wrap ((k : Int) + 1) = k + 1 := by unfold bigN at hk; rw [wrap64 (by omega) (by omega)]
   obtain ⟨e, hx⟩ : ∃ e, kids[k]? = some e := ⟨_, List.getElem?_eq_getElem hlt⟩
   have hmem := List.mem_of_getElem? hx
   have hc := ih e hmem (hks e hmem)
   have hsz := Ex.sizes_take 1 hx
   have hr := Ex.rows_get hx
   obtain ⟨op2, name2, n2, args2, kids2⟩ := e
   simp only [Ex.cells] at hr hc
   repeat' (first | refine a_seq fun K hK => ?_ | (refine a_block ?_) | ((first | refine a_regionS ?_ | refine a_region (fun K hK => ?_)); simp (maxSteps := 2000000) only [Ty.w, simprocAttr, g1, g3, g4, hlen, hd, hr, w7]) | (refine a_skip ?_; try simp only [pst0, simprocAttr]) | (refine a_cond _ (by (try simp (maxSteps := 2000000) only [Ty.w, simprocAttr, g1, g3, g4, hlen, hd, hr, w7]); rfl) (fun hb => ?_) (fun hb => ?_) <;> (try simp only [hb0, decide_eq_true_eq, decide_eq_false_iff_not, simprocAttr] at hb) <;> (try (exfalso; omega))) | (refine hK _ _ ?_; clear hK; try simp only [pst0, simprocAttr]))
   refine owp_useQ (hc _) (by (try simp only [Ty.w, simprocAttr, g1, g3, g4, hlen, hd, hr]); try rfl) ?_; simp (maxSteps := 2000000) only [Ty.w, simprocAttr, g1, g3, g4, hlen, hd, hr]
   repeat' (first | (refine a_regionS ?_; simp (maxSteps := 2000000) only [Ty.w, simprocAttr, g1, g3, g4, w7]) | (refine hK _ _ ?_; clear hK; try simp only [pst0, simprocAttr]))
   exact ⟨kids.length - (k + 1), by omega, rfl, k + 1, by simp, by omega, rfl, by rw [hsz]⟩
  ·have hd : decide ((k : Int) < (kids.length : Int)) = false := by simp; omega
   have hke : k = kids.length := by omega
   subst hke
   rw [List.take_length] at g3
   repeat' (first | refine a_seq fun K hK => ?_ | ((first | refine a_regionS ?_ | refine a_ret ?_); simp (maxSteps := 2000000) only [Ty.w, simprocAttr, g1, g3, g4, hlen, hd]) | (refine a_exit ?_; try simp only [pst0, simprocAttr]) | (refine a_cond _ (by (try simp (maxSteps := 2000000) only [Ty.w, simprocAttr, g1, g3, g4, hlen, hd]); rfl) (fun hb => ?_) (fun hb => ?_) <;> (try simp only [hb0, decide_eq_true_eq, decide_eq_false_iff_not, simprocAttr] at hb) <;> (try (exfalso; omega))) | ((first | refine hK _ _ ?_ | (clear hK; refine hK _ _ ?_)); clear hK; try simp only [pst0, simprocAttr]))
theorem rsize_c : ∀ (f : Fm), f.ok → ∀ h : Heap, PCall Try.prog 24 [.agg f.cells] h fun r h' => r = .sc (.int .i64 f.size) ∧ h' = h := by
 refine Fm.ind ?_
 intro op name args params exprs kids ih hok h
 simp only [Fm.ok] at hok
 obtain ⟨_, _, _, _, ⟨he, hes⟩, hk, hks⟩ := hok
 rw [Ex.oks_iff] at hes
 rw [Fm.oks_iff] at hks
 have hlen := Fm.rows_len kids
 have hlene := Ex.rows_len exprs
 simp only [Fm.cells, Fm.size]
 refine pcall_body (ow := fun _ => false) (wf := fun _ => false) Ty.mixed Try.func24 rfl Ty.hb_24 (by rw [Try.ntmps24]; simp) ?_
 rw [Try.ntmps24, Try.results24]
 repeat' (first | refine a_seq fun K hK => ?_ | (refine a_block ?_) | (refine a_regionS ?_; simp (maxSteps := 2000000) only [Ty.w, simprocAttr, hlen]) | (refine hK _ _ ?_; clear hK; try simp only [pst0, simprocAttr]))
 refine a_loop (fun m S h' => h' = h ∧ S 1 = .cptr (Fm.mk op name args params exprs kids).cells ∧ ∃ k : Nat, S 4 = .sc (.int .i64 k) ∧ k ≤ exprs.length ∧ m = exprs.length - k ∧ S 3 = .sc (.int .i64 (Ex.sizes 1 (exprs.take k)))) exprs.length ?_ ?_
 ·simp only [Ty.w, simprocAttr]
  exact ⟨rfl, 0, rfl, by omega, rfl, by simp [Ex.sizes]⟩
 ·rintro m S h' ⟨rfl, g1, k, g4, hkl, rfl, g3⟩
  simp only [Fm.cells] at g1
  by_cases hlt : k < exprs.length
  ·have hd : decide ((k : Int) < (exprs.length : Int)) = true := by simp; omega
   have w7 : IntKind.i64.wrap ((k : Int) + 1) = k + 1 := by unfold bigN at he; rw [wrap64 (by omega) (by omega)]
   obtain ⟨e, hx⟩ : ∃ e, exprs[k]? = some e := ⟨_, List.getElem?_eq_getElem hlt⟩
   have hmem := List.mem_of_getElem? hx
   have hc := rsizeE_c e (hes e hmem)
   have hsz := Ex.sizes_take 1 hx
   have hr := Ex.rows_get hx
   obtain ⟨op2, name2, n2, args2, kids2⟩ := e
   simp only [Ex.cells] at hr hc
   repeat' (first | refine a_seq fun K hK => ?_ | (refine a_block ?_) | ((first | refine a_regionS ?_ | refine a_region (fun K hK => ?_)); simp (maxSteps := 2000000) only [Ty.w, simprocAttr, g1, g3, g4, hlene, hd, hr, w7]) | (refine a_skip ?_; try simp only [pst0, simprocAttr]) | (refine a_cond _ (by (try simp (maxSteps := 2000000) only [Ty.w, simprocAttr, g1, g3, g4, hlene, hd, hr, w7]); rfl) (fun hb => ?_) (fun hb => ?_) <;> (try simp only [hb0, decide_eq_true_eq, decide_eq_false_iff_not, simprocAttr] at hb) <;> (try (exfalso; omega))) | (refine hK _ _ ?_; clear hK; try simp only [pst0, simprocAttr]))
   refine owp_useQ (hc _) (by (try simp only [Ty.w, simprocAttr, g1, g3, g4, hlene, hd, hr]); try rfl) ?_; simp (maxSteps := 2000000) only [Ty.w, simprocAttr, g1, g3, g4, hlene, hd, hr]
   repeat' (first | (refine a_regionS ?_; simp (maxSteps := 2000000) only [Ty.w, simprocAttr, g1, g3, g4, w7]) | (refine hK _ _ ?_; clear hK; try simp only [pst0, simprocAttr]))
   exact ⟨exprs.length - (k + 1), by omega, by simp only [Fm.cells], k + 1, by simp, by omega, rfl, by rw [hsz]⟩
  ·have hd : decide ((k : Int) < (exprs.length : Int)) = false := by simp; omega
   have hke : k = exprs.length := by omega
   subst hke
   rw [List.take_length] at g3
   repeat' (first | refine a_seq fun K hK => ?_ | (refine a_block ?_) | (refine a_regionS ?_; simp (maxSteps := 2000000) only [Ty.w, simprocAttr, g1, g3, g4, hlene, hd]) | (refine a_exit ?_; try simp only [pst0, simprocAttr]) | (refine a_cond _ (by (try simp (maxSteps := 2000000) only [Ty.w, simprocAttr, g1, g3, g4, hlene, hd]); rfl) (fun hb => ?_) (fun hb => ?_) <;> (try simp only [hb0, decide_eq_true_eq, decide_eq_false_iff_not, simprocAttr] at hb) <;> (try (exfalso; omega))) | ((first | refine hK _ _ ?_ | (clear hK; refine hK _ _ ?_)); clear hK; try simp only [pst0, simprocAttr]))
   refine a_loop (fun m S h2 => h2 = h' ∧ S 1 = .cptr (Fm.mk op name args params exprs kids).cells ∧ ∃ k : Nat, S 5 = .sc (.int .i64 k) ∧ k ≤ kids.length ∧ m = kids.length - k ∧ S 3 = .sc (.int .i64 (Fm.sizes (Ex.sizes 1 exprs) (kids.take k)))) kids.length ?_ ?_
   ·simp only [Ty.w, simprocAttr, g1, g3]
    exact ⟨by simp only [Fm.cells], 0, rfl, by omega, rfl, by simp [Fm.sizes]⟩
   ·clear g1 g3 g4
    rintro m S h' ⟨rfl, g1, k, g5, hkl, rfl, g3⟩
    simp only [Fm.cells] at g1
    by_cases hlt : k < kids.length
    ·have hd : decide ((k : Int) < (kids.length : Int)) = true := by simp; omega
     have w7 : IntKind.i64.wrap ((k : Int) + 1) = k + 1 := by unfold bigN at hk; rw [wrap64 (by omega) (by omega)]
     obtain ⟨e, hx⟩ : ∃ e, kids[k]? = some e := ⟨_, List.getElem?_eq_getElem hlt⟩
     have hmem := List.mem_of_getElem? hx
     have hc := ih e hmem (hks e hmem)
     have hsz := Fm.sizes_take (Ex.sizes 1 exprs) hx
     have hr := Fm.rows_get hx
     obtain ⟨op2, name2, args2, params2, exprs2, kids2⟩ := e
     simp only [Fm.cells] at hr hc
     repeat' (first | refine a_seq fun K hK => ?_ | (refine a_block ?_) | ((first | refine a_regionS ?_ | refine a_region (fun K hK => ?_)); simp (maxSteps := 2000000) only [Ty.w, simprocAttr, g1, g3, g5, hlen, hd, hr, w7]) | (refine a_skip ?_; try simp only [pst0, simprocAttr]) | (refine a_cond _ (by (try simp (maxSteps := 2000000) only [Ty.w, simprocAttr, g1, g3, g5, hlen, hd, hr, w7]); rfl) (fun hb => ?_) (fun hb => ?_) <;> (try simp only [hb0, decide_eq_true_eq, decide_eq_false_iff_not, simprocAttr] at hb) <;> (try (exfalso; omega))) | (refine hK _ _ ?_; clear hK; try simp only [pst0, simprocAttr]))
     refine owp_useQ (hc _) (by (try simp only [Ty.w, simprocAttr, g1, g3, g5, hlen, hd, hr]); try rfl) ?_; simp (maxSteps := 2000000) only [Ty.w, simprocAttr, g1, g3, g5, hlen, hd, hr]
     repeat' (first | (refine a_regionS ?_; simp (maxSteps := 2000000) only [Ty.w, simprocAttr, g1, g3, g5, w7]) | (refine hK _ _ ?_; clear hK; try simp only [pst0, simprocAttr]))
     exact ⟨kids.length - (k + 1), by omega, by simp only [Fm.cells], k + 1, by simp, by omega, rfl, by rw [hsz]⟩
    ·have hd : decide ((k : Int) < (kids.length : Int)) = false := by simp; omega
     have hke : k = kids.length := by omega
     subst hke
     rw [List.take_length] at g3
     repeat' (first | refine a_seq fun K hK => ?_ | ((first | refine a_regionS ?_ | refine a_ret ?_); simp (maxSteps := 2000000) only [Ty.w, simprocAttr, g1, g3, g5, hlen, hd]) | (refine a_exit ?_; try simp only [pst0, simprocAttr]) | (refine a_cond _ (by (try simp (maxSteps := 2000000) only [Ty.w, simprocAttr, g1, g3, g5, hlen, hd]); rfl) (fun hb => ?_) (fun hb => ?_) <;> (try simp only [hb0, decide_eq_true_eq, decide_eq_false_iff_not, simprocAttr] at hb) <;> (try (exfalso; omega))) | ((first | refine hK _ _ ?_ | (clear hK; refine hK _ _ ?_)); clear hK; try simp only [pst0, simprocAttr]))
theorem large_c {f : Fm} (hf : f.ok) (h : Heap) : PCall Try.prog 19 [.agg f.cells] h fun r h' => r = .sc (.bool (decide (f.size > 5000))) ∧ h' = h := by
 have hc := rsize_c f hf
 obtain ⟨op, name, args, params, exprs, kids⟩ := f
 simp only [Fm.cells] at hc ⊢
 refine pcall_body (ow := fun _ => false) (wf := fun _ => false) Ty.mixed Try.func19 rfl Ty.hb_19 (by rw [Try.ntmps19]; simp) ?_
 rw [Try.ntmps19, Try.results19]
 repeat' (first | refine a_seq fun K hK => ?_ | (refine a_regionS ?_; simp (maxSteps := 2000000) only [Ty.w, simprocAttr]) | (refine hK _ _ ?_; clear hK; try simp only [pst0, simprocAttr]))
 refine owp_useQ (hc _) (by (try simp only [Ty.w, simprocAttr, ]); try rfl) ?_; simp (maxSteps := 2000000) only [Ty.w, simprocAttr, ]
 repeat' (first | (refine a_ret ?_; simp (maxSteps := 2000000) only [Ty.w, simprocAttr]) | (refine hK _ _ ?_; clear hK; try simp only [pst0, simprocAttr]))
end Go.Proofs.Ytjlkapgpjamnkaa
namespace Go.AM
end Go.AM
namespace Go.Proofs.Ytjlkapgpjamnkaa
open Go.AM
theorem validF_shaped {f : Fm} (h : validF f = true) : shapedF f = true := by
 unfold validF at h
 simp only [Bool.and_eq_true] at h
 exact shapedM_F f 0 0 h.1
end Go.Proofs.Ytjlkapgpjamnkaa
