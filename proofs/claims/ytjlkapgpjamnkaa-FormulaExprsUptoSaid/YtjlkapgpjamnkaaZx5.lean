/- What the claim rests on, part 5: the abstract machine, contracts of the functions, plain data. -/
import Derived.OpenShut
import Derived.ChangeShapes
import Derived.SizedLaws
import Derived.Test.YtjlkapgpjamnkaaRows
import Derived.Test.YtjlkapgpjamnkaaZx4
set_option linter.unusedVariables false
set_option linter.unusedSimpArgs false
set_option linter.unusedSectionVars false
namespace Go.Proofs.Ytjlkapgpjamnkaa
open Go.AM
set_option maxHeartbeats 8000000
set_option maxRecDepth 20000
/-- ShapedExpr of an expression whose kids are shaped, in the order of the text -/
def opB (op name : ByteArray) (v : Int) (args : List ByteArray) (kids : List Ex) : Bool :=
  if (op.data.toList == (#[110, 117, 109, 98, 101, 114] : Array UInt8).toList) then decide (v ≥ -1099511627776) && (decide (v ≤ 1099511627776) && ((name.data.toList == (#[] : Array UInt8).toList) && (((args.length : Int) == 0) && ((kids.length : Int) == 0))))
  else if (op.data.toList == (#[102, 108, 117, 101, 110, 116] : Array UInt8).toList) then (v == 0) && (nameB name && (args.all termB && ((kids.length : Int) == 0)))
  else if ((op.data.toList == (#[43] : Array UInt8).toList) || ((op.data.toList == (#[45] : Array UInt8).toList) || (op.data.toList == (#[42] : Array UInt8).toList))) then (v == 0) && ((name.data.toList == (#[] : Array UInt8).toList) && (((args.length : Int) == 0) && ((kids.length : Int) == 2)))
  else false
theorem shapedE_kid {op name : ByteArray} {v : Int} {args : List ByteArray} {kids : List Ex} (h : shapedE (.mk op name v args kids) = true) : ∀ k ∈ kids, shapedE k = true := by
  unfold shapedE at h
  intro k hk
  split at h
  · simp only [Bool.and_eq_true, List.isEmpty_iff] at h
    rw [h.1.2] at hk; simp at hk
  · split at h
    · simp only [Bool.and_eq_true, List.isEmpty_iff] at h
      rw [h.1.1.2] at hk; simp at hk
    · split at h
      · simp only [Bool.and_eq_true] at h
        obtain ⟨_, h⟩ := h
        split at h
        · simp only [Bool.and_eq_true] at h
          simp only [List.mem_cons, List.not_mem_nil, or_false] at hk
          rcases hk with rfl | rfl
          · exact h.1
          · exact h.2
        · simp at h
      · simp at h
theorem shapedE_op {op name : ByteArray} {v : Int} {args : List ByteArray} {kids : List Ex} (h : ∀ k ∈ kids, shapedE k = true) : shapedE (.mk op name v args kids) = opB op name v args kids := by
  have n1 : bEq op opNum = (op.data.toList == (#[110, 117, 109, 98, 101, 114] : Array UInt8).toList) := rfl
  have n2 : bEq op opFlu = (op.data.toList == (#[102, 108, 117, 101, 110, 116] : Array UInt8).toList) := rfl
  have n3 : bEq op opPls = (op.data.toList == (#[43] : Array UInt8).toList) := rfl
  have n4 : bEq op opMin = (op.data.toList == (#[45] : Array UInt8).toList) := rfl
  have n5 : bEq op opTim = (op.data.toList == (#[42] : Array UInt8).toList) := rfl
  have n6 : emptyB name = (name.data.toList == (#[] : Array UInt8).toList) := rfl
  have n7 : decide (v = 0) = (v == 0) := by by_cases h0 : v = 0 <;> simp [h0]
  have n8 : inNum v = (decide (v ≥ -1099511627776) && decide (v ≤ 1099511627776)) := rfl
  unfold shapedE opB
  rw [n1, n2, n3, n4, n5, n6, n7, n8, ← emp_len args, ← emp_len kids]
  split
  · generalize decide (v ≥ -1099511627776) = a
    generalize decide (v ≤ 1099511627776) = b
    generalize (name.data.toList == (#[] : Array UInt8).toList) = c
    generalize ((args.length : Int) == 0) = d
    generalize ((kids.length : Int) == 0) = e
    cases a <;> cases b <;> cases c <;> cases d <;> cases e <;> rfl
  · split
    · generalize (v == 0) = a
      generalize nameB name = b
      generalize args.all termB = c
      generalize ((kids.length : Int) == 0) = e
      cases a <;> cases b <;> cases c <;> cases e <;> rfl
    · rw [Bool.or_assoc]
      split
      · rw [Bool.and_assoc, Bool.and_assoc]
        congr 1
        congr 1
        congr 1
        match kids, h with
        | [], _ => rfl
        | [_], _ => rfl
        | [a, b], h => simp only [h a (by simp), h b (by simp)]; rfl
        | _ :: _ :: _ :: l, _ => simp; omega
      · rfl
theorem rshapedE_c : ∀ e : Ex, e.ok → ∀ h : Heap, PCall Try.prog 78 [.agg e.cells] h fun r h' => r = .sc (.bool (shapedE e)) ∧ h' = h := by
  refine Ex.ind ?_
  intro op name v args kids ih hok h
  simp only [Ex.ok] at hok
  obtain ⟨_, hnm, _, ⟨hal, hargs⟩, hkl, hks⟩ := hok
  rw [Ex.oks_iff] at hks
  have hnm' : name.size ≤ 9223372036854775807 := by unfold bigN at hnm; omega
  have hlA := strRows_len args
  have hlK := Ex.rows_len kids
  have hkid : ∀ k ∈ kids, shapedE k = false → shapedE (.mk op name v args kids) = false := fun k hk hf => by
    cases hh : shapedE (.mk op name v args kids) with
    | false => rfl
    | true => rw [shapedE_kid hh k hk] at hf; simp at hf
  have hop : (∀ k ∈ kids, shapedE k = true) → shapedE (.mk op name v args kids) = opB op name v args kids := shapedE_op
  generalize shapedE (.mk op name v args kids) = F at hkid hop
  simp only [Ex.cells]
  refine pcall_body (ow := fun _ => false) (wf := fun _ => false) Ty.mixed Try.func78 rfl Ty.hb_78 (by rw [Try.ntmps78]; simp) ?_
  rw [Try.ntmps78, Try.results78]
  repeat' (first | (refine a_seq (fun K hK => ?_)) | (refine a_block ?_) | ((first | refine a_regionS ?_ | refine a_region (fun K hK => ?_) | refine a_ret ?_); simp (maxSteps := 2000000) only [Ty.w, simprocAttr, hlK]) | ((first | refine a_skip ?_ | refine a_exit ?_); (try simp only [pst0, simprocAttr])) | (refine a_cond _ (by (try simp (maxSteps := 2000000) only [Ty.w, simprocAttr, hlK]); rfl) (fun hb => ?_) (fun hb => ?_) <;> (try simp only [hb0, decide_eq_true_eq, decide_eq_false_iff_not, simprocAttr] at hb) <;> (try (exfalso; omega))) | (with_reducible refine ite_in (fun hb => ?_) (fun hb => ?_) <;> (try simp only [Decidable.not_not] at hb) <;> (try simp only [hb, if_true, if_false, not_false_eq_true, not_true_eq_false, ↓reduceIte]) <;> (try simp only [hb0, decide_eq_true_eq, decide_eq_false_iff_not, simprocAttr] at hb) <;> (try (exfalso; omega))) | ((first | refine hK _ _ ?_ | (clear hK; refine hK _ _ ?_) | (clear hK; clear hK; refine hK _ _ ?_) | (clear hK; clear hK; clear hK; refine hK _ _ ?_)); clear hK; (try simp only [pst0, simprocAttr])) | (rw [if_pos]; rotate_left 1; omega; simp (maxSteps := 2000000) only [Ty.w, simprocAttr, hlK]))
  refine a_loop (fun m S h' => h' = h ∧ S 1 = .cptr (Ex.mk op name v args kids).cells ∧ ∃ k : Nat, S 3 = .sc (.int .i64 k) ∧ k ≤ kids.length ∧ m = kids.length - k ∧ ∀ (i : Nat) (e : Ex), i < k → kids[i]? = some e → shapedE e = true) kids.length ?_ ?_
  · simp only [Ty.w, simprocAttr]
    exact ⟨rfl, 0, rfl, by omega, rfl, by omega⟩
  · rintro m S h' ⟨rfl, g1, k, g3, hkk, rfl, hall⟩
    simp only [Ex.cells] at g1
    by_cases hlt : k < kids.length
    · clear hop
      have hd : decide ((k : Int) < (kids.length : Int)) = true := by simp; omega
      have w7 : IntKind.i64.wrap ((k : Int) + 1) = k + 1 := by unfold bigN at hkl; rw [wrap64 (by omega) (by omega)]
      obtain ⟨e, hx⟩ : ∃ e, kids[k]? = some e := ⟨_, List.getElem?_eq_getElem hlt⟩
      have hmem := List.mem_of_getElem? hx
      have hc := ih e hmem (hks e hmem)
      have hr := Ex.rows_get hx
      have hbad := hkid e hmem
      have hgood : shapedE e = true → ∀ (i : Nat) (e : Ex), i < k + 1 → kids[i]? = some e → shapedE e = true := fun h1 i e2 hi hw => by
        by_cases hik : i = k
        · subst hik; rw [hx] at hw; simp at hw; rw [← hw]; exact h1
        · exact hall i e2 (by omega) hw
      generalize shapedE e = b at hc hbad hgood
      clear hkid hall
      obtain ⟨op2, name2, n2, args2, kids2⟩ := e
      simp only [Ex.cells] at hr hc
      cases b with
      | false =>
        have := hbad rfl
        subst this
        repeat' (first | (refine a_seq (fun K hK => ?_)) | (refine a_block ?_) | ((first | refine a_regionS ?_ | refine a_region (fun K hK => ?_) | refine a_ret ?_); simp (maxSteps := 2000000) only [Ty.w, simprocAttr, g1, g3, hlK, hd, hr, w7]) | ((first | refine a_skip ?_ | refine a_exit ?_); (try simp only [pst0, simprocAttr])) | (refine a_cond _ (by (try simp (maxSteps := 2000000) only [Ty.w, simprocAttr, g1, g3, hlK, hd, hr, w7]); rfl) (fun hb => ?_) (fun hb => ?_) <;> (try simp only [hb0, decide_eq_true_eq, decide_eq_false_iff_not, simprocAttr] at hb) <;> (try (exfalso; omega))) | (with_reducible refine ite_in (fun hb => ?_) (fun hb => ?_) <;> (try simp only [Decidable.not_not] at hb) <;> (try simp only [hb, if_true, if_false, not_false_eq_true, not_true_eq_false, ↓reduceIte]) <;> (try simp only [hb0, decide_eq_true_eq, decide_eq_false_iff_not, simprocAttr] at hb) <;> (try (exfalso; omega))) | ((first | refine hK _ _ ?_ | (clear hK; refine hK _ _ ?_) | (clear hK; clear hK; refine hK _ _ ?_) | (clear hK; clear hK; clear hK; refine hK _ _ ?_)); clear hK; (try simp only [pst0, simprocAttr])) | (rw [if_pos]; rotate_left 1; omega; simp (maxSteps := 2000000) only [Ty.w, simprocAttr, g1, g3, hlK, hd, hr, w7]))
        refine owp_useQ (hc _) (by (try simp only [Ty.w, simprocAttr, g1, g3, hlK, hd, hr, Bool.not_false]); try rfl) ?_; simp (maxSteps := 2000000) only [Ty.w, simprocAttr, g1, g3, hlK, hd, hr, Bool.not_false]
        repeat' (first | (refine a_seq (fun K hK => ?_)) | (refine a_block ?_) | ((first | refine a_regionS ?_ | refine a_region (fun K hK => ?_) | refine a_ret ?_); simp (maxSteps := 2000000) only [Ty.w, simprocAttr, g1, g3, w7, Bool.not_false]) | ((first | refine a_skip ?_ | refine a_exit ?_); (try simp only [pst0, simprocAttr])) | (refine a_cond _ (by (try simp (maxSteps := 2000000) only [Ty.w, simprocAttr, g1, g3, w7, Bool.not_false]); rfl) (fun hb => ?_) (fun hb => ?_) <;> (try simp only [hb0, decide_eq_true_eq, decide_eq_false_iff_not, simprocAttr] at hb) <;> (try (exfalso; omega))) | (with_reducible refine ite_in (fun hb => ?_) (fun hb => ?_) <;> (try simp only [Decidable.not_not] at hb) <;> (try simp only [hb, if_true, if_false, not_false_eq_true, not_true_eq_false, ↓reduceIte]) <;> (try simp only [hb0, decide_eq_true_eq, decide_eq_false_iff_not, simprocAttr] at hb) <;> (try (exfalso; omega))) | ((first | refine hK _ _ ?_ | (clear hK; refine hK _ _ ?_) | (clear hK; clear hK; refine hK _ _ ?_) | (clear hK; clear hK; clear hK; refine hK _ _ ?_)); clear hK; (try simp only [pst0, simprocAttr])) | (rw [if_pos]; rotate_left 1; omega; simp (maxSteps := 2000000) only [Ty.w, simprocAttr, g1, g3, w7, Bool.not_false]))
      | true =>
        repeat' (first | (refine a_seq (fun K hK => ?_)) | (refine a_block ?_) | ((first | refine a_regionS ?_ | refine a_region (fun K hK => ?_) | refine a_ret ?_); simp (maxSteps := 2000000) only [Ty.w, simprocAttr, g1, g3, hlK, hd, hr, w7]) | ((first | refine a_skip ?_ | refine a_exit ?_); (try simp only [pst0, simprocAttr])) | (refine a_cond _ (by (try simp (maxSteps := 2000000) only [Ty.w, simprocAttr, g1, g3, hlK, hd, hr, w7]); rfl) (fun hb => ?_) (fun hb => ?_) <;> (try simp only [hb0, decide_eq_true_eq, decide_eq_false_iff_not, simprocAttr] at hb) <;> (try (exfalso; omega))) | (with_reducible refine ite_in (fun hb => ?_) (fun hb => ?_) <;> (try simp only [Decidable.not_not] at hb) <;> (try simp only [hb, if_true, if_false, not_false_eq_true, not_true_eq_false, ↓reduceIte]) <;> (try simp only [hb0, decide_eq_true_eq, decide_eq_false_iff_not, simprocAttr] at hb) <;> (try (exfalso; omega))) | ((first | refine hK _ _ ?_ | (clear hK; refine hK _ _ ?_) | (clear hK; clear hK; refine hK _ _ ?_) | (clear hK; clear hK; clear hK; refine hK _ _ ?_)); clear hK; (try simp only [pst0, simprocAttr])) | (rw [if_pos]; rotate_left 1; omega; simp (maxSteps := 2000000) only [Ty.w, simprocAttr, g1, g3, hlK, hd, hr, w7]))
        refine owp_useQ (hc _) (by (try simp only [Ty.w, simprocAttr, g1, g3, hlK, hd, hr, Bool.not_true]); try rfl) ?_; simp (maxSteps := 2000000) only [Ty.w, simprocAttr, g1, g3, hlK, hd, hr, Bool.not_true]
        repeat' (first | (refine a_seq (fun K hK => ?_)) | (refine a_block ?_) | ((first | refine a_regionS ?_ | refine a_region (fun K hK => ?_) | refine a_ret ?_); simp (maxSteps := 2000000) only [Ty.w, simprocAttr, g1, g3, w7, Bool.not_true]) | ((first | refine a_skip ?_ | refine a_exit ?_); (try simp only [pst0, simprocAttr])) | (refine a_cond _ (by (try simp (maxSteps := 2000000) only [Ty.w, simprocAttr, g1, g3, w7, Bool.not_true]); rfl) (fun hb => ?_) (fun hb => ?_) <;> (try simp only [hb0, decide_eq_true_eq, decide_eq_false_iff_not, simprocAttr] at hb) <;> (try (exfalso; omega))) | (with_reducible refine ite_in (fun hb => ?_) (fun hb => ?_) <;> (try simp only [Decidable.not_not] at hb) <;> (try simp only [hb, if_true, if_false, not_false_eq_true, not_true_eq_false, ↓reduceIte]) <;> (try simp only [hb0, decide_eq_true_eq, decide_eq_false_iff_not, simprocAttr] at hb) <;> (try (exfalso; omega))) | ((first | refine hK _ _ ?_ | (clear hK; refine hK _ _ ?_) | (clear hK; clear hK; refine hK _ _ ?_) | (clear hK; clear hK; clear hK; refine hK _ _ ?_)); clear hK; (try simp only [pst0, simprocAttr])) | (rw [if_pos]; rotate_left 1; omega; simp (maxSteps := 2000000) only [Ty.w, simprocAttr, g1, g3, w7, Bool.not_true]))
        exact ⟨kids.length - (k + 1), by omega, rfl, k + 1, by simp, by omega, rfl, hgood rfl⟩
    · have hd : decide ((k : Int) < (kids.length : Int)) = false := by simp; omega
      have hF := hop fun e he => by
        obtain ⟨i, hi⟩ := List.getElem?_of_mem he
        exact hall i e (by have := (List.getElem?_eq_some_iff.1 hi).1; omega) hi
      clear hop hall hkid ih
      have hn := fun h : Heap => rname_c (h := h) (s := name) hnm'
      have hA := fun h : Heap => rall_c (h := h) hal hargs
      unfold opB at hF
      cases k1 : (op.data.toList == (#[110, 117, 109, 98, 101, 114] : Array UInt8).toList) with
      | true =>
        rw [k1] at hF
        simp only [if_true] at hF
        cases q1 : decide (v ≥ -1099511627776) with
        | false =>
          rw [q1] at hF
          simp only [Bool.false_and] at hF
          subst hF
          repeat' (first | (refine a_seq (fun K hK => ?_)) | (refine a_block ?_) | ((first | refine a_regionS ?_ | refine a_region (fun K hK => ?_) | refine a_ret ?_); simp (maxSteps := 2000000) only [Ty.w, simprocAttr, g1, g3, hd, hlA, hlK, k1, q1]) | ((first | refine a_skip ?_ | refine a_exit ?_); (try simp only [pst0, simprocAttr])) | (refine a_cond _ (by (try simp (maxSteps := 2000000) only [Ty.w, simprocAttr, g1, g3, hd, hlA, hlK, k1, q1]); rfl) (fun hb => ?_) (fun hb => ?_) <;> (try simp only [hb0, decide_eq_true_eq, decide_eq_false_iff_not, simprocAttr] at hb) <;> (try (exfalso; omega))) | (with_reducible refine ite_in (fun hb => ?_) (fun hb => ?_) <;> (try simp only [Decidable.not_not] at hb) <;> (try simp only [hb, if_true, if_false, not_false_eq_true, not_true_eq_false, ↓reduceIte]) <;> (try simp only [hb0, decide_eq_true_eq, decide_eq_false_iff_not, simprocAttr] at hb) <;> (try (exfalso; omega))) | ((first | refine hK _ _ ?_ | (clear hK; refine hK _ _ ?_) | (clear hK; clear hK; refine hK _ _ ?_) | (clear hK; clear hK; clear hK; refine hK _ _ ?_)); clear hK; (try simp only [pst0, simprocAttr])) | (rw [if_pos]; rotate_left 1; omega; simp (maxSteps := 2000000) only [Ty.w, simprocAttr, g1, g3, hd, hlA, hlK, k1, q1]))
        | true =>
          rw [q1, Bool.true_and] at hF
          cases q2 : decide (v ≤ 1099511627776) with
          | false =>
            rw [q2] at hF
            simp only [Bool.false_and] at hF
            subst hF
            repeat' (first | (refine a_seq (fun K hK => ?_)) | (refine a_block ?_) | ((first | refine a_regionS ?_ | refine a_region (fun K hK => ?_) | refine a_ret ?_); simp (maxSteps := 2000000) only [Ty.w, simprocAttr, g1, g3, hd, hlA, hlK, k1, q1, q2]) | ((first | refine a_skip ?_ | refine a_exit ?_); (try simp only [pst0, simprocAttr])) | (refine a_cond _ (by (try simp (maxSteps := 2000000) only [Ty.w, simprocAttr, g1, g3, hd, hlA, hlK, k1, q1, q2]); rfl) (fun hb => ?_) (fun hb => ?_) <;> (try simp only [hb0, decide_eq_true_eq, decide_eq_false_iff_not, simprocAttr] at hb) <;> (try (exfalso; omega))) | (with_reducible refine ite_in (fun hb => ?_) (fun hb => ?_) <;> (try simp only [Decidable.not_not] at hb) <;> (try simp only [hb, if_true, if_false, not_false_eq_true, not_true_eq_false, ↓reduceIte]) <;> (try simp only [hb0, decide_eq_true_eq, decide_eq_false_iff_not, simprocAttr] at hb) <;> (try (exfalso; omega))) | ((first | refine hK _ _ ?_ | (clear hK; refine hK _ _ ?_) | (clear hK; clear hK; refine hK _ _ ?_) | (clear hK; clear hK; clear hK; refine hK _ _ ?_)); clear hK; (try simp only [pst0, simprocAttr])) | (rw [if_pos]; rotate_left 1; omega; simp (maxSteps := 2000000) only [Ty.w, simprocAttr, g1, g3, hd, hlA, hlK, k1, q1, q2]))
          | true =>
            rw [q2, Bool.true_and] at hF
            cases q3 : (name.data.toList == (#[] : Array UInt8).toList) with
            | false =>
              rw [q3] at hF
              simp only [Bool.false_and] at hF
              subst hF
              repeat' (first | (refine a_seq (fun K hK => ?_)) | (refine a_block ?_) | ((first | refine a_regionS ?_ | refine a_region (fun K hK => ?_) | refine a_ret ?_); simp (maxSteps := 2000000) only [Ty.w, simprocAttr, g1, g3, hd, hlA, hlK, k1, q1, q2, q3]) | ((first | refine a_skip ?_ | refine a_exit ?_); (try simp only [pst0, simprocAttr])) | (refine a_cond _ (by (try simp (maxSteps := 2000000) only [Ty.w, simprocAttr, g1, g3, hd, hlA, hlK, k1, q1, q2, q3]); rfl) (fun hb => ?_) (fun hb => ?_) <;> (try simp only [hb0, decide_eq_true_eq, decide_eq_false_iff_not, simprocAttr] at hb) <;> (try (exfalso; omega))) | (with_reducible refine ite_in (fun hb => ?_) (fun hb => ?_) <;> (try simp only [Decidable.not_not] at hb) <;> (try simp only [hb, if_true, if_false, not_false_eq_true, not_true_eq_false, ↓reduceIte]) <;> (try simp only [hb0, decide_eq_true_eq, decide_eq_false_iff_not, simprocAttr] at hb) <;> (try (exfalso; omega))) | ((first | refine hK _ _ ?_ | (clear hK; refine hK _ _ ?_) | (clear hK; clear hK; refine hK _ _ ?_) | (clear hK; clear hK; clear hK; refine hK _ _ ?_)); clear hK; (try simp only [pst0, simprocAttr])) | (rw [if_pos]; rotate_left 1; omega; simp (maxSteps := 2000000) only [Ty.w, simprocAttr, g1, g3, hd, hlA, hlK, k1, q1, q2, q3]))
            | true =>
              rw [q3, Bool.true_and] at hF
              cases q4 : ((args.length : Int) == 0) with
              | false =>
                rw [q4] at hF
                simp only [Bool.false_and] at hF
                subst hF
                repeat' (first | (refine a_seq (fun K hK => ?_)) | (refine a_block ?_) | ((first | refine a_regionS ?_ | refine a_region (fun K hK => ?_) | refine a_ret ?_); simp (maxSteps := 2000000) only [Ty.w, simprocAttr, g1, g3, hd, hlA, hlK, k1, q1, q2, q3, q4]) | ((first | refine a_skip ?_ | refine a_exit ?_); (try simp only [pst0, simprocAttr])) | (refine a_cond _ (by (try simp (maxSteps := 2000000) only [Ty.w, simprocAttr, g1, g3, hd, hlA, hlK, k1, q1, q2, q3, q4]); rfl) (fun hb => ?_) (fun hb => ?_) <;> (try simp only [hb0, decide_eq_true_eq, decide_eq_false_iff_not, simprocAttr] at hb) <;> (try (exfalso; omega))) | (with_reducible refine ite_in (fun hb => ?_) (fun hb => ?_) <;> (try simp only [Decidable.not_not] at hb) <;> (try simp only [hb, if_true, if_false, not_false_eq_true, not_true_eq_false, ↓reduceIte]) <;> (try simp only [hb0, decide_eq_true_eq, decide_eq_false_iff_not, simprocAttr] at hb) <;> (try (exfalso; omega))) | ((first | refine hK _ _ ?_ | (clear hK; refine hK _ _ ?_) | (clear hK; clear hK; refine hK _ _ ?_) | (clear hK; clear hK; clear hK; refine hK _ _ ?_)); clear hK; (try simp only [pst0, simprocAttr])) | (rw [if_pos]; rotate_left 1; omega; simp (maxSteps := 2000000) only [Ty.w, simprocAttr, g1, g3, hd, hlA, hlK, k1, q1, q2, q3, q4]))
              | true =>
                rw [q4, Bool.true_and] at hF
                subst hF
                repeat' (first | (refine a_seq (fun K hK => ?_)) | (refine a_block ?_) | ((first | refine a_regionS ?_ | refine a_region (fun K hK => ?_) | refine a_ret ?_); simp (maxSteps := 2000000) only [Ty.w, simprocAttr, g1, g3, hd, hlA, hlK, k1, q1, q2, q3, q4]) | ((first | refine a_skip ?_ | refine a_exit ?_); (try simp only [pst0, simprocAttr])) | (refine a_cond _ (by (try simp (maxSteps := 2000000) only [Ty.w, simprocAttr, g1, g3, hd, hlA, hlK, k1, q1, q2, q3, q4]); rfl) (fun hb => ?_) (fun hb => ?_) <;> (try simp only [hb0, decide_eq_true_eq, decide_eq_false_iff_not, simprocAttr] at hb) <;> (try (exfalso; omega))) | (with_reducible refine ite_in (fun hb => ?_) (fun hb => ?_) <;> (try simp only [Decidable.not_not] at hb) <;> (try simp only [hb, if_true, if_false, not_false_eq_true, not_true_eq_false, ↓reduceIte]) <;> (try simp only [hb0, decide_eq_true_eq, decide_eq_false_iff_not, simprocAttr] at hb) <;> (try (exfalso; omega))) | ((first | refine hK _ _ ?_ | (clear hK; refine hK _ _ ?_) | (clear hK; clear hK; refine hK _ _ ?_) | (clear hK; clear hK; clear hK; refine hK _ _ ?_)); clear hK; (try simp only [pst0, simprocAttr])) | (rw [if_pos]; rotate_left 1; omega; simp (maxSteps := 2000000) only [Ty.w, simprocAttr, g1, g3, hd, hlA, hlK, k1, q1, q2, q3, q4]))
      | false =>
        rw [k1] at hF
        simp only [Bool.false_eq_true, if_false] at hF
        cases k2 : (op.data.toList == (#[102, 108, 117, 101, 110, 116] : Array UInt8).toList) with
        | true =>
          rw [k2] at hF
          simp only [if_true] at hF
          cases q1 : (v == 0) with
          | false =>
            rw [q1] at hF
            simp only [Bool.false_and] at hF
            subst hF
            repeat' (first | (refine a_seq (fun K hK => ?_)) | (refine a_block ?_) | ((first | refine a_regionS ?_ | refine a_region (fun K hK => ?_) | refine a_ret ?_); simp (maxSteps := 2000000) only [Ty.w, simprocAttr, g1, g3, hd, hlA, hlK, k1, k2, q1]) | ((first | refine a_skip ?_ | refine a_exit ?_); (try simp only [pst0, simprocAttr])) | (refine a_cond _ (by (try simp (maxSteps := 2000000) only [Ty.w, simprocAttr, g1, g3, hd, hlA, hlK, k1, k2, q1]); rfl) (fun hb => ?_) (fun hb => ?_) <;> (try simp only [hb0, decide_eq_true_eq, decide_eq_false_iff_not, simprocAttr] at hb) <;> (try (exfalso; omega))) | (with_reducible refine ite_in (fun hb => ?_) (fun hb => ?_) <;> (try simp only [Decidable.not_not] at hb) <;> (try simp only [hb, if_true, if_false, not_false_eq_true, not_true_eq_false, ↓reduceIte]) <;> (try simp only [hb0, decide_eq_true_eq, decide_eq_false_iff_not, simprocAttr] at hb) <;> (try (exfalso; omega))) | ((first | refine hK _ _ ?_ | (clear hK; refine hK _ _ ?_) | (clear hK; clear hK; refine hK _ _ ?_) | (clear hK; clear hK; clear hK; refine hK _ _ ?_)); clear hK; (try simp only [pst0, simprocAttr])) | (rw [if_pos]; rotate_left 1; omega; simp (maxSteps := 2000000) only [Ty.w, simprocAttr, g1, g3, hd, hlA, hlK, k1, k2, q1]))
          | true =>
            rw [q1, Bool.true_and] at hF
            generalize nameB name = bn at hn hF
            cases bn with
            | false =>
              simp only [Bool.false_and] at hF
              subst hF
              repeat' (first | (refine a_seq (fun K hK => ?_)) | (refine a_block ?_) | ((first | refine a_regionS ?_ | refine a_region (fun K hK => ?_) | refine a_ret ?_); simp (maxSteps := 2000000) only [Ty.w, simprocAttr, g1, g3, hd, hlA, hlK, k1, k2, q1]) | ((first | refine a_skip ?_ | refine a_exit ?_); (try simp only [pst0, simprocAttr])) | (refine a_cond _ (by (try simp (maxSteps := 2000000) only [Ty.w, simprocAttr, g1, g3, hd, hlA, hlK, k1, k2, q1]); rfl) (fun hb => ?_) (fun hb => ?_) <;> (try simp only [hb0, decide_eq_true_eq, decide_eq_false_iff_not, simprocAttr] at hb) <;> (try (exfalso; omega))) | (with_reducible refine ite_in (fun hb => ?_) (fun hb => ?_) <;> (try simp only [Decidable.not_not] at hb) <;> (try simp only [hb, if_true, if_false, not_false_eq_true, not_true_eq_false, ↓reduceIte]) <;> (try simp only [hb0, decide_eq_true_eq, decide_eq_false_iff_not, simprocAttr] at hb) <;> (try (exfalso; omega))) | ((first | refine hK _ _ ?_ | (clear hK; refine hK _ _ ?_) | (clear hK; clear hK; refine hK _ _ ?_) | (clear hK; clear hK; clear hK; refine hK _ _ ?_)); clear hK; (try simp only [pst0, simprocAttr])) | (rw [if_pos]; rotate_left 1; omega; simp (maxSteps := 2000000) only [Ty.w, simprocAttr, g1, g3, hd, hlA, hlK, k1, k2, q1]))
              refine owp_useQ (hn _) (by (try simp only [Ty.w, simprocAttr, g1, g3, hd, hlA, hlK, k1, k2, q1]); try rfl) ?_; simp (maxSteps := 2000000) only [Ty.w, simprocAttr, g1, g3, hd, hlA, hlK, k1, k2, q1]
              repeat' (first | (refine a_seq (fun K hK => ?_)) | (refine a_block ?_) | ((first | refine a_regionS ?_ | refine a_region (fun K hK => ?_) | refine a_ret ?_); simp (maxSteps := 2000000) only [Ty.w, simprocAttr, g1, g3, hd, hlA, hlK, k1, k2, q1]) | ((first | refine a_skip ?_ | refine a_exit ?_); (try simp only [pst0, simprocAttr])) | (refine a_cond _ (by (try simp (maxSteps := 2000000) only [Ty.w, simprocAttr, g1, g3, hd, hlA, hlK, k1, k2, q1]); rfl) (fun hb => ?_) (fun hb => ?_) <;> (try simp only [hb0, decide_eq_true_eq, decide_eq_false_iff_not, simprocAttr] at hb) <;> (try (exfalso; omega))) | (with_reducible refine ite_in (fun hb => ?_) (fun hb => ?_) <;> (try simp only [Decidable.not_not] at hb) <;> (try simp only [hb, if_true, if_false, not_false_eq_true, not_true_eq_false, ↓reduceIte]) <;> (try simp only [hb0, decide_eq_true_eq, decide_eq_false_iff_not, simprocAttr] at hb) <;> (try (exfalso; omega))) | ((first | refine hK _ _ ?_ | (clear hK; refine hK _ _ ?_) | (clear hK; clear hK; refine hK _ _ ?_) | (clear hK; clear hK; clear hK; refine hK _ _ ?_)); clear hK; (try simp only [pst0, simprocAttr])) | (rw [if_pos]; rotate_left 1; omega; simp (maxSteps := 2000000) only [Ty.w, simprocAttr, g1, g3, hd, hlA, hlK, k1, k2, q1]))
            | true =>
              rw [Bool.true_and] at hF
              generalize args.all termB = ba at hA hF
              cases ba with
              | false =>
                simp only [Bool.false_and] at hF
                subst hF
                repeat' (first | (refine a_seq (fun K hK => ?_)) | (refine a_block ?_) | ((first | refine a_regionS ?_ | refine a_region (fun K hK => ?_) | refine a_ret ?_); simp (maxSteps := 2000000) only [Ty.w, simprocAttr, g1, g3, hd, hlA, hlK, k1, k2, q1]) | ((first | refine a_skip ?_ | refine a_exit ?_); (try simp only [pst0, simprocAttr])) | (refine a_cond _ (by (try simp (maxSteps := 2000000) only [Ty.w, simprocAttr, g1, g3, hd, hlA, hlK, k1, k2, q1]); rfl) (fun hb => ?_) (fun hb => ?_) <;> (try simp only [hb0, decide_eq_true_eq, decide_eq_false_iff_not, simprocAttr] at hb) <;> (try (exfalso; omega))) | (with_reducible refine ite_in (fun hb => ?_) (fun hb => ?_) <;> (try simp only [Decidable.not_not] at hb) <;> (try simp only [hb, if_true, if_false, not_false_eq_true, not_true_eq_false, ↓reduceIte]) <;> (try simp only [hb0, decide_eq_true_eq, decide_eq_false_iff_not, simprocAttr] at hb) <;> (try (exfalso; omega))) | ((first | refine hK _ _ ?_ | (clear hK; refine hK _ _ ?_) | (clear hK; clear hK; refine hK _ _ ?_) | (clear hK; clear hK; clear hK; refine hK _ _ ?_)); clear hK; (try simp only [pst0, simprocAttr])) | (rw [if_pos]; rotate_left 1; omega; simp (maxSteps := 2000000) only [Ty.w, simprocAttr, g1, g3, hd, hlA, hlK, k1, k2, q1]))
                refine owp_useQ (hn _) (by (try simp only [Ty.w, simprocAttr, g1, g3, hd, hlA, hlK, k1, k2, q1]); try rfl) ?_; simp (maxSteps := 2000000) only [Ty.w, simprocAttr, g1, g3, hd, hlA, hlK, k1, k2, q1]
                repeat' (first | (refine a_seq (fun K hK => ?_)) | (refine a_block ?_) | ((first | refine a_regionS ?_ | refine a_region (fun K hK => ?_) | refine a_ret ?_); simp (maxSteps := 2000000) only [Ty.w, simprocAttr, g1, g3, hd, hlA, hlK, k1, k2, q1]) | ((first | refine a_skip ?_ | refine a_exit ?_); (try simp only [pst0, simprocAttr])) | (refine a_cond _ (by (try simp (maxSteps := 2000000) only [Ty.w, simprocAttr, g1, g3, hd, hlA, hlK, k1, k2, q1]); rfl) (fun hb => ?_) (fun hb => ?_) <;> (try simp only [hb0, decide_eq_true_eq, decide_eq_false_iff_not, simprocAttr] at hb) <;> (try (exfalso; omega))) | (with_reducible refine ite_in (fun hb => ?_) (fun hb => ?_) <;> (try simp only [Decidable.not_not] at hb) <;> (try simp only [hb, if_true, if_false, not_false_eq_true, not_true_eq_false, ↓reduceIte]) <;> (try simp only [hb0, decide_eq_true_eq, decide_eq_false_iff_not, simprocAttr] at hb) <;> (try (exfalso; omega))) | ((first | refine hK _ _ ?_ | (clear hK; refine hK _ _ ?_) | (clear hK; clear hK; refine hK _ _ ?_) | (clear hK; clear hK; clear hK; refine hK _ _ ?_)); clear hK; (try simp only [pst0, simprocAttr])) | (rw [if_pos]; rotate_left 1; omega; simp (maxSteps := 2000000) only [Ty.w, simprocAttr, g1, g3, hd, hlA, hlK, k1, k2, q1]))
                refine owp_useQ (hA _) (by (try simp only [Ty.w, simprocAttr, g1, g3, hd, hlA, hlK, k1, k2, q1]); try rfl) ?_; simp (maxSteps := 2000000) only [Ty.w, simprocAttr, g1, g3, hd, hlA, hlK, k1, k2, q1]
                repeat' (first | (refine a_seq (fun K hK => ?_)) | (refine a_block ?_) | ((first | refine a_regionS ?_ | refine a_region (fun K hK => ?_) | refine a_ret ?_); simp (maxSteps := 2000000) only [Ty.w, simprocAttr, g1, g3, hd, hlA, hlK, k1, k2, q1]) | ((first | refine a_skip ?_ | refine a_exit ?_); (try simp only [pst0, simprocAttr])) | (refine a_cond _ (by (try simp (maxSteps := 2000000) only [Ty.w, simprocAttr, g1, g3, hd, hlA, hlK, k1, k2, q1]); rfl) (fun hb => ?_) (fun hb => ?_) <;> (try simp only [hb0, decide_eq_true_eq, decide_eq_false_iff_not, simprocAttr] at hb) <;> (try (exfalso; omega))) | (with_reducible refine ite_in (fun hb => ?_) (fun hb => ?_) <;> (try simp only [Decidable.not_not] at hb) <;> (try simp only [hb, if_true, if_false, not_false_eq_true, not_true_eq_false, ↓reduceIte]) <;> (try simp only [hb0, decide_eq_true_eq, decide_eq_false_iff_not, simprocAttr] at hb) <;> (try (exfalso; omega))) | ((first | refine hK _ _ ?_ | (clear hK; refine hK _ _ ?_) | (clear hK; clear hK; refine hK _ _ ?_) | (clear hK; clear hK; clear hK; refine hK _ _ ?_)); clear hK; (try simp only [pst0, simprocAttr])) | (rw [if_pos]; rotate_left 1; omega; simp (maxSteps := 2000000) only [Ty.w, simprocAttr, g1, g3, hd, hlA, hlK, k1, k2, q1]))
              | true =>
                rw [Bool.true_and] at hF
                subst hF
                repeat' (first | (refine a_seq (fun K hK => ?_)) | (refine a_block ?_) | ((first | refine a_regionS ?_ | refine a_region (fun K hK => ?_) | refine a_ret ?_); simp (maxSteps := 2000000) only [Ty.w, simprocAttr, g1, g3, hd, hlA, hlK, k1, k2, q1]) | ((first | refine a_skip ?_ | refine a_exit ?_); (try simp only [pst0, simprocAttr])) | (refine a_cond _ (by (try simp (maxSteps := 2000000) only [Ty.w, simprocAttr, g1, g3, hd, hlA, hlK, k1, k2, q1]); rfl) (fun hb => ?_) (fun hb => ?_) <;> (try simp only [hb0, decide_eq_true_eq, decide_eq_false_iff_not, simprocAttr] at hb) <;> (try (exfalso; omega))) | (with_reducible refine ite_in (fun hb => ?_) (fun hb => ?_) <;> (try simp only [Decidable.not_not] at hb) <;> (try simp only [hb, if_true, if_false, not_false_eq_true, not_true_eq_false, ↓reduceIte]) <;> (try simp only [hb0, decide_eq_true_eq, decide_eq_false_iff_not, simprocAttr] at hb) <;> (try (exfalso; omega))) | ((first | refine hK _ _ ?_ | (clear hK; refine hK _ _ ?_) | (clear hK; clear hK; refine hK _ _ ?_) | (clear hK; clear hK; clear hK; refine hK _ _ ?_)); clear hK; (try simp only [pst0, simprocAttr])) | (rw [if_pos]; rotate_left 1; omega; simp (maxSteps := 2000000) only [Ty.w, simprocAttr, g1, g3, hd, hlA, hlK, k1, k2, q1]))
                refine owp_useQ (hn _) (by (try simp only [Ty.w, simprocAttr, g1, g3, hd, hlA, hlK, k1, k2, q1]); try rfl) ?_; simp (maxSteps := 2000000) only [Ty.w, simprocAttr, g1, g3, hd, hlA, hlK, k1, k2, q1]
                repeat' (first | (refine a_seq (fun K hK => ?_)) | (refine a_block ?_) | ((first | refine a_regionS ?_ | refine a_region (fun K hK => ?_) | refine a_ret ?_); simp (maxSteps := 2000000) only [Ty.w, simprocAttr, g1, g3, hd, hlA, hlK, k1, k2, q1]) | ((first | refine a_skip ?_ | refine a_exit ?_); (try simp only [pst0, simprocAttr])) | (refine a_cond _ (by (try simp (maxSteps := 2000000) only [Ty.w, simprocAttr, g1, g3, hd, hlA, hlK, k1, k2, q1]); rfl) (fun hb => ?_) (fun hb => ?_) <;> (try simp only [hb0, decide_eq_true_eq, decide_eq_false_iff_not, simprocAttr] at hb) <;> (try (exfalso; omega))) | (with_reducible refine ite_in (fun hb => ?_) (fun hb => ?_) <;> (try simp only [Decidable.not_not] at hb) <;> (try simp only [hb, if_true, if_false, not_false_eq_true, not_true_eq_false, ↓reduceIte]) <;> (try simp only [hb0, decide_eq_true_eq, decide_eq_false_iff_not, simprocAttr] at hb) <;> (try (exfalso; omega))) | ((first | refine hK _ _ ?_ | (clear hK; refine hK _ _ ?_) | (clear hK; clear hK; refine hK _ _ ?_) | (clear hK; clear hK; clear hK; refine hK _ _ ?_)); clear hK; (try simp only [pst0, simprocAttr])) | (rw [if_pos]; rotate_left 1; omega; simp (maxSteps := 2000000) only [Ty.w, simprocAttr, g1, g3, hd, hlA, hlK, k1, k2, q1]))
                refine owp_useQ (hA _) (by (try simp only [Ty.w, simprocAttr, g1, g3, hd, hlA, hlK, k1, k2, q1]); try rfl) ?_; simp (maxSteps := 2000000) only [Ty.w, simprocAttr, g1, g3, hd, hlA, hlK, k1, k2, q1]
                repeat' (first | (refine a_seq (fun K hK => ?_)) | (refine a_block ?_) | ((first | refine a_regionS ?_ | refine a_region (fun K hK => ?_) | refine a_ret ?_); simp (maxSteps := 2000000) only [Ty.w, simprocAttr, g1, g3, hd, hlA, hlK, k1, k2, q1]) | ((first | refine a_skip ?_ | refine a_exit ?_); (try simp only [pst0, simprocAttr])) | (refine a_cond _ (by (try simp (maxSteps := 2000000) only [Ty.w, simprocAttr, g1, g3, hd, hlA, hlK, k1, k2, q1]); rfl) (fun hb => ?_) (fun hb => ?_) <;> (try simp only [hb0, decide_eq_true_eq, decide_eq_false_iff_not, simprocAttr] at hb) <;> (try (exfalso; omega))) | (with_reducible refine ite_in (fun hb => ?_) (fun hb => ?_) <;> (try simp only [Decidable.not_not] at hb) <;> (try simp only [hb, if_true, if_false, not_false_eq_true, not_true_eq_false, ↓reduceIte]) <;> (try simp only [hb0, decide_eq_true_eq, decide_eq_false_iff_not, simprocAttr] at hb) <;> (try (exfalso; omega))) | ((first | refine hK _ _ ?_ | (clear hK; refine hK _ _ ?_) | (clear hK; clear hK; refine hK _ _ ?_) | (clear hK; clear hK; clear hK; refine hK _ _ ?_)); clear hK; (try simp only [pst0, simprocAttr])) | (rw [if_pos]; rotate_left 1; omega; simp (maxSteps := 2000000) only [Ty.w, simprocAttr, g1, g3, hd, hlA, hlK, k1, k2, q1]))
        | false =>
          rw [k2] at hF
          simp only [Bool.false_eq_true, if_false] at hF
          clear hn hA
          cases k3 : (op.data.toList == (#[43] : Array UInt8).toList) with
          | true =>
            rw [k3] at hF
            simp only [Bool.true_or, if_true] at hF
            cases q1 : (v == 0) with
            | false =>
              rw [q1] at hF
              simp only [Bool.false_and] at hF
              subst hF
              repeat' (first | (refine a_seq (fun K hK => ?_)) | (refine a_block ?_) | ((first | refine a_regionS ?_ | refine a_region (fun K hK => ?_) | refine a_ret ?_); simp (maxSteps := 2000000) only [Ty.w, simprocAttr, g1, g3, hd, hlA, hlK, k1, k2, k3, q1]) | ((first | refine a_skip ?_ | refine a_exit ?_); (try simp only [pst0, simprocAttr])) | (refine a_cond _ (by (try simp (maxSteps := 2000000) only [Ty.w, simprocAttr, g1, g3, hd, hlA, hlK, k1, k2, k3, q1]); rfl) (fun hb => ?_) (fun hb => ?_) <;> (try simp only [hb0, decide_eq_true_eq, decide_eq_false_iff_not, simprocAttr] at hb) <;> (try (exfalso; omega))) | (with_reducible refine ite_in (fun hb => ?_) (fun hb => ?_) <;> (try simp only [Decidable.not_not] at hb) <;> (try simp only [hb, if_true, if_false, not_false_eq_true, not_true_eq_false, ↓reduceIte]) <;> (try simp only [hb0, decide_eq_true_eq, decide_eq_false_iff_not, simprocAttr] at hb) <;> (try (exfalso; omega))) | ((first | refine hK _ _ ?_ | (clear hK; refine hK _ _ ?_) | (clear hK; clear hK; refine hK _ _ ?_) | (clear hK; clear hK; clear hK; refine hK _ _ ?_)); clear hK; (try simp only [pst0, simprocAttr])) | (rw [if_pos]; rotate_left 1; omega; simp (maxSteps := 2000000) only [Ty.w, simprocAttr, g1, g3, hd, hlA, hlK, k1, k2, k3, q1]))
            | true =>
              rw [q1, Bool.true_and] at hF
              cases q2 : (name.data.toList == (#[] : Array UInt8).toList) with
              | false =>
                rw [q2] at hF
                simp only [Bool.false_and] at hF
                subst hF
                repeat' (first | (refine a_seq (fun K hK => ?_)) | (refine a_block ?_) | ((first | refine a_regionS ?_ | refine a_region (fun K hK => ?_) | refine a_ret ?_); simp (maxSteps := 2000000) only [Ty.w, simprocAttr, g1, g3, hd, hlA, hlK, k1, k2, k3, q1, q2]) | ((first | refine a_skip ?_ | refine a_exit ?_); (try simp only [pst0, simprocAttr])) | (refine a_cond _ (by (try simp (maxSteps := 2000000) only [Ty.w, simprocAttr, g1, g3, hd, hlA, hlK, k1, k2, k3, q1, q2]); rfl) (fun hb => ?_) (fun hb => ?_) <;> (try simp only [hb0, decide_eq_true_eq, decide_eq_false_iff_not, simprocAttr] at hb) <;> (try (exfalso; omega))) | (with_reducible refine ite_in (fun hb => ?_) (fun hb => ?_) <;> (try simp only [Decidable.not_not] at hb) <;> (try simp only [hb, if_true, if_false, not_false_eq_true, not_true_eq_false, ↓reduceIte]) <;> (try simp only [hb0, decide_eq_true_eq, decide_eq_false_iff_not, simprocAttr] at hb) <;> (try (exfalso; omega))) | ((first | refine hK _ _ ?_ | (clear hK; refine hK _ _ ?_) | (clear hK; clear hK; refine hK _ _ ?_) | (clear hK; clear hK; clear hK; refine hK _ _ ?_)); clear hK; (try simp only [pst0, simprocAttr])) | (rw [if_pos]; rotate_left 1; omega; simp (maxSteps := 2000000) only [Ty.w, simprocAttr, g1, g3, hd, hlA, hlK, k1, k2, k3, q1, q2]))
              | true =>
                rw [q2, Bool.true_and] at hF
                cases q3 : ((args.length : Int) == 0) with
                | false =>
                  rw [q3] at hF
                  simp only [Bool.false_and] at hF
                  subst hF
                  repeat' (first | (refine a_seq (fun K hK => ?_)) | (refine a_block ?_) | ((first | refine a_regionS ?_ | refine a_region (fun K hK => ?_) | refine a_ret ?_); simp (maxSteps := 2000000) only [Ty.w, simprocAttr, g1, g3, hd, hlA, hlK, k1, k2, k3, q1, q2, q3]) | ((first | refine a_skip ?_ | refine a_exit ?_); (try simp only [pst0, simprocAttr])) | (refine a_cond _ (by (try simp (maxSteps := 2000000) only [Ty.w, simprocAttr, g1, g3, hd, hlA, hlK, k1, k2, k3, q1, q2, q3]); rfl) (fun hb => ?_) (fun hb => ?_) <;> (try simp only [hb0, decide_eq_true_eq, decide_eq_false_iff_not, simprocAttr] at hb) <;> (try (exfalso; omega))) | (with_reducible refine ite_in (fun hb => ?_) (fun hb => ?_) <;> (try simp only [Decidable.not_not] at hb) <;> (try simp only [hb, if_true, if_false, not_false_eq_true, not_true_eq_false, ↓reduceIte]) <;> (try simp only [hb0, decide_eq_true_eq, decide_eq_false_iff_not, simprocAttr] at hb) <;> (try (exfalso; omega))) | ((first | refine hK _ _ ?_ | (clear hK; refine hK _ _ ?_) | (clear hK; clear hK; refine hK _ _ ?_) | (clear hK; clear hK; clear hK; refine hK _ _ ?_)); clear hK; (try simp only [pst0, simprocAttr])) | (rw [if_pos]; rotate_left 1; omega; simp (maxSteps := 2000000) only [Ty.w, simprocAttr, g1, g3, hd, hlA, hlK, k1, k2, k3, q1, q2, q3]))
                | true =>
                  rw [q3, Bool.true_and] at hF
                  subst hF
                  repeat' (first | (refine a_seq (fun K hK => ?_)) | (refine a_block ?_) | ((first | refine a_regionS ?_ | refine a_region (fun K hK => ?_) | refine a_ret ?_); simp (maxSteps := 2000000) only [Ty.w, simprocAttr, g1, g3, hd, hlA, hlK, k1, k2, k3, q1, q2, q3]) | ((first | refine a_skip ?_ | refine a_exit ?_); (try simp only [pst0, simprocAttr])) | (refine a_cond _ (by (try simp (maxSteps := 2000000) only [Ty.w, simprocAttr, g1, g3, hd, hlA, hlK, k1, k2, k3, q1, q2, q3]); rfl) (fun hb => ?_) (fun hb => ?_) <;> (try simp only [hb0, decide_eq_true_eq, decide_eq_false_iff_not, simprocAttr] at hb) <;> (try (exfalso; omega))) | (with_reducible refine ite_in (fun hb => ?_) (fun hb => ?_) <;> (try simp only [Decidable.not_not] at hb) <;> (try simp only [hb, if_true, if_false, not_false_eq_true, not_true_eq_false, ↓reduceIte]) <;> (try simp only [hb0, decide_eq_true_eq, decide_eq_false_iff_not, simprocAttr] at hb) <;> (try (exfalso; omega))) | ((first | refine hK _ _ ?_ | (clear hK; refine hK _ _ ?_) | (clear hK; clear hK; refine hK _ _ ?_) | (clear hK; clear hK; clear hK; refine hK _ _ ?_)); clear hK; (try simp only [pst0, simprocAttr])) | (rw [if_pos]; rotate_left 1; omega; simp (maxSteps := 2000000) only [Ty.w, simprocAttr, g1, g3, hd, hlA, hlK, k1, k2, k3, q1, q2, q3]))
          | false =>
            rw [k3] at hF
            simp only [Bool.false_or] at hF
            cases k4 : (op.data.toList == (#[45] : Array UInt8).toList) with
            | true =>
              rw [k4] at hF
              simp only [Bool.true_or, if_true] at hF
              cases q1 : (v == 0) with
              | false =>
                rw [q1] at hF
                simp only [Bool.false_and] at hF
                subst hF
                repeat' (first | (refine a_seq (fun K hK => ?_)) | (refine a_block ?_) | ((first | refine a_regionS ?_ | refine a_region (fun K hK => ?_) | refine a_ret ?_); simp (maxSteps := 2000000) only [Ty.w, simprocAttr, g1, g3, hd, hlA, hlK, k1, k2, k3, k4, q1]) | ((first | refine a_skip ?_ | refine a_exit ?_); (try simp only [pst0, simprocAttr])) | (refine a_cond _ (by (try simp (maxSteps := 2000000) only [Ty.w, simprocAttr, g1, g3, hd, hlA, hlK, k1, k2, k3, k4, q1]); rfl) (fun hb => ?_) (fun hb => ?_) <;> (try simp only [hb0, decide_eq_true_eq, decide_eq_false_iff_not, simprocAttr] at hb) <;> (try (exfalso; omega))) | (with_reducible refine ite_in (fun hb => ?_) (fun hb => ?_) <;> (try simp only [Decidable.not_not] at hb) <;> (try simp only [hb, if_true, if_false, not_false_eq_true, not_true_eq_false, ↓reduceIte]) <;> (try simp only [hb0, decide_eq_true_eq, decide_eq_false_iff_not, simprocAttr] at hb) <;> (try (exfalso; omega))) | ((first | refine hK _ _ ?_ | (clear hK; refine hK _ _ ?_) | (clear hK; clear hK; refine hK _ _ ?_) | (clear hK; clear hK; clear hK; refine hK _ _ ?_)); clear hK; (try simp only [pst0, simprocAttr])) | (rw [if_pos]; rotate_left 1; omega; simp (maxSteps := 2000000) only [Ty.w, simprocAttr, g1, g3, hd, hlA, hlK, k1, k2, k3, k4, q1]))
              | true =>
                rw [q1, Bool.true_and] at hF
                cases q2 : (name.data.toList == (#[] : Array UInt8).toList) with
                | false =>
                  rw [q2] at hF
                  simp only [Bool.false_and] at hF
                  subst hF
                  repeat' (first | (refine a_seq (fun K hK => ?_)) | (refine a_block ?_) | ((first | refine a_regionS ?_ | refine a_region (fun K hK => ?_) | refine a_ret ?_); simp (maxSteps := 2000000) only [Ty.w, simprocAttr, g1, g3, hd, hlA, hlK, k1, k2, k3, k4, q1, q2]) | ((first | refine a_skip ?_ | refine a_exit ?_); (try simp only [pst0, simprocAttr])) | (refine a_cond _ (by (try simp (maxSteps := 2000000) only [Ty.w, simprocAttr, g1, g3, hd, hlA, hlK, k1, k2, k3, k4, q1, q2]); rfl) (fun hb => ?_) (fun hb => ?_) <;> (try simp only [hb0, decide_eq_true_eq, decide_eq_false_iff_not, simprocAttr] at hb) <;> (try (exfalso; omega))) | (with_reducible refine ite_in (fun hb => ?_) (fun hb => ?_) <;> (try simp only [Decidable.not_not] at hb) <;> (try simp only [hb, if_true, if_false, not_false_eq_true, not_true_eq_false, ↓reduceIte]) <;> (try simp only [hb0, decide_eq_true_eq, decide_eq_false_iff_not, simprocAttr] at hb) <;> (try (exfalso; omega))) | ((first | refine hK _ _ ?_ | (clear hK; refine hK _ _ ?_) | (clear hK; clear hK; refine hK _ _ ?_) | (clear hK; clear hK; clear hK; refine hK _ _ ?_)); clear hK; (try simp only [pst0, simprocAttr])) | (rw [if_pos]; rotate_left 1; omega; simp (maxSteps := 2000000) only [Ty.w, simprocAttr, g1, g3, hd, hlA, hlK, k1, k2, k3, k4, q1, q2]))
                | true =>
                  rw [q2, Bool.true_and] at hF
                  cases q3 : ((args.length : Int) == 0) with
                  | false =>
                    rw [q3] at hF
                    simp only [Bool.false_and] at hF
                    subst hF
                    repeat' (first | (refine a_seq (fun K hK => ?_)) | (refine a_block ?_) | ((first | refine a_regionS ?_ | refine a_region (fun K hK => ?_) | refine a_ret ?_); simp (maxSteps := 2000000) only [Ty.w, simprocAttr, g1, g3, hd, hlA, hlK, k1, k2, k3, k4, q1, q2, q3]) | ((first | refine a_skip ?_ | refine a_exit ?_); (try simp only [pst0, simprocAttr])) | (refine a_cond _ (by (try simp (maxSteps := 2000000) only [Ty.w, simprocAttr, g1, g3, hd, hlA, hlK, k1, k2, k3, k4, q1, q2, q3]); rfl) (fun hb => ?_) (fun hb => ?_) <;> (try simp only [hb0, decide_eq_true_eq, decide_eq_false_iff_not, simprocAttr] at hb) <;> (try (exfalso; omega))) | (with_reducible refine ite_in (fun hb => ?_) (fun hb => ?_) <;> (try simp only [Decidable.not_not] at hb) <;> (try simp only [hb, if_true, if_false, not_false_eq_true, not_true_eq_false, ↓reduceIte]) <;> (try simp only [hb0, decide_eq_true_eq, decide_eq_false_iff_not, simprocAttr] at hb) <;> (try (exfalso; omega))) | ((first | refine hK _ _ ?_ | (clear hK; refine hK _ _ ?_) | (clear hK; clear hK; refine hK _ _ ?_) | (clear hK; clear hK; clear hK; refine hK _ _ ?_)); clear hK; (try simp only [pst0, simprocAttr])) | (rw [if_pos]; rotate_left 1; omega; simp (maxSteps := 2000000) only [Ty.w, simprocAttr, g1, g3, hd, hlA, hlK, k1, k2, k3, k4, q1, q2, q3]))
                  | true =>
                    rw [q3, Bool.true_and] at hF
                    subst hF
                    repeat' (first | (refine a_seq (fun K hK => ?_)) | (refine a_block ?_) | ((first | refine a_regionS ?_ | refine a_region (fun K hK => ?_) | refine a_ret ?_); simp (maxSteps := 2000000) only [Ty.w, simprocAttr, g1, g3, hd, hlA, hlK, k1, k2, k3, k4, q1, q2, q3]) | ((first | refine a_skip ?_ | refine a_exit ?_); (try simp only [pst0, simprocAttr])) | (refine a_cond _ (by (try simp (maxSteps := 2000000) only [Ty.w, simprocAttr, g1, g3, hd, hlA, hlK, k1, k2, k3, k4, q1, q2, q3]); rfl) (fun hb => ?_) (fun hb => ?_) <;> (try simp only [hb0, decide_eq_true_eq, decide_eq_false_iff_not, simprocAttr] at hb) <;> (try (exfalso; omega))) | (with_reducible refine ite_in (fun hb => ?_) (fun hb => ?_) <;> (try simp only [Decidable.not_not] at hb) <;> (try simp only [hb, if_true, if_false, not_false_eq_true, not_true_eq_false, ↓reduceIte]) <;> (try simp only [hb0, decide_eq_true_eq, decide_eq_false_iff_not, simprocAttr] at hb) <;> (try (exfalso; omega))) | ((first | refine hK _ _ ?_ | (clear hK; refine hK _ _ ?_) | (clear hK; clear hK; refine hK _ _ ?_) | (clear hK; clear hK; clear hK; refine hK _ _ ?_)); clear hK; (try simp only [pst0, simprocAttr])) | (rw [if_pos]; rotate_left 1; omega; simp (maxSteps := 2000000) only [Ty.w, simprocAttr, g1, g3, hd, hlA, hlK, k1, k2, k3, k4, q1, q2, q3]))
            | false =>
              rw [k4] at hF
              simp only [Bool.false_or] at hF
              cases k5 : (op.data.toList == (#[42] : Array UInt8).toList) with
              | true =>
                rw [k5] at hF
                simp only [if_true] at hF
                cases q1 : (v == 0) with
                | false =>
                  rw [q1] at hF
                  simp only [Bool.false_and] at hF
                  subst hF
                  repeat' (first | (refine a_seq (fun K hK => ?_)) | (refine a_block ?_) | ((first | refine a_regionS ?_ | refine a_region (fun K hK => ?_) | refine a_ret ?_); simp (maxSteps := 2000000) only [Ty.w, simprocAttr, g1, g3, hd, hlA, hlK, k1, k2, k3, k4, k5, q1]) | ((first | refine a_skip ?_ | refine a_exit ?_); (try simp only [pst0, simprocAttr])) | (refine a_cond _ (by (try simp (maxSteps := 2000000) only [Ty.w, simprocAttr, g1, g3, hd, hlA, hlK, k1, k2, k3, k4, k5, q1]); rfl) (fun hb => ?_) (fun hb => ?_) <;> (try simp only [hb0, decide_eq_true_eq, decide_eq_false_iff_not, simprocAttr] at hb) <;> (try (exfalso; omega))) | (with_reducible refine ite_in (fun hb => ?_) (fun hb => ?_) <;> (try simp only [Decidable.not_not] at hb) <;> (try simp only [hb, if_true, if_false, not_false_eq_true, not_true_eq_false, ↓reduceIte]) <;> (try simp only [hb0, decide_eq_true_eq, decide_eq_false_iff_not, simprocAttr] at hb) <;> (try (exfalso; omega))) | ((first | refine hK _ _ ?_ | (clear hK; refine hK _ _ ?_) | (clear hK; clear hK; refine hK _ _ ?_) | (clear hK; clear hK; clear hK; refine hK _ _ ?_)); clear hK; (try simp only [pst0, simprocAttr])) | (rw [if_pos]; rotate_left 1; omega; simp (maxSteps := 2000000) only [Ty.w, simprocAttr, g1, g3, hd, hlA, hlK, k1, k2, k3, k4, k5, q1]))
                | true =>
                  rw [q1, Bool.true_and] at hF
                  cases q2 : (name.data.toList == (#[] : Array UInt8).toList) with
                  | false =>
                    rw [q2] at hF
                    simp only [Bool.false_and] at hF
                    subst hF
                    repeat' (first | (refine a_seq (fun K hK => ?_)) | (refine a_block ?_) | ((first | refine a_regionS ?_ | refine a_region (fun K hK => ?_) | refine a_ret ?_); simp (maxSteps := 2000000) only [Ty.w, simprocAttr, g1, g3, hd, hlA, hlK, k1, k2, k3, k4, k5, q1, q2]) | ((first | refine a_skip ?_ | refine a_exit ?_); (try simp only [pst0, simprocAttr])) | (refine a_cond _ (by (try simp (maxSteps := 2000000) only [Ty.w, simprocAttr, g1, g3, hd, hlA, hlK, k1, k2, k3, k4, k5, q1, q2]); rfl) (fun hb => ?_) (fun hb => ?_) <;> (try simp only [hb0, decide_eq_true_eq, decide_eq_false_iff_not, simprocAttr] at hb) <;> (try (exfalso; omega))) | (with_reducible refine ite_in (fun hb => ?_) (fun hb => ?_) <;> (try simp only [Decidable.not_not] at hb) <;> (try simp only [hb, if_true, if_false, not_false_eq_true, not_true_eq_false, ↓reduceIte]) <;> (try simp only [hb0, decide_eq_true_eq, decide_eq_false_iff_not, simprocAttr] at hb) <;> (try (exfalso; omega))) | ((first | refine hK _ _ ?_ | (clear hK; refine hK _ _ ?_) | (clear hK; clear hK; refine hK _ _ ?_) | (clear hK; clear hK; clear hK; refine hK _ _ ?_)); clear hK; (try simp only [pst0, simprocAttr])) | (rw [if_pos]; rotate_left 1; omega; simp (maxSteps := 2000000) only [Ty.w, simprocAttr, g1, g3, hd, hlA, hlK, k1, k2, k3, k4, k5, q1, q2]))
                  | true =>
                    rw [q2, Bool.true_and] at hF
                    cases q3 : ((args.length : Int) == 0) with
                    | false =>
                      rw [q3] at hF
                      simp only [Bool.false_and] at hF
                      subst hF
                      repeat' (first | (refine a_seq (fun K hK => ?_)) | (refine a_block ?_) | ((first | refine a_regionS ?_ | refine a_region (fun K hK => ?_) | refine a_ret ?_); simp (maxSteps := 2000000) only [Ty.w, simprocAttr, g1, g3, hd, hlA, hlK, k1, k2, k3, k4, k5, q1, q2, q3]) | ((first | refine a_skip ?_ | refine a_exit ?_); (try simp only [pst0, simprocAttr])) | (refine a_cond _ (by (try simp (maxSteps := 2000000) only [Ty.w, simprocAttr, g1, g3, hd, hlA, hlK, k1, k2, k3, k4, k5, q1, q2, q3]); rfl) (fun hb => ?_) (fun hb => ?_) <;> (try simp only [hb0, decide_eq_true_eq, decide_eq_false_iff_not, simprocAttr] at hb) <;> (try (exfalso; omega))) | (with_reducible refine ite_in (fun hb => ?_) (fun hb => ?_) <;> (try simp only [Decidable.not_not] at hb) <;> (try simp only [hb, if_true, if_false, not_false_eq_true, not_true_eq_false, ↓reduceIte]) <;> (try simp only [hb0, decide_eq_true_eq, decide_eq_false_iff_not, simprocAttr] at hb) <;> (try (exfalso; omega))) | ((first | refine hK _ _ ?_ | (clear hK; refine hK _ _ ?_) | (clear hK; clear hK; refine hK _ _ ?_) | (clear hK; clear hK; clear hK; refine hK _ _ ?_)); clear hK; (try simp only [pst0, simprocAttr])) | (rw [if_pos]; rotate_left 1; omega; simp (maxSteps := 2000000) only [Ty.w, simprocAttr, g1, g3, hd, hlA, hlK, k1, k2, k3, k4, k5, q1, q2, q3]))
                    | true =>
                      rw [q3, Bool.true_and] at hF
                      subst hF
                      repeat' (first | (refine a_seq (fun K hK => ?_)) | (refine a_block ?_) | ((first | refine a_regionS ?_ | refine a_region (fun K hK => ?_) | refine a_ret ?_); simp (maxSteps := 2000000) only [Ty.w, simprocAttr, g1, g3, hd, hlA, hlK, k1, k2, k3, k4, k5, q1, q2, q3]) | ((first | refine a_skip ?_ | refine a_exit ?_); (try simp only [pst0, simprocAttr])) | (refine a_cond _ (by (try simp (maxSteps := 2000000) only [Ty.w, simprocAttr, g1, g3, hd, hlA, hlK, k1, k2, k3, k4, k5, q1, q2, q3]); rfl) (fun hb => ?_) (fun hb => ?_) <;> (try simp only [hb0, decide_eq_true_eq, decide_eq_false_iff_not, simprocAttr] at hb) <;> (try (exfalso; omega))) | (with_reducible refine ite_in (fun hb => ?_) (fun hb => ?_) <;> (try simp only [Decidable.not_not] at hb) <;> (try simp only [hb, if_true, if_false, not_false_eq_true, not_true_eq_false, ↓reduceIte]) <;> (try simp only [hb0, decide_eq_true_eq, decide_eq_false_iff_not, simprocAttr] at hb) <;> (try (exfalso; omega))) | ((first | refine hK _ _ ?_ | (clear hK; refine hK _ _ ?_) | (clear hK; clear hK; refine hK _ _ ?_) | (clear hK; clear hK; clear hK; refine hK _ _ ?_)); clear hK; (try simp only [pst0, simprocAttr])) | (rw [if_pos]; rotate_left 1; omega; simp (maxSteps := 2000000) only [Ty.w, simprocAttr, g1, g3, hd, hlA, hlK, k1, k2, k3, k4, k5, q1, q2, q3]))
              | false =>
                rw [k5] at hF
                simp only [Bool.false_eq_true, if_false] at hF
                subst hF
                repeat' (first | (refine a_seq (fun K hK => ?_)) | (refine a_block ?_) | ((first | refine a_regionS ?_ | refine a_region (fun K hK => ?_) | refine a_ret ?_); simp (maxSteps := 2000000) only [Ty.w, simprocAttr, g1, g3, hd, hlA, hlK, k1, k2, k3, k4, k5]) | ((first | refine a_skip ?_ | refine a_exit ?_); (try simp only [pst0, simprocAttr])) | (refine a_cond _ (by (try simp (maxSteps := 2000000) only [Ty.w, simprocAttr, g1, g3, hd, hlA, hlK, k1, k2, k3, k4, k5]); rfl) (fun hb => ?_) (fun hb => ?_) <;> (try simp only [hb0, decide_eq_true_eq, decide_eq_false_iff_not, simprocAttr] at hb) <;> (try (exfalso; omega))) | (with_reducible refine ite_in (fun hb => ?_) (fun hb => ?_) <;> (try simp only [Decidable.not_not] at hb) <;> (try simp only [hb, if_true, if_false, not_false_eq_true, not_true_eq_false, ↓reduceIte]) <;> (try simp only [hb0, decide_eq_true_eq, decide_eq_false_iff_not, simprocAttr] at hb) <;> (try (exfalso; omega))) | ((first | refine hK _ _ ?_ | (clear hK; refine hK _ _ ?_) | (clear hK; clear hK; refine hK _ _ ?_) | (clear hK; clear hK; clear hK; refine hK _ _ ?_)); clear hK; (try simp only [pst0, simprocAttr])) | (rw [if_pos]; rotate_left 1; omega; simp (maxSteps := 2000000) only [Ty.w, simprocAttr, g1, g3, hd, hlA, hlK, k1, k2, k3, k4, k5]))
theorem rvalidE_c {e : Ex} (hok : e.ok) (hsm : e.small) (hd : (exW e).depth ≤ bigN) (h : Heap) : PCall Try.prog 41 [.agg e.cells] h fun r h' => r = .sc (.bool (shapedE e && rvalidB (exW e))) ∧ h' = h := by
  have hs := rshapedE_c e hok
  have hx := exW_ok e hok hsm
  cases hb : shapedE e with
  | false =>
    rw [hb] at hs
    obtain ⟨op, name, n, args, kids⟩ := e
    simp only [Ex.cells] at hs ⊢
    refine pcall_body (ow := fun _ => false) (wf := fun _ => false) Ty.mixed Try.func41 rfl Ty.hb_41 (by rw [Try.ntmps41]; simp) ?_
    rw [Try.ntmps41, Try.results41]
    repeat' (first | (refine a_seq (fun K hK => ?_)) | (refine a_block ?_) | ((first | refine a_regionS ?_ | refine a_region (fun K hK => ?_) | refine a_ret ?_); simp (maxSteps := 2000000) only [Ty.w, simprocAttr]) | ((first | refine a_skip ?_ | refine a_exit ?_); (try simp only [pst0, simprocAttr])) | (refine a_cond _ (by (try simp (maxSteps := 2000000) only [Ty.w, simprocAttr]); rfl) (fun hb => ?_) (fun hb => ?_) <;> (try simp only [hb0, decide_eq_true_eq, decide_eq_false_iff_not, simprocAttr] at hb) <;> (try (exfalso; omega))) | (with_reducible refine ite_in (fun hb => ?_) (fun hb => ?_) <;> (try simp only [Decidable.not_not] at hb) <;> (try simp only [hb, if_true, if_false, not_false_eq_true, not_true_eq_false, ↓reduceIte]) <;> (try simp only [hb0, decide_eq_true_eq, decide_eq_false_iff_not, simprocAttr] at hb) <;> (try (exfalso; omega))) | ((first | refine hK _ _ ?_ | (clear hK; refine hK _ _ ?_) | (clear hK; clear hK; refine hK _ _ ?_) | (clear hK; clear hK; clear hK; refine hK _ _ ?_)); clear hK; (try simp only [pst0, simprocAttr])) | (rw [if_pos]; rotate_left 1; omega; simp (maxSteps := 2000000) only [Ty.w, simprocAttr]))
    refine owp_useQ (hs _) (by (try simp only [Ty.w, simprocAttr, ]); try rfl) ?_; simp (maxSteps := 2000000) only [Ty.w, simprocAttr, ]
    repeat' (first | (refine a_seq (fun K hK => ?_)) | (refine a_block ?_) | ((first | refine a_regionS ?_ | refine a_region (fun K hK => ?_) | refine a_ret ?_); simp (maxSteps := 2000000) only [Ty.w, simprocAttr]) | ((first | refine a_skip ?_ | refine a_exit ?_); (try simp only [pst0, simprocAttr])) | (refine a_cond _ (by (try simp (maxSteps := 2000000) only [Ty.w, simprocAttr]); rfl) (fun hb => ?_) (fun hb => ?_) <;> (try simp only [hb0, decide_eq_true_eq, decide_eq_false_iff_not, simprocAttr] at hb) <;> (try (exfalso; omega))) | (with_reducible refine ite_in (fun hb => ?_) (fun hb => ?_) <;> (try simp only [Decidable.not_not] at hb) <;> (try simp only [hb, if_true, if_false, not_false_eq_true, not_true_eq_false, ↓reduceIte]) <;> (try simp only [hb0, decide_eq_true_eq, decide_eq_false_iff_not, simprocAttr] at hb) <;> (try (exfalso; omega))) | ((first | refine hK _ _ ?_ | (clear hK; refine hK _ _ ?_) | (clear hK; clear hK; refine hK _ _ ?_) | (clear hK; clear hK; clear hK; refine hK _ _ ?_)); clear hK; (try simp only [pst0, simprocAttr])) | (rw [if_pos]; rotate_left 1; omega; simp (maxSteps := 2000000) only [Ty.w, simprocAttr]))
    all_goals rfl
  | true =>
    rw [hb] at hs
    have hw := rwriteE_c e hsm hb
    have hv := rvalid_c hx hd
    have hq : rvalidB (exW e) = (shapedS (exW e) && decide (((exW e).depth : Int) ≤ 32) && decide ((exW e).count ≤ 4096)) := rfl
    rw [← hq] at hv
    clear hq
    generalize rvalidB (exW e) = bb at hv ⊢
    generalize exW e = X at hw hv
    obtain ⟨op, name, n, args, kids⟩ := e
    obtain ⟨ki, va, li, co, te, ks⟩ := X
    simp only [Ex.cells, Sx.cells, Bool.true_and] at hs hw hv ⊢
    refine pcall_body (ow := fun _ => false) (wf := fun _ => false) Ty.mixed Try.func41 rfl Ty.hb_41 (by rw [Try.ntmps41]; simp) ?_
    rw [Try.ntmps41, Try.results41]
    repeat' (first | (refine a_seq (fun K hK => ?_)) | (refine a_block ?_) | ((first | refine a_regionS ?_ | refine a_region (fun K hK => ?_) | refine a_ret ?_); simp (maxSteps := 2000000) only [Ty.w, simprocAttr]) | ((first | refine a_skip ?_ | refine a_exit ?_); (try simp only [pst0, simprocAttr])) | (refine a_cond _ (by (try simp (maxSteps := 2000000) only [Ty.w, simprocAttr]); rfl) (fun hb => ?_) (fun hb => ?_) <;> (try simp only [hb0, decide_eq_true_eq, decide_eq_false_iff_not, simprocAttr] at hb) <;> (try (exfalso; omega))) | (with_reducible refine ite_in (fun hb => ?_) (fun hb => ?_) <;> (try simp only [Decidable.not_not] at hb) <;> (try simp only [hb, if_true, if_false, not_false_eq_true, not_true_eq_false, ↓reduceIte]) <;> (try simp only [hb0, decide_eq_true_eq, decide_eq_false_iff_not, simprocAttr] at hb) <;> (try (exfalso; omega))) | ((first | refine hK _ _ ?_ | (clear hK; refine hK _ _ ?_) | (clear hK; clear hK; refine hK _ _ ?_) | (clear hK; clear hK; clear hK; refine hK _ _ ?_)); clear hK; (try simp only [pst0, simprocAttr])) | (rw [if_pos]; rotate_left 1; omega; simp (maxSteps := 2000000) only [Ty.w, simprocAttr]))
    refine owp_useQ (hs _) (by (try simp only [Ty.w, simprocAttr, ]); try rfl) ?_; simp (maxSteps := 2000000) only [Ty.w, simprocAttr, ]
    repeat' (first | (refine a_seq (fun K hK => ?_)) | (refine a_block ?_) | ((first | refine a_regionS ?_ | refine a_region (fun K hK => ?_) | refine a_ret ?_); simp (maxSteps := 2000000) only [Ty.w, simprocAttr]) | ((first | refine a_skip ?_ | refine a_exit ?_); (try simp only [pst0, simprocAttr])) | (refine a_cond _ (by (try simp (maxSteps := 2000000) only [Ty.w, simprocAttr]); rfl) (fun hb => ?_) (fun hb => ?_) <;> (try simp only [hb0, decide_eq_true_eq, decide_eq_false_iff_not, simprocAttr] at hb) <;> (try (exfalso; omega))) | (with_reducible refine ite_in (fun hb => ?_) (fun hb => ?_) <;> (try simp only [Decidable.not_not] at hb) <;> (try simp only [hb, if_true, if_false, not_false_eq_true, not_true_eq_false, ↓reduceIte]) <;> (try simp only [hb0, decide_eq_true_eq, decide_eq_false_iff_not, simprocAttr] at hb) <;> (try (exfalso; omega))) | ((first | refine hK _ _ ?_ | (clear hK; refine hK _ _ ?_) | (clear hK; clear hK; refine hK _ _ ?_) | (clear hK; clear hK; clear hK; refine hK _ _ ?_)); clear hK; (try simp only [pst0, simprocAttr])) | (rw [if_pos]; rotate_left 1; omega; simp (maxSteps := 2000000) only [Ty.w, simprocAttr]))
    refine owp_useQ (hw _) (by (try simp only [Ty.w, simprocAttr, ]); try rfl) ?_; simp (maxSteps := 2000000) only [Ty.w, simprocAttr, ]
    repeat' (first | (refine a_seq (fun K hK => ?_)) | (refine a_block ?_) | ((first | refine a_regionS ?_ | refine a_region (fun K hK => ?_) | refine a_ret ?_); simp (maxSteps := 2000000) only [Ty.w, simprocAttr]) | ((first | refine a_skip ?_ | refine a_exit ?_); (try simp only [pst0, simprocAttr])) | (refine a_cond _ (by (try simp (maxSteps := 2000000) only [Ty.w, simprocAttr]); rfl) (fun hb => ?_) (fun hb => ?_) <;> (try simp only [hb0, decide_eq_true_eq, decide_eq_false_iff_not, simprocAttr] at hb) <;> (try (exfalso; omega))) | (with_reducible refine ite_in (fun hb => ?_) (fun hb => ?_) <;> (try simp only [Decidable.not_not] at hb) <;> (try simp only [hb, if_true, if_false, not_false_eq_true, not_true_eq_false, ↓reduceIte]) <;> (try simp only [hb0, decide_eq_true_eq, decide_eq_false_iff_not, simprocAttr] at hb) <;> (try (exfalso; omega))) | ((first | refine hK _ _ ?_ | (clear hK; refine hK _ _ ?_) | (clear hK; clear hK; refine hK _ _ ?_) | (clear hK; clear hK; clear hK; refine hK _ _ ?_)); clear hK; (try simp only [pst0, simprocAttr])) | (rw [if_pos]; rotate_left 1; omega; simp (maxSteps := 2000000) only [Ty.w, simprocAttr]))
    refine owp_useQ (hv _) (by (try simp only [Ty.w, simprocAttr, ]); try rfl) ?_; simp (maxSteps := 2000000) only [Ty.w, simprocAttr, ]
    repeat' (first | (refine a_seq (fun K hK => ?_)) | (refine a_block ?_) | ((first | refine a_regionS ?_ | refine a_region (fun K hK => ?_) | refine a_ret ?_); simp (maxSteps := 2000000) only [Ty.w, simprocAttr]) | ((first | refine a_skip ?_ | refine a_exit ?_); (try simp only [pst0, simprocAttr])) | (refine a_cond _ (by (try simp (maxSteps := 2000000) only [Ty.w, simprocAttr]); rfl) (fun hb => ?_) (fun hb => ?_) <;> (try simp only [hb0, decide_eq_true_eq, decide_eq_false_iff_not, simprocAttr] at hb) <;> (try (exfalso; omega))) | (with_reducible refine ite_in (fun hb => ?_) (fun hb => ?_) <;> (try simp only [Decidable.not_not] at hb) <;> (try simp only [hb, if_true, if_false, not_false_eq_true, not_true_eq_false, ↓reduceIte]) <;> (try simp only [hb0, decide_eq_true_eq, decide_eq_false_iff_not, simprocAttr] at hb) <;> (try (exfalso; omega))) | ((first | refine hK _ _ ?_ | (clear hK; refine hK _ _ ?_) | (clear hK; clear hK; refine hK _ _ ?_) | (clear hK; clear hK; clear hK; refine hK _ _ ?_)); clear hK; (try simp only [pst0, simprocAttr])) | (rw [if_pos]; rotate_left 1; omega; simp (maxSteps := 2000000) only [Ty.w, simprocAttr]))
end Go.Proofs.Ytjlkapgpjamnkaa
namespace Go.Proofs.Ytjlkapgpjamnkaa
open Go.AM
theorem list_nodes (l : List Sx) : (listM l).nodes = Sx.nodess l + 1 := by simp only [listM, Sx.nodes]
theorem word_nodes (s : ByteArray) : (wordM s).nodes = 1 := by simp [wordM, Sx.nodes, Sx.nodess]
theorem formed_of : ∀ (e : Ex), shapedE e = true → ∀ (d n : Nat), d + (exW e).depth ≤ 32 → n + (exW e).nodes ≤ 4096 → (formedM e d n).1 = true ∧ (formedM e d n).2 ≤ n + (exW e).nodes := by
  refine Ex.ind ?_
  intro op name v args kids ih hs d n hd hn
  unfold shapedE at hs
  unfold exW at hd hn ⊢
  unfold formedM
  cases c1 : bEq op opNum with
  | true =>
    rw [c1] at hs hd hn
    simp only [if_true] at hs hd hn ⊢
    simp only [Sx.nodes, Sx.nodess] at hn ⊢
    rw [if_pos ⟨by omega, by omega⟩]
    exact ⟨hs, by simp only; omega⟩
  | false =>
    rw [c1] at hs hd hn
    simp only [Bool.false_eq_true, if_false] at hs hd hn ⊢
    cases c2 : bEq op opFlu with
    | true =>
      rw [c2] at hs hd hn
      simp only [if_true] at hs hd hn ⊢
      simp only [wordsM, listM, Sx.nodes] at hn ⊢
      rw [if_pos ⟨by omega, by omega⟩]
      exact ⟨hs, by simp only; omega⟩
    | false =>
      rw [c2] at hs hd hn
      simp only [Bool.false_eq_true, if_false] at hs hd hn ⊢
      split at hs
      case isFalse => simp at hs
      rename_i hop
      rw [if_pos hop]
      rw [Bool.and_eq_true] at hs
      obtain ⟨h1, h2⟩ := hs
      rw [h1]
      simp only [if_true]
      split at h2
      case h_2 => simp at h2
      rename_i a b
      simp only [Bool.and_eq_true] at h2
      simp only [listM, Sx.depth, Sx.depths, Sx.nodes, Sx.nodess, wordM, if_true] at hd hn ⊢
      have k1 : ¬ ((1 : Int) = 3) := by omega
      rw [if_neg k1] at hd
      rw [if_pos ⟨by omega, by omega⟩]
      obtain ⟨f1, f2⟩ := ih a (by simp) h2.1 (d + 1) (n + 1) (by omega) (by omega)
      cases hw : formedM a (d + 1) (n + 1) with
      | mk x c =>
        rw [hw] at f1 f2
        simp only at f1 f2
        subst f1
        simp only
        obtain ⟨g1, g2⟩ := ih b (by simp) h2.2 (d + 1) c (by omega) (by omega)
        exact ⟨g1, by omega⟩
theorem validE_same {e : Ex} (hn : (exW e).nodes ≤ bigN) : validE e = (shapedE e && rvalidB (exW e)) := by
  unfold validE
  rw [valid_same hn]
  cases hs : shapedE e with
  | false =>
    have : (formedM e 0 0).1 = false := by
      cases h : (formedM e 0 0).1 with
      | false => rfl
      | true => rw [formedM_shaped e 0 0 h] at hs; simp at hs
    simp only [this, Bool.false_and]
  | true =>
    cases hv : rvalidB (exW e) with
    | false => simp
    | true =>
      have h1 := (svalid_iff (exW e) 0 0 (by omega) (by omega)).1.1 (by rw [valid_same hn]; exact hv)
      rw [(formed_of e hs 0 0 h1.2.1 h1.2.2).1]
end Go.Proofs.Ytjlkapgpjamnkaa
namespace Go.AM
open Go.ChangeShapes Go.WideShapes
/-- the parts of a struct or an array: where each begins, and its type -/
def partsT (P : Program) (t : TypeId) : List (Nat × TypeId) := match P.underlying t with
  | some (.struct fs) => fs.toList.map fun f => (f.offset, f.type)
  | some (.array n e) => (List.range n).map fun i => (i * P.cellsOf e, e)
  | _ => []
/-- do the parts lie one behind the other, from o on to e? -/
def inRow (P : Program) (e : Nat) : Nat → List (Nat × TypeId) → Bool
  | o, [] => o == e
  | o, p :: l => p.1 == o && inRow P e (o + P.cellsOf p.2) l
/-- is the type made of bools, integers, strings, slices, structs and arrays? -/
def covB (P : Program) : Nat → TypeId → Bool
  | 0, _ => false
  | f + 1, t => match P.underlying t with
    | some .bool => true
    | some (.int _) => true
    | some .string => true
    | some (.slice e) => decide (0 < P.cellsOf e) && covB P f e
    | some (.struct _) => inRow P (P.cellsOf t) 0 (partsT P t) && (partsT P t).all fun p => covB P f p.2
    | some (.array _ _) => inRow P (P.cellsOf t) 0 (partsT P t) && (partsT P t).all fun p => covB P f p.2
    | _ => false
/-- the cells of a value of a type that came in -/
def Arg (P : Program) : Nat → TypeId → List PV → Prop
  | 0, _, _ => False
  | f + 1, t, ps => match P.underlying t with
    | some .bool => ∃ b, ps = [.sc (.bool b)]
    | some (.int k) => ∃ n, (Lit.int k n).wf = true ∧ ps = [.sc (.int k n)]
    | some .string => ∃ s : ByteArray, s.size ≤ reachBytes ∧ ps = [.sc (.string s)]
    | some (.slice e) => ∃ rows, ps = [.imm (P.cellsOf e) rows] ∧ rows.length * P.bytesOf e ≤ reachBytes ∧ rows.length ≤ maxLen ∧ ∀ r ∈ rows, r.length = P.cellsOf e ∧ Arg P f e r
    | some (.struct _) => ps.length = P.cellsOf t ∧ ∀ p ∈ partsT P t, Arg P f p.2 ((ps.drop p.1).take (P.cellsOf p.2))
    | some (.array _ _) => ps.length = P.cellsOf t ∧ ∀ p ∈ partsT P t, Arg P f p.2 ((ps.drop p.1).take (P.cellsOf p.2))
    | _ => False
section
variable {H : Type} {enc : TypeId × Value → H} {P : Program} {w : World} {sp : Nat → Bool} {held : Bool}
/-- the cells cs stand for ps, in any heap -/
def RA (w : World) (ps : List PV) (cs : List Value) : Prop := (∀ v ∈ cs, v.oneCell' = true) ∧ ∀ β n, RepL β n (fun b => b < w.heap.size) w ps cs
theorem RA.len {ps : List PV} {cs : List Value} (h : RA w ps cs) : ps.length = cs.length := (h.2 ⟨fun _ => ⟨none, 0, 0, 0⟩, fun _ => False⟩ 0).len
theorem RA.append {ps ps' : List PV} {cs cs' : List Value} (h : RA w ps cs) (k : RA w ps' cs') : RA w (ps ++ ps') (cs ++ cs') :=
  ⟨fun v hv => by exact (List.mem_append.1 hv).elim (h.1 v) (k.1 v), fun β n => (h.2 β n).append (k.2 β n)⟩
theorem inRow_le {e : Nat} : (l : List (Nat × TypeId)) → (o : Nat) → inRow P e o l = true → o ≤ e ∧ ∀ p ∈ l, o ≤ p.1 ∧ p.1 + P.cellsOf p.2 ≤ e
  | [], o, h => by simp [inRow] at h; simp [h]
  | p :: l, o, h => by
    simp only [inRow, Bool.and_eq_true, beq_iff_eq] at h
    obtain ⟨h1, h2⟩ := inRow_le l _ h.2
    refine ⟨by omega, fun q hq => ?_⟩
    rcases List.mem_cons.1 hq with rfl | hq
    · omega
    · have := h2 q hq; omega
theorem exists_list {α : Type} {R : Nat → α → Prop} : (n : Nat) → (∀ i, i < n → ∃ x, R i x) → ∃ l : List α, l.length = n ∧ ∀ i x, l[i]? = some x → R i x
  | 0, _ => ⟨[], rfl, by simp⟩
  | n + 1, h => by
    obtain ⟨l, h1, h2⟩ := exists_list n (fun i hi => h i (by omega))
    obtain ⟨x, hx⟩ := h n (by omega)
    refine ⟨l ++ [x], by simp [h1], fun i y hy => ?_⟩
    rw [List.getElem?_append] at hy
    split at hy
    · exact h2 i y hy
    · rename_i hi
      have : i = n := by
        have := (List.getElem?_eq_some_iff.1 hy).1
        simp at this; omega
      subst this
      rw [h1] at hy
      simp at hy
      subst hy; exact hx
theorem weightsAll_mem {e : TypeId} {n : Nat} : {ds : List (DataW H)} → {i : Nat} → {d : DataW H} → ds[i]? = some d → n ∈ d.weights P e → n ∈ DataW.weightsAll P e ds
  | [], _, _, h, _ => by simp at h
  | d0 :: ds, 0, d, h, hn => by
    simp at h; subst h
    simp only [DataW.weightsAll, List.mem_append]; exact .inl hn
  | d0 :: ds, i + 1, d, h, hn => by
    simp at h
    simp only [DataW.weightsAll, List.mem_append]; exact .inr (weightsAll_mem h hn)
theorem sc_RA {v : Value} (h : v.oneCell' = true) : RA w [.sc v] [v] :=
  ⟨fun u hu => by simp at hu; subst hu; exact h, fun β n => by simp only [RepL, Rep]; exact ⟨trivial, trivial⟩⟩
end
end Go.AM
namespace Go.AM
open Go.ChangeShapes Go.WideShapes
section
variable {H : Type} {enc : TypeId × Value → H} {P : Program} {w : World} {sp : Nat → Bool} {held : Bool}
/-- are the types made of bools, integers, strings, slices, structs and arrays of them? -/
def covC (P : Program) (Ts : List TypeId) : Bool := Ts.all fun t => match P.underlying t with
  | some .bool => true
  | some (.int _) => true
  | some .string => true
  | some (.slice e) => decide (0 < P.cellsOf e) && Ts.contains e
  | some (.struct _) => inRow P (P.cellsOf t) 0 (partsT P t) && (partsT P t).all fun p => Ts.contains p.2
  | some (.array _ _) => inRow P (P.cellsOf t) 0 (partsT P t) && (partsT P t).all fun p => Ts.contains p.2
  | _ => false
end
end Go.AM
namespace Go.AM
open Go.ChangeShapes Go.WideShapes
open Go.Proofs.Ytjlkapgpjamnkaa
mutual
/-- how many values and letters a value holds -/
def PV.bulk : PV → Nat
  | .sc (.string s) => s.size + 1
  | .imm _ rows => PV.bulkR rows + 1
  | _ => 1
def PV.bulkL : List PV → Nat
  | [] => 0
  | p :: ps => p.bulk + PV.bulkL ps
def PV.bulkR : List (List PV) → Nat
  | [] => 0
  | r :: rs => PV.bulkL r + PV.bulkR rs
end
theorem PV.bulkL_append : ∀ l m : List PV, PV.bulkL (l ++ m) = PV.bulkL l + PV.bulkL m
  | [], m => by simp [PV.bulkL]
  | p :: l, m => by simp only [List.cons_append, PV.bulkL, PV.bulkL_append l m]; omega
theorem List.getElem?_range_some {k i j : Nat} (h : (List.range k)[i]? = some j) : i < k ∧ i = j := by
  have h1 := (List.getElem?_eq_some_iff.1 h).1
  simp at h1
  rw [List.getElem?_range h1] at h
  simp at h
  exact ⟨h1, h⟩
section
variable {H : Type} {enc : TypeId × Value → H} {P : Program} {w : World} {sp : Nat → Bool} {held : Bool}
theorem bulkR_le : ∀ (rows : List (List PV)) (ds : List (DataW H)), rows.length = ds.length → (∀ (i : Nat) (r : List PV), rows[i]? = some r → ∃ d, ds[i]? = some d ∧ PV.bulkL r ≤ Rows.uptoBulk d) → PV.bulkR rows ≤ Rows.uptoBulkAll ds
  | [], _, _, _ => by simp [PV.bulkR]
  | r :: rows, [], h, _ => by simp at h
  | r :: rows, d :: ds, h, hb => by
    have h1 := bulkR_le rows ds (by simpa using h) fun i q hq => by simpa using hb (i + 1) q (by simpa using hq)
    obtain ⟨d', h2, h3⟩ := hb 0 r rfl
    simp at h2; subst h2
    simp only [PV.bulkR, Rows.uptoBulkAll]; omega
theorem parts_rep5 {c : Nat} {cs : List Value} : (l : List (Nat × TypeId)) → (ds : List (DataW H)) → (o : Nat) → inRow P cs.length o l = true →
    (∀ (i : Nat) (p : Nat × TypeId), l[i]? = some p → ∃ d, ds[i]? = some d ∧ ∃ ps, Arg P c p.2 ps ∧ RA w ps ((cs.drop p.1).take (P.cellsOf p.2)) ∧ PV.bulkL ps ≤ Rows.uptoBulk d) →
    ∃ ps, RA w ps (cs.drop o) ∧ (∀ p ∈ l, Arg P c p.2 ((ps.drop (p.1 - o)).take (P.cellsOf p.2))) ∧ PV.bulkL ps ≤ Rows.uptoBulkAll ds
  | [], ds, o, h, _ => by
    simp [inRow] at h
    refine ⟨[], ⟨?_, fun β n => ?_⟩, by simp, by simp [PV.bulkL]⟩
    · rw [List.drop_of_length_le (by omega)]; simp
    · rw [List.drop_of_length_le (by omega)]; simp [RepL]
  | p :: l, [], o, h, hp => by
    obtain ⟨d, hd, _⟩ := hp 0 p rfl
    simp at hd
  | p :: l, d :: ds, o, h, hp => by
    have hle := (inRow_le (p :: l) o h).2 p (by simp)
    simp only [inRow, Bool.and_eq_true, beq_iff_eq] at h
    obtain ⟨ps, h1, h2, h20⟩ := parts_rep5 l ds _ h.2 (fun i q hq => by simpa using hp (i + 1) q (by simpa using hq))
    obtain ⟨d', hd, ps0, h3, h4, h40⟩ := hp 0 p rfl
    simp at hd; subst hd
    have hl2 := (inRow_le l _ h.2).2
    have e0 : p.1 = o := h.1
    have l0 : ps0.length = P.cellsOf p.2 := by rw [h4.len, List.length_take, List.length_drop]; omega
    refine ⟨ps0 ++ ps, ?_, fun q hq => ?_, by rw [PV.bulkL_append]; simp only [Rows.uptoBulkAll]; omega⟩
    · have : cs.drop o = (cs.drop p.1).take (P.cellsOf p.2) ++ cs.drop (o + P.cellsOf p.2) := by
        rw [e0, ← List.drop_drop, List.take_append_drop]
      rw [this]
      exact h4.append h1
    · rcases List.mem_cons.1 hq with rfl | hq
      · rw [e0, Nat.sub_self, List.drop_zero, List.take_append_of_le_length (by omega), List.take_of_length_le (by omega)]
        exact h3
      · have h5 := hl2 q hq
        have : q.1 - o = ps0.length + (q.1 - (o + P.cellsOf p.2)) := by omega
        rw [this, ← List.drop_drop, List.drop_left]
        exact h2 q hq
theorem arg_rec5 {Ts : List TypeId} (hT : covC P Ts = true) : ∀ (fuel : Nat) (t : TypeId), Ts.contains t = true → ∀ (cs : List Value) (x : DataW H × List MemPlace), DataW.trod enc P w 0 sp held fuel t cs = some x → (∀ n ∈ x.1.weights P t, n ≤ reachBytes) →
    ∃ ps, Arg P fuel t ps ∧ RA w ps cs ∧ PV.bulkL ps ≤ Rows.uptoBulk x.1
  | 0, _, _, _, _, hx, _ => by simp [DataW.trod] at hx
  | c + 1, t, ht, cs, x, hx, hw => by
    have h := List.all_eq_true.1 hT t (by simpa using ht)
    split at h
    · rename_i hu
      obtain ⟨b, rfl, rfl⟩ := DataW.trod_bool hu hx
      refine ⟨[.sc (.bool b)], ?_, sc_RA rfl, by simp [PV.bulkL, PV.bulk, Rows.uptoBulk]⟩
      unfold Arg; rw [hu]; exact ⟨b, rfl⟩
    · rename_i k hu
      obtain ⟨n, rfl, rfl, hwf⟩ := DataW.trod_int hu hx
      refine ⟨[.sc (.int k n)], ?_, sc_RA rfl, by simp [PV.bulkL, PV.bulk, Rows.uptoBulk]⟩
      unfold Arg; rw [hu]; exact ⟨n, hwf, rfl⟩
    · rename_i hu
      obtain ⟨s, rfl, rfl, hs⟩ := DataW.trod_string hu hx
      refine ⟨[.sc (.string s)], ?_, sc_RA rfl, by have e : s.data.toList.length = s.size := by { rw [Array.length_toList]; try rfl }; simp only [PV.bulkL, PV.bulk, Rows.uptoBulk]; omega⟩
      unfold Arg; rw [hu]
      refine ⟨s, ?_, rfl⟩
      have := hw s.data.toList.length (by simp [DataW.weights])
      simpa using this
    · rename_i e hu
      simp only [Bool.and_eq_true, decide_eq_true_eq] at h
      obtain ⟨hpos, hcov⟩ := h
      rcases DataW.trod_slice hu hx with ⟨rfl, rfl⟩ | ⟨a, len, cap, elems, rest, n, hfu, rfl, rfl, hb, hl, hm, hlen, hel, hsp, hns⟩
      · refine ⟨[.imm (P.cellsOf e) []], ?_, ⟨fun v hv => ?_, fun β n => ?_⟩, by simp [PV.bulkL, PV.bulk, PV.bulkR, Rows.uptoBulk]⟩
        · unfold Arg; rw [hu]; exact ⟨[], rfl, by simp, by simp, by simp⟩
        · simp at hv; subst hv; rfl
        · simp only [RepL, Rep]
          exact ⟨⟨none, 0, rfl, Nat.le_refl _, Nat.zero_le _, .inl (by trivial)⟩, trivial⟩
      · obtain rfl : c = n := by omega
        have each : ∀ i, i < len → ∃ r : List PV, (r.length = P.cellsOf e ∧ Arg P c e r ∧ ∃ d, (elems.map (·.1))[i]? = some d ∧ PV.bulkL r ≤ Rows.uptoBulk d) ∧ ∃ ci, RA w r ci ∧ ci.length = P.cellsOf e ∧ ∀ j, j < P.cellsOf e → w.cell? ((a.add (i * P.cellsOf e)).add j) = ci[j]? := by
          intro i hi
          have h1 := hel i hi
          have h2 : elems[i]? = some (elems[i]'(by omega)) := List.getElem?_eq_getElem _
          rw [h2, Option.bind_eq_some_iff] at h1
          obtain ⟨ci, h3, h4⟩ := h1
          obtain ⟨_, h5, h6⟩ := World.cells?_some h3
          obtain ⟨r, h7, h8, h80⟩ := arg_rec5 hT c e hcov ci _ h4 (fun m hm => hw m (by
            simp only [DataW.weights, hu, List.mem_cons, List.mem_append]
            exact .inr (.inl (weightsAll_mem (i := i) (by rw [List.getElem?_map, h2]; try rfl) hm))))
          exact ⟨r, ⟨by rw [h8.len, h5], h7, _, by rw [List.getElem?_map, h2]; try rfl, h80⟩, ci, h8, h5, h6⟩
        obtain ⟨rows, hrl, hrows⟩ := exists_list len each
        refine ⟨[.imm (P.cellsOf e) rows], ?_, ⟨fun v hv => ?_, fun β m => ?_⟩, ?_⟩
        · unfold Arg; rw [hu]
          refine ⟨rows, rfl, ?_, by omega, fun r hr => ?_⟩
          · have := hw ((elems.map (·.1)).length * P.bytesOf e + (rest.map (·.1)).length * P.bytesOf e) (by
              simp only [DataW.weights, hu, List.mem_cons, Nat.add_mul, true_or])
            have h9 : rows.length = (elems.map (·.1)).length := by simp [hrl, hlen]
            rw [h9]
            exact Nat.le_trans (Nat.le_add_right _ _) this
          · obtain ⟨i, hi⟩ := List.getElem?_of_mem hr
            exact ⟨(hrows i r hi).1.1, (hrows i r hi).1.2.1⟩
        · simp at hv; subst hv; rfl
        · simp only [RepL, Rep]
          refine ⟨⟨some a, cap, by rw [hrl], by omega, hm, ?_⟩, trivial⟩
          by_cases h0 : len = 0
          · left; exact List.length_eq_zero_iff.1 (by omega)
          · right
            obtain ⟨_, _, c0, _, hc0, hcell0⟩ := each 0 (by omega)
            have h10 := hcell0 0 hpos
            rw [List.getElem?_eq_getElem (by omega)] at h10
            simp only [Nat.zero_mul, Addr.add, if_true] at h10
            have hs : a.spot = none := by
              unfold World.cell? at h10
              split at h10
              · split at h10
                · simp at h10
                · rename_i hsp; simpa using hsp
              · simp at h10
            have hblk : a.block < w.heap.size := by
              unfold World.cell? at h10
              split at h10
              · rename_i hh; exact (Array.getElem?_eq_some_iff.1 hh).1
              · simp at h10
            refine ⟨a.block, a.off, hblk, by cases a; simp only at hs; subst hs; rfl, ?_⟩
            rw [RepR_iff]
            intro i r hr
            obtain ⟨⟨g1, _⟩, ci, g2, g3, g4⟩ := hrows i r hr
            refine ⟨g1, ?_⟩
            rw [RepS_iff]
            intro j p hp
            obtain ⟨v, hv, hrep⟩ := (g2.2 β m).get hp
            have hj : j < P.cellsOf e := by rw [← g3]; exact (List.getElem?_eq_some_iff.1 hv).1
            refine ⟨v, ?_, g2.1 v (List.mem_of_getElem? hv), hrep⟩
            rw [← hv, ← g4 j hj]
            congr 1
            cases a
            simp only at hs; subst hs
            simp only [Addr.add]
            split <;> split <;> simp_all <;> omega
        · have hb5 := bulkR_le rows (elems.map (·.1)) (by simp [hrl, hlen]) fun i r hr => (hrows i r hr).1.2.2
          simp only [PV.bulkL, PV.bulk, Rows.uptoBulk]
          omega
    · rename_i fs hu
      simp only [Bool.and_eq_true, List.all_eq_true] at h
      obtain ⟨xs, n, hfu, rfl, hcl, hxl, hp⟩ := DataW.trod_struct hu hx
      obtain rfl : c = n := by omega
      have hpt : partsT P t = fs.toList.map fun f => (f.offset, f.type) := by unfold partsT; rw [hu]
      obtain ⟨ps, h1, h2, h30⟩ := parts_rep5 (w := w) (c := c) (cs := cs) (partsT P t) (xs.map (·.1)) 0 (by rw [hcl]; exact h.1) (fun i p hi => by
        have hcv := h.2 p (List.mem_of_getElem? hi)
        rw [hpt] at hi
        rw [List.getElem?_map, Option.map_eq_some_iff] at hi
        obtain ⟨f, hf, rfl⟩ := hi
        have hf' : fs[i]? = some f := by simpa using hf
        have hi' : i < xs.length := by
          rw [hxl]
          exact (Array.getElem?_eq_some_iff.1 hf').1
        have h3 := hp i f hf'
        rw [List.getElem?_eq_getElem hi'] at h3
        exact ⟨xs[i].1, by rw [List.getElem?_map, List.getElem?_eq_getElem hi']; try rfl, arg_rec5 hT c f.type hcv _ _ h3 (fun m hm => hw m (by
          simp only [DataW.weights, hu]
          exact DataW.weights_mem_each (j := i) (t := f.type) (d := xs[i].1) (by rw [List.getElem?_map, hf]; try rfl) (by rw [List.getElem?_map, List.getElem?_eq_getElem hi']; try rfl) m hm))⟩)
      refine ⟨ps, ?_, by simpa using h1, by simp only [Rows.uptoBulk]; omega⟩
      unfold Arg; rw [hu]
      exact ⟨by rw [h1.len, List.drop_zero, hcl], fun p hpm => by simpa using h2 p hpm⟩
    · rename_i k e hu
      simp only [Bool.and_eq_true, List.all_eq_true] at h
      obtain ⟨xs, n, hfu, rfl, hcl, hxl, hp⟩ := DataW.trod_array hu hx
      obtain rfl : c = n := by omega
      have hpt : partsT P t = (List.range k).map fun i => (i * P.cellsOf e, e) := by unfold partsT; rw [hu]
      obtain ⟨ps, h1, h2, h30⟩ := parts_rep5 (w := w) (c := c) (cs := cs) (partsT P t) (xs.map (·.1)) 0 (by rw [hcl]; exact h.1) (fun i p hi => by
        have hcv := h.2 p (List.mem_of_getElem? hi)
        rw [hpt, List.getElem?_map, Option.map_eq_some_iff] at hi
        obtain ⟨j, hj, rfl⟩ := hi
        obtain ⟨hjk, rfl⟩ := List.getElem?_range_some hj
        have hi' : i < xs.length := by rw [hxl]; exact hjk
        have h3 := hp i hjk
        rw [List.getElem?_eq_getElem hi'] at h3
        exact ⟨xs[i].1, by rw [List.getElem?_map, List.getElem?_eq_getElem hi']; try rfl, arg_rec5 hT c e hcv _ _ h3 (fun m hm => hw m (by
          simp only [DataW.weights, hu]
          exact weightsAll_mem (i := i) (d := xs[i].1) (by rw [List.getElem?_map, List.getElem?_eq_getElem hi']; try rfl) hm))⟩)
      refine ⟨ps, ?_, by simpa using h1, by simp only [Rows.uptoBulk]; omega⟩
      unfold Arg; rw [hu]
      exact ⟨by rw [h1.len, List.drop_zero, hcl], fun p hpm => by simpa using h2 p hpm⟩
    · simp at h
theorem arg_value5 {Ts : List TypeId} (hT : covC P Ts = true) {t : TypeId} (ht : Ts.contains t = true) {fs : Array Field} (hu : P.underlying t = some (.struct fs)) {v : Value} {d : DataW H} {pl : List MemPlace}
    (h : DataW.Trod enc P w 0 sp held t v d pl) (hv : ∃ base, Value.okWide P w .any base t v) (hw : ∀ n ∈ d.weights P t, n ≤ reachBytes) :
    ∃ c ps, Arg P c t ps ∧ (∀ β n, Rep β n (fun b => b < w.heap.size) w (.agg ps) v) ∧ PV.bulkL ps ≤ Rows.uptoBulk d := by
  obtain ⟨fuel, hf⟩ := h
  obtain ⟨ps, h1, h2, h3⟩ := arg_rec5 hT fuel t ht _ _ hf hw
  obtain ⟨base, hv⟩ := hv
  unfold Value.okWide at hv
  simp only [hu] at hv
  obtain ⟨cs, rfl, _⟩ := hv
  refine ⟨fuel, ps, h1, fun β n => ?_, h3⟩
  simp only [Rep]
  exact ⟨cs.toList, by simp, h2.1, h2.2 β n⟩
end
end Go.AM
namespace Go.AM
theorem bulkR_strs : ∀ l : List ByteArray, l.length ≤ PV.bulkR (strRows l)
  | [] => by simp
  | s :: l => by
    have := bulkR_strs l
    simp only [strRows, List.map_cons, PV.bulkR, PV.bulkL, PV.bulk, List.length_cons] at this ⊢
    omega
mutual
theorem Ex.small_bulk : ∀ (e : Ex), PV.bulkL e.cells ≤ 1048576 → e.small
  | .mk op name n args kids, h => by
    simp only [Ex.cells, PV.bulkL, PV.bulk] at h
    simp only [Ex.small]
    have := bulkR_strs args
    exact ⟨by omega, Ex.smalls_bulk kids (by omega)⟩
theorem Ex.smalls_bulk : ∀ (l : List Ex), PV.bulkR (Ex.rows l) ≤ 1048576 → Ex.smalls l
  | [], _ => by simp [Ex.smalls]
  | k :: ks, h => by
    simp only [Ex.rows, PV.bulkR] at h
    simp only [Ex.smalls]
    exact ⟨Ex.small_bulk k (by omega), Ex.smalls_bulk ks (by omega)⟩
end
mutual
theorem Sx.depth_nodes : ∀ (x : Sx), x.depth ≤ x.nodes
  | .mk kind _ _ _ _ kids => by
    have := Sx.depths_nodes kids 0
    simp only [Sx.depth, Sx.nodes]
    split <;> omega
theorem Sx.depths_nodes : ∀ (l : List Sx) (m : Nat), Sx.depths m l ≤ max m (Sx.nodess l)
  | [], m => by simp [Sx.depths, Sx.nodess]
  | k :: ks, m => by
    have h1 := Sx.depth_nodes k
    have h2 := Sx.depths_nodes ks (max m k.depth)
    simp only [Sx.depths, Sx.nodess]
    omega
end
end Go.AM
namespace Go.Proofs.Ytjlkapgpjamnkaa
open Go.AM
theorem nodess_words : ∀ l : List ByteArray, Sx.nodess (l.map wordM) = l.length
  | [] => rfl
  | s :: l => by simp only [List.map_cons, Sx.nodess, word_nodes, nodess_words l, List.length_cons]; omega
theorem words_nodes (first : ByteArray) (l : List ByteArray) : (wordsM first l).nodes = l.length + 2 := by
  simp only [wordsM, list_nodes, nodess_words, List.length_cons]
theorem exW_nodes : ∀ e : Ex, (exW e).nodes ≤ PV.bulkL e.cells := by
  refine Ex.ind ?_
  intro op name n args kids ih
  have h1 := bulkR_strs args
  simp only [Ex.cells, PV.bulkL, PV.bulk]
  unfold exW
  split
  · simp only [Sx.nodes, Sx.nodess]; omega
  · split
    · rw [words_nodes]; omega
    · split
      · rename_i a b
        have ha := ih a (by simp)
        have hb := ih b (by simp)
        simp only [Ex.rows, PV.bulkR, list_nodes, Sx.nodess, word_nodes]
        omega
      · simp only [list_nodes, Sx.nodess, word_nodes]; omega
theorem exW_nodes_big {e : Ex} (h : PV.bulkL e.cells ≤ 1048576) : (exW e).nodes ≤ bigN := by
  have := exW_nodes e
  unfold bigN; omega
theorem exW_depth_big {e : Ex} (h : PV.bulkL e.cells ≤ 1048576) : (exW e).depth ≤ bigN := by
  have := exW_nodes e
  have := Sx.depth_nodes (exW e)
  unfold bigN; omega
end Go.Proofs.Ytjlkapgpjamnkaa
namespace Go.Proofs.Ytjlkapgpjamnkaa
open Go.AM
set_option maxHeartbeats 2000000
set_option maxRecDepth 20000
theorem rsizeE_c : ∀ (e : Ex), e.ok → ∀ h : Heap, PCall Try.prog 39 [.agg e.cells] h fun r h' => r = .sc (.int .i64 e.size) ∧ h' = h := by
  refine Ex.ind ?_
  intro op name n args kids ih hok h
  simp only [Ex.ok] at hok
  obtain ⟨_, _, _, _, hk, hks⟩ := hok
  rw [Ex.oks_iff] at hks
  have hlen := Ex.rows_len kids
  simp only [Ex.cells, Ex.size]
  refine pcall_body (ow := fun _ => false) (wf := fun _ => false) Ty.mixed Try.func39 rfl Ty.hb_39 (by rw [Try.ntmps39]; simp) ?_
  rw [Try.ntmps39, Try.results39]
  repeat' (first | (refine a_seq (fun K hK => ?_)) | (refine a_block ?_) | (refine a_regionS ?_; simp (maxSteps := 2000000) only [Ty.w, simprocAttr, hlen]) | (refine hK _ _ ?_; clear hK; (try simp only [pst0, simprocAttr])))
  refine a_loop (fun m S h' => h' = h ∧ S 1 = .cptr (Ex.mk op name n args kids).cells ∧ ∃ k : Nat, S 4 = .sc (.int .i64 k) ∧ k ≤ kids.length ∧ m = kids.length - k ∧ S 3 = .sc (.int .i64 (Ex.sizes 1 (kids.take k)))) kids.length ?_ ?_
  · simp only [Ty.w, simprocAttr]
    exact ⟨rfl, 0, rfl, by omega, rfl, by simp [Ex.sizes]⟩
  · rintro m S h' ⟨rfl, g1, k, g4, hkl, rfl, g3⟩
    simp only [Ex.cells] at g1
    by_cases hlt : k < kids.length
    · have hd : decide ((k : Int) < (kids.length : Int)) = true := by simp; omega
      have w7 : IntKind.i64.wrap ((k : Int) + 1) = k + 1 := by unfold bigN at hk; rw [wrap64 (by omega) (by omega)]
      obtain ⟨e, hx⟩ : ∃ e, kids[k]? = some e := ⟨_, List.getElem?_eq_getElem hlt⟩
      have hmem := List.mem_of_getElem? hx
      have hc := ih e hmem (hks e hmem)
      have hsz := Ex.sizes_take 1 hx
      have hr := Ex.rows_get hx
      obtain ⟨op2, name2, n2, args2, kids2⟩ := e
      simp only [Ex.cells] at hr hc
      repeat' (first | (refine a_seq (fun K hK => ?_)) | (refine a_block ?_) | ((first | refine a_regionS ?_ | refine a_region (fun K hK => ?_)); simp (maxSteps := 2000000) only [Ty.w, simprocAttr, g1, g3, g4, hlen, hd, hr, w7]) | (refine a_skip ?_; (try simp only [pst0, simprocAttr])) | (refine a_cond _ (by (try simp (maxSteps := 2000000) only [Ty.w, simprocAttr, g1, g3, g4, hlen, hd, hr, w7]); rfl) (fun hb => ?_) (fun hb => ?_) <;> (try simp only [hb0, decide_eq_true_eq, decide_eq_false_iff_not, simprocAttr] at hb) <;> (try (exfalso; omega))) | (refine hK _ _ ?_; clear hK; (try simp only [pst0, simprocAttr])))
      refine owp_useQ (hc _) (by (try simp only [Ty.w, simprocAttr, g1, g3, g4, hlen, hd, hr]); try rfl) ?_; simp (maxSteps := 2000000) only [Ty.w, simprocAttr, g1, g3, g4, hlen, hd, hr]
      repeat' (first | (refine a_regionS ?_; simp (maxSteps := 2000000) only [Ty.w, simprocAttr, g1, g3, g4, w7]) | (refine hK _ _ ?_; clear hK; (try simp only [pst0, simprocAttr])))
      exact ⟨kids.length - (k + 1), by omega, rfl, k + 1, by simp, by omega, rfl, by rw [hsz]⟩
    · have hd : decide ((k : Int) < (kids.length : Int)) = false := by simp; omega
      have hke : k = kids.length := by omega
      subst hke
      rw [List.take_length] at g3
      repeat' (first | (refine a_seq (fun K hK => ?_)) | ((first | refine a_regionS ?_ | refine a_ret ?_); simp (maxSteps := 2000000) only [Ty.w, simprocAttr, g1, g3, g4, hlen, hd]) | (refine a_exit ?_; (try simp only [pst0, simprocAttr])) | (refine a_cond _ (by (try simp (maxSteps := 2000000) only [Ty.w, simprocAttr, g1, g3, g4, hlen, hd]); rfl) (fun hb => ?_) (fun hb => ?_) <;> (try simp only [hb0, decide_eq_true_eq, decide_eq_false_iff_not, simprocAttr] at hb) <;> (try (exfalso; omega))) | ((first | refine hK _ _ ?_ | (clear hK; refine hK _ _ ?_)); clear hK; (try simp only [pst0, simprocAttr])))
end Go.Proofs.Ytjlkapgpjamnkaa
namespace Go.Proofs.Ytjlkapgpjamnkaa
open Go.AM
set_option maxHeartbeats 4000000
set_option maxRecDepth 20000
theorem rsameE_c : ∀ a : Ex, a.ok → ∀ b : Ex, b.ok → ∀ h : Heap, PCall Try.prog 38 [.agg a.cells, .agg b.cells] h fun r h' => r = .sc (.bool (a.same b)) ∧ h' = h := by
  refine Ex.ind ?_
  intro op name n args kids ih hok
  rintro ⟨op3, name3, n3, args3, kids3⟩ hok3 h
  simp only [Ex.ok] at hok hok3
  obtain ⟨_, _, _, ⟨ha, _⟩, hk, hks⟩ := hok
  obtain ⟨_, _, _, ⟨ha3, _⟩, hk3, hks3⟩ := hok3
  rw [Ex.oks_iff] at hks hks3
  have hfk : ∀ a ∈ kids, ∀ b ∈ kids3, ∀ h : Heap, PCall Try.prog 38 [.agg a.cells, .agg b.cells] h fun r h' => r = .sc (.bool (a.same b)) ∧ h' = h := fun a ha b hb => ih a ha (hks a ha) b (hks3 b hb)
  clear ih
  have hl_kids := Ex.rows_len kids
  have hl_kids3 := Ex.rows_len kids3
  have cellsA : (Ex.mk op name n args kids).cells = (Ex.mk op name n args kids).cells := rfl
  have cellsB : (Ex.mk op3 name3 n3 args3 kids3).cells = (Ex.mk op3 name3 n3 args3 kids3).cells := rfl
  conv at cellsA => rhs; simp only [Ex.cells]
  conv at cellsB => rhs; simp only [Ex.cells]
  rw [cellsA, cellsB]
  refine pcall_body (ow := fun _ => false) (wf := fun _ => false) Ty.mixed Try.func38 rfl Ty.hb_38 (by rw [Try.ntmps38]; simp) ?_
  rw [Try.ntmps38, Try.results38]
  cases e0 : (op.data.toList == op3.data.toList) with
  | false =>
    have hs : (Ex.mk op name n args kids).same (.mk op3 name3 n3 args3 kids3) = false := by simp only [Ex.same, bEq, e0, Bool.false_and, Bool.and_false]
    repeat' (first | (refine a_seq (fun K hK => ?_)) | (refine a_block ?_) | ((first | refine a_regionS ?_ | refine a_region (fun K hK => ?_) | refine a_ret ?_); simp (maxSteps := 2000000) only [Ty.w, simprocAttr, Bool.not_true, Bool.not_false, e0]) | ((first | refine a_skip ?_ | refine a_exit ?_); (try simp only [pst0, simprocAttr])) | (refine a_cond _ (by (try simp (maxSteps := 2000000) only [Ty.w, simprocAttr, Bool.not_true, Bool.not_false, e0]); rfl) (fun hb => ?_) (fun hb => ?_) <;> (try simp only [hb0, decide_eq_true_eq, decide_eq_false_iff_not, simprocAttr] at hb) <;> (try (exfalso; omega))) | (with_reducible refine ite_in (fun hb => ?_) (fun hb => ?_) <;> (try simp only [Decidable.not_not] at hb) <;> (try simp only [hb, if_true, if_false, not_false_eq_true, not_true_eq_false, ↓reduceIte]) <;> (try simp only [hb0, decide_eq_true_eq, decide_eq_false_iff_not, simprocAttr] at hb) <;> (try (exfalso; omega))) | ((first | refine hK _ _ ?_ | (clear hK; refine hK _ _ ?_) | (clear hK; clear hK; refine hK _ _ ?_) | (clear hK; clear hK; clear hK; refine hK _ _ ?_)); clear hK; (try simp only [pst0, simprocAttr])) | (rw [if_pos]; rotate_left 1; omega; simp (maxSteps := 2000000) only [Ty.w, simprocAttr, Bool.not_true, Bool.not_false, e0]))
    rw [hs]
  | true =>
    cases e1 : (name.data.toList == name3.data.toList) with
    | false =>
      have hs : (Ex.mk op name n args kids).same (.mk op3 name3 n3 args3 kids3) = false := by simp only [Ex.same, bEq, e0, e1, Bool.false_and, Bool.and_false]
      repeat' (first | (refine a_seq (fun K hK => ?_)) | (refine a_block ?_) | ((first | refine a_regionS ?_ | refine a_region (fun K hK => ?_) | refine a_ret ?_); simp (maxSteps := 2000000) only [Ty.w, simprocAttr, Bool.not_true, Bool.not_false, e0, e1]) | ((first | refine a_skip ?_ | refine a_exit ?_); (try simp only [pst0, simprocAttr])) | (refine a_cond _ (by (try simp (maxSteps := 2000000) only [Ty.w, simprocAttr, Bool.not_true, Bool.not_false, e0, e1]); rfl) (fun hb => ?_) (fun hb => ?_) <;> (try simp only [hb0, decide_eq_true_eq, decide_eq_false_iff_not, simprocAttr] at hb) <;> (try (exfalso; omega))) | (with_reducible refine ite_in (fun hb => ?_) (fun hb => ?_) <;> (try simp only [Decidable.not_not] at hb) <;> (try simp only [hb, if_true, if_false, not_false_eq_true, not_true_eq_false, ↓reduceIte]) <;> (try simp only [hb0, decide_eq_true_eq, decide_eq_false_iff_not, simprocAttr] at hb) <;> (try (exfalso; omega))) | ((first | refine hK _ _ ?_ | (clear hK; refine hK _ _ ?_) | (clear hK; clear hK; refine hK _ _ ?_) | (clear hK; clear hK; clear hK; refine hK _ _ ?_)); clear hK; (try simp only [pst0, simprocAttr])) | (rw [if_pos]; rotate_left 1; omega; simp (maxSteps := 2000000) only [Ty.w, simprocAttr, Bool.not_true, Bool.not_false, e0, e1]))
      rw [hs]
    | true =>
      cases e2 : (n != n3) with
      | true =>
        have en : (n == n3) = false := by simpa using e2
        have hs : (Ex.mk op name n args kids).same (.mk op3 name3 n3 args3 kids3) = false := by simp only [Ex.same, bEq, e0, e1, en, Bool.false_and, Bool.and_false]
        repeat' (first | (refine a_seq (fun K hK => ?_)) | (refine a_block ?_) | ((first | refine a_regionS ?_ | refine a_region (fun K hK => ?_) | refine a_ret ?_); simp (maxSteps := 2000000) only [Ty.w, simprocAttr, Bool.not_true, Bool.not_false, e0, e1, e2]) | ((first | refine a_skip ?_ | refine a_exit ?_); (try simp only [pst0, simprocAttr])) | (refine a_cond _ (by (try simp (maxSteps := 2000000) only [Ty.w, simprocAttr, Bool.not_true, Bool.not_false, e0, e1, e2]); rfl) (fun hb => ?_) (fun hb => ?_) <;> (try simp only [hb0, decide_eq_true_eq, decide_eq_false_iff_not, simprocAttr] at hb) <;> (try (exfalso; omega))) | (with_reducible refine ite_in (fun hb => ?_) (fun hb => ?_) <;> (try simp only [Decidable.not_not] at hb) <;> (try simp only [hb, if_true, if_false, not_false_eq_true, not_true_eq_false, ↓reduceIte]) <;> (try simp only [hb0, decide_eq_true_eq, decide_eq_false_iff_not, simprocAttr] at hb) <;> (try (exfalso; omega))) | ((first | refine hK _ _ ?_ | (clear hK; refine hK _ _ ?_) | (clear hK; clear hK; refine hK _ _ ?_) | (clear hK; clear hK; clear hK; refine hK _ _ ?_)); clear hK; (try simp only [pst0, simprocAttr])) | (rw [if_pos]; rotate_left 1; omega; simp (maxSteps := 2000000) only [Ty.w, simprocAttr, Bool.not_true, Bool.not_false, e0, e1, e2]))
        rw [hs]
      | false =>
        have en : (n == n3) = true := by simpa using e2
        repeat' (first | (refine a_seq (fun K hK => ?_)) | (refine a_block ?_) | ((first | refine a_regionS ?_ | refine a_region (fun K hK => ?_) | refine a_ret ?_); simp (maxSteps := 2000000) only [Ty.w, simprocAttr, Bool.not_true, Bool.not_false, e0, e1, e2]) | ((first | refine a_skip ?_ | refine a_exit ?_); (try simp only [pst0, simprocAttr])) | (refine a_cond _ (by (try simp (maxSteps := 2000000) only [Ty.w, simprocAttr, Bool.not_true, Bool.not_false, e0, e1, e2]); rfl) (fun hb => ?_) (fun hb => ?_) <;> (try simp only [hb0, decide_eq_true_eq, decide_eq_false_iff_not, simprocAttr] at hb) <;> (try (exfalso; omega))) | (with_reducible refine ite_in (fun hb => ?_) (fun hb => ?_) <;> (try simp only [Decidable.not_not] at hb) <;> (try simp only [hb, if_true, if_false, not_false_eq_true, not_true_eq_false, ↓reduceIte]) <;> (try simp only [hb0, decide_eq_true_eq, decide_eq_false_iff_not, simprocAttr] at hb) <;> (try (exfalso; omega))) | ((first | refine hK _ _ ?_ | (clear hK; refine hK _ _ ?_) | (clear hK; clear hK; refine hK _ _ ?_) | (clear hK; clear hK; clear hK; refine hK _ _ ?_)); clear hK; (try simp only [pst0, simprocAttr])) | (rw [if_pos]; rotate_left 1; omega; simp (maxSteps := 2000000) only [Ty.w, simprocAttr, Bool.not_true, Bool.not_false, e0, e1, e2]))
        cases e3 : bsEq args args3 with
        | false =>
          have hs : (Ex.mk op name n args kids).same (.mk op3 name3 n3 args3 kids3) = false := by simp only [Ex.same, bEq, e0, e1, en, e3, Bool.false_and, Bool.and_false]
          refine owp_useQ (rtexts_c (l := args) (m := args3) ha ha3) (by (try simp only [Ty.w, simprocAttr, Bool.not_true, Bool.not_false, e0, e1, e2, e3]); try rfl) ?_; simp (maxSteps := 2000000) only [Ty.w, simprocAttr, Bool.not_true, Bool.not_false, e0, e1, e2, e3]
          repeat' (first | (refine a_seq (fun K hK => ?_)) | (refine a_block ?_) | ((first | refine a_regionS ?_ | refine a_region (fun K hK => ?_) | refine a_ret ?_); simp (maxSteps := 2000000) only [Ty.w, simprocAttr, Bool.not_true, Bool.not_false, e0, e1, e2, e3]) | ((first | refine a_skip ?_ | refine a_exit ?_); (try simp only [pst0, simprocAttr])) | (refine a_cond _ (by (try simp (maxSteps := 2000000) only [Ty.w, simprocAttr, Bool.not_true, Bool.not_false, e0, e1, e2, e3]); rfl) (fun hb => ?_) (fun hb => ?_) <;> (try simp only [hb0, decide_eq_true_eq, decide_eq_false_iff_not, simprocAttr] at hb) <;> (try (exfalso; omega))) | (with_reducible refine ite_in (fun hb => ?_) (fun hb => ?_) <;> (try simp only [Decidable.not_not] at hb) <;> (try simp only [hb, if_true, if_false, not_false_eq_true, not_true_eq_false, ↓reduceIte]) <;> (try simp only [hb0, decide_eq_true_eq, decide_eq_false_iff_not, simprocAttr] at hb) <;> (try (exfalso; omega))) | ((first | refine hK _ _ ?_ | (clear hK; refine hK _ _ ?_) | (clear hK; clear hK; refine hK _ _ ?_) | (clear hK; clear hK; clear hK; refine hK _ _ ?_)); clear hK; (try simp only [pst0, simprocAttr])) | (rw [if_pos]; rotate_left 1; omega; simp (maxSteps := 2000000) only [Ty.w, simprocAttr, Bool.not_true, Bool.not_false, e0, e1, e2, e3]))
          rw [hs]
        | true =>
          cases l_kids : ((kids.length : Int) != kids3.length) with
          | true =>
            have hlen : Ex.sames kids kids3 = false := Ex.sames_len (by simp at l_kids; omega)
            have hs : (Ex.mk op name n args kids).same (.mk op3 name3 n3 args3 kids3) = false := by simp only [Ex.same, bEq, e0, e1, en, e3, hlen, Bool.false_and, Bool.and_false]
            refine owp_useQ (rtexts_c (l := args) (m := args3) ha ha3) (by (try simp only [Ty.w, simprocAttr, Bool.not_true, Bool.not_false, e0, e1, e2, e3, l_kids, hl_kids, hl_kids3]); try rfl) ?_; simp (maxSteps := 2000000) only [Ty.w, simprocAttr, Bool.not_true, Bool.not_false, e0, e1, e2, e3, l_kids, hl_kids, hl_kids3]
            repeat' (first | (refine a_seq (fun K hK => ?_)) | (refine a_block ?_) | ((first | refine a_regionS ?_ | refine a_region (fun K hK => ?_) | refine a_ret ?_); simp (maxSteps := 2000000) only [Ty.w, simprocAttr, Bool.not_true, Bool.not_false, e0, e1, e2, e3, l_kids, hl_kids, hl_kids3]) | ((first | refine a_skip ?_ | refine a_exit ?_); (try simp only [pst0, simprocAttr])) | (refine a_cond _ (by (try simp (maxSteps := 2000000) only [Ty.w, simprocAttr, Bool.not_true, Bool.not_false, e0, e1, e2, e3, l_kids, hl_kids, hl_kids3]); rfl) (fun hb => ?_) (fun hb => ?_) <;> (try simp only [hb0, decide_eq_true_eq, decide_eq_false_iff_not, simprocAttr] at hb) <;> (try (exfalso; omega))) | (with_reducible refine ite_in (fun hb => ?_) (fun hb => ?_) <;> (try simp only [Decidable.not_not] at hb) <;> (try simp only [hb, if_true, if_false, not_false_eq_true, not_true_eq_false, ↓reduceIte]) <;> (try simp only [hb0, decide_eq_true_eq, decide_eq_false_iff_not, simprocAttr] at hb) <;> (try (exfalso; omega))) | ((first | refine hK _ _ ?_ | (clear hK; refine hK _ _ ?_) | (clear hK; clear hK; refine hK _ _ ?_) | (clear hK; clear hK; clear hK; refine hK _ _ ?_)); clear hK; (try simp only [pst0, simprocAttr])) | (rw [if_pos]; rotate_left 1; omega; simp (maxSteps := 2000000) only [Ty.w, simprocAttr, Bool.not_true, Bool.not_false, e0, e1, e2, e3, l_kids, hl_kids, hl_kids3]))
            rw [hs]
          | false =>
            have hn_kids : kids.length = kids3.length := by simp at l_kids; omega
            refine owp_useQ (rtexts_c (l := args) (m := args3) ha ha3) (by (try simp only [Ty.w, simprocAttr, Bool.not_true, Bool.not_false, e0, e1, e2, e3, l_kids, hl_kids, hl_kids3]); try rfl) ?_; simp (maxSteps := 2000000) only [Ty.w, simprocAttr, Bool.not_true, Bool.not_false, e0, e1, e2, e3, l_kids, hl_kids, hl_kids3]
            repeat' (first | (refine a_seq (fun K hK => ?_)) | (refine a_block ?_) | ((first | refine a_regionS ?_ | refine a_region (fun K hK => ?_) | refine a_ret ?_); simp (maxSteps := 2000000) only [Ty.w, simprocAttr, Bool.not_true, Bool.not_false, e0, e1, e2, e3, l_kids, hl_kids, hl_kids3]) | ((first | refine a_skip ?_ | refine a_exit ?_); (try simp only [pst0, simprocAttr])) | (refine a_cond _ (by (try simp (maxSteps := 2000000) only [Ty.w, simprocAttr, Bool.not_true, Bool.not_false, e0, e1, e2, e3, l_kids, hl_kids, hl_kids3]); rfl) (fun hb => ?_) (fun hb => ?_) <;> (try simp only [hb0, decide_eq_true_eq, decide_eq_false_iff_not, simprocAttr] at hb) <;> (try (exfalso; omega))) | (with_reducible refine ite_in (fun hb => ?_) (fun hb => ?_) <;> (try simp only [Decidable.not_not] at hb) <;> (try simp only [hb, if_true, if_false, not_false_eq_true, not_true_eq_false, ↓reduceIte]) <;> (try simp only [hb0, decide_eq_true_eq, decide_eq_false_iff_not, simprocAttr] at hb) <;> (try (exfalso; omega))) | ((first | refine hK _ _ ?_ | (clear hK; refine hK _ _ ?_) | (clear hK; clear hK; refine hK _ _ ?_) | (clear hK; clear hK; clear hK; refine hK _ _ ?_)); clear hK; (try simp only [pst0, simprocAttr])) | (rw [if_pos]; rotate_left 1; omega; simp (maxSteps := 2000000) only [Ty.w, simprocAttr, Bool.not_true, Bool.not_false, e0, e1, e2, e3, l_kids, hl_kids, hl_kids3]))
            refine a_loop (fun c S h7 => h7 = h ∧ S 2 = .cptr (Ex.mk op name n args kids).cells ∧ S 3 = .cptr (Ex.mk op3 name3 n3 args3 kids3).cells ∧ ∃ k : Nat, S 5 = .sc (.int .i64 k) ∧ k ≤ kids.length ∧ c = kids.length - k ∧ Ex.sames kids kids3 = Ex.sames (kids.drop k) (kids3.drop k)) kids.length ?_ ?_
            · simp only [Ty.w, simprocAttr, cellsA, cellsB]
              exact ⟨0, rfl, by omega, rfl, by simp⟩
            · rintro c S h7 ⟨rfl, g2, g3, k, gk, hkl, rfl, hinv⟩
              rw [cellsA] at g2
              rw [cellsB] at g3
              by_cases hlt : k < kids.length
              · have hd : decide ((k : Int) < (kids.length : Int)) = true := by simp; omega
                have w7 : IntKind.i64.wrap ((k : Int) + 1) = k + 1 := by unfold bigN at hk; rw [wrap64 (by omega) (by omega)]
                obtain ⟨a, hx⟩ : ∃ a, kids[k]? = some a := ⟨_, List.getElem?_eq_getElem hlt⟩
                obtain ⟨b, hy⟩ : ∃ b, kids3[k]? = some b := ⟨_, List.getElem?_eq_getElem (by omega)⟩
                have hc := hfk a (List.mem_of_getElem? hx) b (List.mem_of_getElem? hy)
                rw [drop_of_get hx, drop_of_get hy] at hinv
                simp only [Ex.sames] at hinv
                have hr := Ex.rows_get hx
                have hr2 := Ex.rows_get hy
                generalize he : a.same b = e at hc hinv
                clear he
                obtain ⟨op2, name2, n2, args2, kids2⟩ := a
                obtain ⟨op4, name4, n4, args4, kids4⟩ := b
                simp only [Ex.cells] at hr hr2 hc
                cases e with
                | false =>
                  have hs : (Ex.mk op name n args kids).same (.mk op3 name3 n3 args3 kids3) = false := by simp only [Ex.same, bEq, hinv, e0, e1, en, e3, Bool.false_and, Bool.and_false]
                  repeat' (first | (refine a_seq (fun K hK => ?_)) | (refine a_block ?_) | ((first | refine a_regionS ?_ | refine a_drawS (by decide +kernel) ?_ | refine a_region (fun K hK => ?_) | refine a_draw (by decide +kernel) (fun K hK => ?_) | refine a_ret ?_); simp (maxSteps := 2000000) only [Ty.w, simprocAttr, g2, g3, gk, hl_kids, hl_kids3, hd, hr, hr2, w7, Bool.not_false]) | ((first | refine a_skip ?_ | refine a_exit ?_); (try simp only [pst0, simprocAttr])) | (refine a_cond _ (by (try simp (maxSteps := 2000000) only [Ty.w, simprocAttr, g2, g3, gk, hl_kids, hl_kids3, hd, hr, hr2, w7, Bool.not_false]); rfl) (fun hb => ?_) (fun hb => ?_) <;> (try simp only [hb0, decide_eq_true_eq, decide_eq_false_iff_not, simprocAttr] at hb) <;> (try (exfalso; omega))) | (with_reducible refine ite_in (fun hb => ?_) (fun hb => ?_) <;> (try simp only [Decidable.not_not] at hb) <;> (try simp only [hb, if_true, if_false, not_false_eq_true, not_true_eq_false, ↓reduceIte]) <;> (try simp only [hb0, decide_eq_true_eq, decide_eq_false_iff_not, simprocAttr] at hb) <;> (try (exfalso; omega))) | ((first | refine hK _ _ ?_ | (clear hK; refine hK _ _ ?_) | (clear hK; clear hK; refine hK _ _ ?_) | (clear hK; clear hK; clear hK; refine hK _ _ ?_)); clear hK; (try simp only [pst0, simprocAttr])) | ((first | with_reducible refine a_past _ rfl (by decide +kernel) ?_ | (with_reducible refine a_past2 (by simp only [List.forall_mem_cons, Ty.w, simprocAttr, g2, g3, gk, hl_kids, hl_kids3, hd, hr, hr2, w7, Bool.not_false]; (repeat' apply And.intro) <;> first | trivial | exact .inl (by decide +kernel)) ?_)); try simp (maxSteps := 2000000) only [Ty.w, simprocAttr, g2, g3, gk, hl_kids, hl_kids3, hd, hr, hr2, w7, Bool.not_false]) | (rw [if_pos]; rotate_left 1; omega; simp (maxSteps := 2000000) only [Ty.w, simprocAttr, g2, g3, gk, hl_kids, hl_kids3, hd, hr, hr2, w7, Bool.not_false]))
                  (first | refine a_dcall0 (hc _) (by (try simp only [Ty.w, simprocAttr, g2, g3, gk, hl_kids, hl_kids3, hd, hr, hr2]); try rfl) ?_ | refine a_dcallA (hc _) (by (try simp only [Ty.w, simprocAttr, g2, g3, gk, hl_kids, hl_kids3, hd, hr, hr2]); try rfl) (by simp only [Ty.w, simprocAttr, g2, g3, gk, hl_kids, hl_kids3, hd, hr, hr2]; try trivial) ?_); simp (maxSteps := 2000000) only [Ty.w, simprocAttr, Option.getD_some, g2, g3, gk, hl_kids, hl_kids3, hd, hr, hr2]
                  repeat' (first | (refine a_seq (fun K hK => ?_)) | (refine a_block ?_) | ((first | refine a_regionS ?_ | refine a_drawS (by decide +kernel) ?_ | refine a_region (fun K hK => ?_) | refine a_draw (by decide +kernel) (fun K hK => ?_) | refine a_ret ?_); simp (maxSteps := 2000000) only [Ty.w, simprocAttr, g2, g3, gk, w7, Bool.not_false]) | ((first | refine a_skip ?_ | refine a_exit ?_); (try simp only [pst0, simprocAttr])) | (refine a_cond _ (by (try simp (maxSteps := 2000000) only [Ty.w, simprocAttr, g2, g3, gk, w7, Bool.not_false]); rfl) (fun hb => ?_) (fun hb => ?_) <;> (try simp only [hb0, decide_eq_true_eq, decide_eq_false_iff_not, simprocAttr] at hb) <;> (try (exfalso; omega))) | (with_reducible refine ite_in (fun hb => ?_) (fun hb => ?_) <;> (try simp only [Decidable.not_not] at hb) <;> (try simp only [hb, if_true, if_false, not_false_eq_true, not_true_eq_false, ↓reduceIte]) <;> (try simp only [hb0, decide_eq_true_eq, decide_eq_false_iff_not, simprocAttr] at hb) <;> (try (exfalso; omega))) | ((first | refine hK _ _ ?_ | (clear hK; refine hK _ _ ?_) | (clear hK; clear hK; refine hK _ _ ?_) | (clear hK; clear hK; clear hK; refine hK _ _ ?_)); clear hK; (try simp only [pst0, simprocAttr])) | ((first | with_reducible refine a_past _ rfl (by decide +kernel) ?_ | (with_reducible refine a_past2 (by simp only [List.forall_mem_cons, Ty.w, simprocAttr, g2, g3, gk, w7, Bool.not_false]; (repeat' apply And.intro) <;> first | trivial | exact .inl (by decide +kernel)) ?_)); try simp (maxSteps := 2000000) only [Ty.w, simprocAttr, g2, g3, gk, w7, Bool.not_false]) | (rw [if_pos]; rotate_left 1; omega; simp (maxSteps := 2000000) only [Ty.w, simprocAttr, g2, g3, gk, w7, Bool.not_false]))
                  rw [hs]
                | true =>
                  rw [Bool.true_and] at hinv
                  repeat' (first | (refine a_seq (fun K hK => ?_)) | (refine a_block ?_) | ((first | refine a_regionS ?_ | refine a_drawS (by decide +kernel) ?_ | refine a_region (fun K hK => ?_) | refine a_draw (by decide +kernel) (fun K hK => ?_) | refine a_ret ?_); simp (maxSteps := 2000000) only [Ty.w, simprocAttr, g2, g3, gk, hl_kids, hl_kids3, hd, hr, hr2, w7, Bool.not_true]) | ((first | refine a_skip ?_ | refine a_exit ?_); (try simp only [pst0, simprocAttr])) | (refine a_cond _ (by (try simp (maxSteps := 2000000) only [Ty.w, simprocAttr, g2, g3, gk, hl_kids, hl_kids3, hd, hr, hr2, w7, Bool.not_true]); rfl) (fun hb => ?_) (fun hb => ?_) <;> (try simp only [hb0, decide_eq_true_eq, decide_eq_false_iff_not, simprocAttr] at hb) <;> (try (exfalso; omega))) | (with_reducible refine ite_in (fun hb => ?_) (fun hb => ?_) <;> (try simp only [Decidable.not_not] at hb) <;> (try simp only [hb, if_true, if_false, not_false_eq_true, not_true_eq_false, ↓reduceIte]) <;> (try simp only [hb0, decide_eq_true_eq, decide_eq_false_iff_not, simprocAttr] at hb) <;> (try (exfalso; omega))) | ((first | refine hK _ _ ?_ | (clear hK; refine hK _ _ ?_) | (clear hK; clear hK; refine hK _ _ ?_) | (clear hK; clear hK; clear hK; refine hK _ _ ?_)); clear hK; (try simp only [pst0, simprocAttr])) | ((first | with_reducible refine a_past _ rfl (by decide +kernel) ?_ | (with_reducible refine a_past2 (by simp only [List.forall_mem_cons, Ty.w, simprocAttr, g2, g3, gk, hl_kids, hl_kids3, hd, hr, hr2, w7, Bool.not_true]; (repeat' apply And.intro) <;> first | trivial | exact .inl (by decide +kernel)) ?_)); try simp (maxSteps := 2000000) only [Ty.w, simprocAttr, g2, g3, gk, hl_kids, hl_kids3, hd, hr, hr2, w7, Bool.not_true]) | (rw [if_pos]; rotate_left 1; omega; simp (maxSteps := 2000000) only [Ty.w, simprocAttr, g2, g3, gk, hl_kids, hl_kids3, hd, hr, hr2, w7, Bool.not_true]))
                  (first | refine a_dcall0 (hc _) (by (try simp only [Ty.w, simprocAttr, g2, g3, gk, hl_kids, hl_kids3, hd, hr, hr2]); try rfl) ?_ | refine a_dcallA (hc _) (by (try simp only [Ty.w, simprocAttr, g2, g3, gk, hl_kids, hl_kids3, hd, hr, hr2]); try rfl) (by simp only [Ty.w, simprocAttr, g2, g3, gk, hl_kids, hl_kids3, hd, hr, hr2]; try trivial) ?_); simp (maxSteps := 2000000) only [Ty.w, simprocAttr, Option.getD_some, g2, g3, gk, hl_kids, hl_kids3, hd, hr, hr2]
                  repeat' (first | (refine a_seq (fun K hK => ?_)) | (refine a_block ?_) | ((first | refine a_regionS ?_ | refine a_drawS (by decide +kernel) ?_ | refine a_region (fun K hK => ?_) | refine a_draw (by decide +kernel) (fun K hK => ?_) | refine a_ret ?_); simp (maxSteps := 2000000) only [Ty.w, simprocAttr, g2, g3, gk, w7, Bool.not_true]) | ((first | refine a_skip ?_ | refine a_exit ?_); (try simp only [pst0, simprocAttr])) | (refine a_cond _ (by (try simp (maxSteps := 2000000) only [Ty.w, simprocAttr, g2, g3, gk, w7, Bool.not_true]); rfl) (fun hb => ?_) (fun hb => ?_) <;> (try simp only [hb0, decide_eq_true_eq, decide_eq_false_iff_not, simprocAttr] at hb) <;> (try (exfalso; omega))) | (with_reducible refine ite_in (fun hb => ?_) (fun hb => ?_) <;> (try simp only [Decidable.not_not] at hb) <;> (try simp only [hb, if_true, if_false, not_false_eq_true, not_true_eq_false, ↓reduceIte]) <;> (try simp only [hb0, decide_eq_true_eq, decide_eq_false_iff_not, simprocAttr] at hb) <;> (try (exfalso; omega))) | ((first | refine hK _ _ ?_ | (clear hK; refine hK _ _ ?_) | (clear hK; clear hK; refine hK _ _ ?_) | (clear hK; clear hK; clear hK; refine hK _ _ ?_)); clear hK; (try simp only [pst0, simprocAttr])) | ((first | with_reducible refine a_past _ rfl (by decide +kernel) ?_ | (with_reducible refine a_past2 (by simp only [List.forall_mem_cons, Ty.w, simprocAttr, g2, g3, gk, w7, Bool.not_true]; (repeat' apply And.intro) <;> first | trivial | exact .inl (by decide +kernel)) ?_)); try simp (maxSteps := 2000000) only [Ty.w, simprocAttr, g2, g3, gk, w7, Bool.not_true]) | (rw [if_pos]; rotate_left 1; omega; simp (maxSteps := 2000000) only [Ty.w, simprocAttr, g2, g3, gk, w7, Bool.not_true]))
                  exact ⟨kids.length - (k + 1), by omega, by rw [cellsA], by rw [cellsB], k + 1, by simp, by omega, rfl, hinv⟩
              · have hd : decide ((k : Int) < (kids.length : Int)) = false := by simp; omega
                rw [List.drop_eq_nil_of_le (by omega), List.drop_eq_nil_of_le (by omega)] at hinv
                have hq0 := hinv
                simp only [Ex.sames] at hq0
                clear hinv
                have hs : (Ex.mk op name n args kids).same (.mk op3 name3 n3 args3 kids3) = true := by simp only [Ex.same, bEq, e0, e1, en, e3, hq0, Bool.true_and]
                repeat' (first | (refine a_seq (fun K hK => ?_)) | (refine a_block ?_) | ((first | refine a_regionS ?_ | refine a_region (fun K hK => ?_) | refine a_ret ?_); simp (maxSteps := 2000000) only [Ty.w, simprocAttr, g2, g3, gk, hl_kids, hl_kids3, hd]) | ((first | refine a_skip ?_ | refine a_exit ?_); (try simp only [pst0, simprocAttr])) | (refine a_cond _ (by (try simp (maxSteps := 2000000) only [Ty.w, simprocAttr, g2, g3, gk, hl_kids, hl_kids3, hd]); rfl) (fun hb => ?_) (fun hb => ?_) <;> (try simp only [hb0, decide_eq_true_eq, decide_eq_false_iff_not, simprocAttr] at hb) <;> (try (exfalso; omega))) | (with_reducible refine ite_in (fun hb => ?_) (fun hb => ?_) <;> (try simp only [Decidable.not_not] at hb) <;> (try simp only [hb, if_true, if_false, not_false_eq_true, not_true_eq_false, ↓reduceIte]) <;> (try simp only [hb0, decide_eq_true_eq, decide_eq_false_iff_not, simprocAttr] at hb) <;> (try (exfalso; omega))) | ((first | refine hK _ _ ?_ | (clear hK; refine hK _ _ ?_) | (clear hK; clear hK; refine hK _ _ ?_) | (clear hK; clear hK; clear hK; refine hK _ _ ?_)); clear hK; (try simp only [pst0, simprocAttr])) | (rw [if_pos]; rotate_left 1; omega; simp (maxSteps := 2000000) only [Ty.w, simprocAttr, g2, g3, gk, hl_kids, hl_kids3, hd]))
                rw [hs]
end Go.Proofs.Ytjlkapgpjamnkaa
namespace Go.Proofs.Ytjlkapgpjamnkaa
open Go.AM
set_option maxHeartbeats 4000000
set_option maxRecDepth 20000
theorem exR_refl : ∀ l : List Ex, (∀ e ∈ l, e.same e = true) → Ex.sames l l = true
  | [], _ => rfl
  | a :: l, h => by rw [Ex.sames, h a (List.mem_cons_self ..), exR_refl l fun e he => h e (List.mem_cons_of_mem _ he)]; try rfl
theorem bsR_refl : ∀ l : List ByteArray, bsEq l l = true
  | [] => rfl
  | a :: l => by simp only [bsEq, bEq, beq_self_eq_true, bsR_refl l, Bool.and_true]
theorem exr_refl : ∀ e : Ex, e.same e = true := by
  refine Ex.ind ?_
  intro op name n args kids ih
  simp only [Ex.same, bEq, beq_self_eq_true, bsR_refl, exR_refl kids ih, Bool.and_true]
theorem zeroSx_ok : zeroSx.ok := by
  simp only [zeroSx, Sx.ok, Sx.oks, List.length_nil]
  exact ⟨by omega, by omega, by simp [bigN, ByteArray.size], by simp, trivial⟩
theorem formulaExprs_c {x : Ex} (hok : x.ok) (hb : PV.bulkL x.cells ≤ 1048576) : PCall Try.prog 8 [.agg x.cells] Heap.nil fun r _ => r = .sc (.bool true) := by
  have hsm := Ex.small_bulk x hb
  have hsz := rsizeE_c x hok
  have hW := fun h : Heap => WriteExpr_c hok hsm h
  have hR := fun h : Heap => rvalidE_c hok hsm (exW_depth_big hb) h
  rw [← validE_same (exW_nodes_big hb)] at hR
  have hV := fun h : Heap => validE_c hok hsm h
  have hx := exW_ok x hok hsm
  generalize x.size = n at hsz
  cases l1 : decide (n > 5000) with
  | true =>
    obtain ⟨op, name, nn, args, kids⟩ := x
    simp only [Ex.cells] at hsz ⊢
    refine pcall_body (ow := fun _ => false) (wf := fun _ => false) Ty.mixed Try.func8 rfl Ty.hb_8 (by rw [Try.ntmps8]; simp) ?_
    rw [Try.ntmps8, Try.results8]
    repeat' (first | (refine a_seq (fun K hK => ?_)) | (refine a_block ?_) | ((first | refine a_regionS ?_ | refine a_region (fun K hK => ?_) | refine a_ret ?_); simp (maxSteps := 2000000) only [Ty.w, simprocAttr]) | ((first | refine a_skip ?_ | refine a_exit ?_); (try simp only [pst0, simprocAttr])) | (refine a_cond _ (by (try simp (maxSteps := 2000000) only [Ty.w, simprocAttr]); rfl) (fun hb => ?_) (fun hb => ?_) <;> (try simp only [hb0, decide_eq_true_eq, decide_eq_false_iff_not, simprocAttr] at hb) <;> (try (exfalso; omega))) | (with_reducible refine ite_in (fun hb => ?_) (fun hb => ?_) <;> (try simp only [Decidable.not_not] at hb) <;> (try simp only [hb, if_true, if_false, not_false_eq_true, not_true_eq_false, ↓reduceIte]) <;> (try simp only [hb0, decide_eq_true_eq, decide_eq_false_iff_not, simprocAttr] at hb) <;> (try (exfalso; omega))) | ((first | refine hK _ _ ?_ | (clear hK; refine hK _ _ ?_) | (clear hK; clear hK; refine hK _ _ ?_) | (clear hK; clear hK; clear hK; refine hK _ _ ?_)); clear hK; (try simp only [pst0, simprocAttr])) | (rw [if_pos]; rotate_left 1; omega; simp (maxSteps := 2000000) only [Ty.w, simprocAttr]))
    refine owp_useQ (hsz _) (by (try simp only [Ty.w, simprocAttr, l1]); try rfl) ?_; simp (maxSteps := 2000000) only [Ty.w, simprocAttr, l1]
    repeat' (first | (refine a_seq (fun K hK => ?_)) | (refine a_block ?_) | ((first | refine a_regionS ?_ | refine a_region (fun K hK => ?_) | refine a_ret ?_); simp (maxSteps := 2000000) only [Ty.w, simprocAttr, l1]) | ((first | refine a_skip ?_ | refine a_exit ?_); (try simp only [pst0, simprocAttr])) | (refine a_cond _ (by (try simp (maxSteps := 2000000) only [Ty.w, simprocAttr, l1]); rfl) (fun hb => ?_) (fun hb => ?_) <;> (try simp only [hb0, decide_eq_true_eq, decide_eq_false_iff_not, simprocAttr] at hb) <;> (try (exfalso; omega))) | (with_reducible refine ite_in (fun hb => ?_) (fun hb => ?_) <;> (try simp only [Decidable.not_not] at hb) <;> (try simp only [hb, if_true, if_false, not_false_eq_true, not_true_eq_false, ↓reduceIte]) <;> (try simp only [hb0, decide_eq_true_eq, decide_eq_false_iff_not, simprocAttr] at hb) <;> (try (exfalso; omega))) | ((first | refine hK _ _ ?_ | (clear hK; refine hK _ _ ?_) | (clear hK; clear hK; refine hK _ _ ?_) | (clear hK; clear hK; clear hK; refine hK _ _ ?_)); clear hK; (try simp only [pst0, simprocAttr])) | (rw [if_pos]; rotate_left 1; omega; simp (maxSteps := 2000000) only [Ty.w, simprocAttr, l1]))
    refine owp_useQ (awake_c) (by (try simp only [Ty.w, simprocAttr, ]); try rfl) ?_; simp (maxSteps := 2000000) only [Ty.w, simprocAttr, ]
    repeat' (first | (refine a_seq (fun K hK => ?_)) | (refine a_block ?_) | ((first | refine a_regionS ?_ | refine a_region (fun K hK => ?_) | refine a_ret ?_); simp (maxSteps := 2000000) only [Ty.w, simprocAttr]) | ((first | refine a_skip ?_ | refine a_exit ?_); (try simp only [pst0, simprocAttr])) | (refine a_cond _ (by (try simp (maxSteps := 2000000) only [Ty.w, simprocAttr]); rfl) (fun hb => ?_) (fun hb => ?_) <;> (try simp only [hb0, decide_eq_true_eq, decide_eq_false_iff_not, simprocAttr] at hb) <;> (try (exfalso; omega))) | (with_reducible refine ite_in (fun hb => ?_) (fun hb => ?_) <;> (try simp only [Decidable.not_not] at hb) <;> (try simp only [hb, if_true, if_false, not_false_eq_true, not_true_eq_false, ↓reduceIte]) <;> (try simp only [hb0, decide_eq_true_eq, decide_eq_false_iff_not, simprocAttr] at hb) <;> (try (exfalso; omega))) | ((first | refine hK _ _ ?_ | (clear hK; refine hK _ _ ?_) | (clear hK; clear hK; refine hK _ _ ?_) | (clear hK; clear hK; clear hK; refine hK _ _ ?_)); clear hK; (try simp only [pst0, simprocAttr])) | (rw [if_pos]; rotate_left 1; omega; simp (maxSteps := 2000000) only [Ty.w, simprocAttr]))
  | false =>
    cases hv : validE x with
    | false =>
      simp only [hv, Bool.false_eq_true, if_false] at hW hR hV
      have hS := fun h : Heap => same_c (l := [zeroSx]) (m := [zeroSx]) (by simp [bigN]) (by simp [zeroSx_ok]) h
      have e1 : sameXs [zeroSx] [zeroSx] = true := rfl
      have hI := fun h : Heap => fis_c (h := h) (n := 2) (m := 2)
      rw [e1] at hS
      have hS := fun h : Heap => same_zero (hS h)
      obtain ⟨op, name, nn, args, kids⟩ := x
      simp only [Ex.cells, zeroSx, Sx.cells, Sx.rows, errV] at hsz hW hR hV hI ⊢
      refine pcall_body (ow := fun _ => false) (wf := fun _ => false) Ty.mixed Try.func8 rfl Ty.hb_8 (by rw [Try.ntmps8]; simp) ?_
      rw [Try.ntmps8, Try.results8]
      repeat' (first | (refine a_seq (fun K hK => ?_)) | (refine a_block ?_) | ((first | refine a_regionS ?_ | refine a_region (fun K hK => ?_) | refine a_ret ?_); simp (maxSteps := 2000000) only [Ty.w, simprocAttr]) | ((first | refine a_skip ?_ | refine a_exit ?_); (try simp only [pst0, simprocAttr])) | (refine a_cond _ (by (try simp (maxSteps := 2000000) only [Ty.w, simprocAttr]); rfl) (fun hb => ?_) (fun hb => ?_) <;> (try simp only [hb0, decide_eq_true_eq, decide_eq_false_iff_not, simprocAttr] at hb) <;> (try (exfalso; omega))) | (with_reducible refine ite_in (fun hb => ?_) (fun hb => ?_) <;> (try simp only [Decidable.not_not] at hb) <;> (try simp only [hb, if_true, if_false, not_false_eq_true, not_true_eq_false, ↓reduceIte]) <;> (try simp only [hb0, decide_eq_true_eq, decide_eq_false_iff_not, simprocAttr] at hb) <;> (try (exfalso; omega))) | ((first | refine hK _ _ ?_ | (clear hK; refine hK _ _ ?_) | (clear hK; clear hK; refine hK _ _ ?_) | (clear hK; clear hK; clear hK; refine hK _ _ ?_)); clear hK; (try simp only [pst0, simprocAttr])) | (rw [if_pos]; rotate_left 1; omega; simp (maxSteps := 2000000) only [Ty.w, simprocAttr]))
      refine owp_useQ (hsz _) (by (try simp only [Ty.w, simprocAttr, l1]); try rfl) ?_; simp (maxSteps := 2000000) only [Ty.w, simprocAttr, l1]
      repeat' (first | (refine a_seq (fun K hK => ?_)) | (refine a_block ?_) | ((first | refine a_regionS ?_ | refine a_region (fun K hK => ?_) | refine a_ret ?_); simp (maxSteps := 2000000) only [Ty.w, simprocAttr, l1]) | ((first | refine a_skip ?_ | refine a_exit ?_); (try simp only [pst0, simprocAttr])) | (refine a_cond _ (by (try simp (maxSteps := 2000000) only [Ty.w, simprocAttr, l1]); rfl) (fun hb => ?_) (fun hb => ?_) <;> (try simp only [hb0, decide_eq_true_eq, decide_eq_false_iff_not, simprocAttr] at hb) <;> (try (exfalso; omega))) | (with_reducible refine ite_in (fun hb => ?_) (fun hb => ?_) <;> (try simp only [Decidable.not_not] at hb) <;> (try simp only [hb, if_true, if_false, not_false_eq_true, not_true_eq_false, ↓reduceIte]) <;> (try simp only [hb0, decide_eq_true_eq, decide_eq_false_iff_not, simprocAttr] at hb) <;> (try (exfalso; omega))) | ((first | refine hK _ _ ?_ | (clear hK; refine hK _ _ ?_) | (clear hK; clear hK; refine hK _ _ ?_) | (clear hK; clear hK; clear hK; refine hK _ _ ?_)); clear hK; (try simp only [pst0, simprocAttr])) | (rw [if_pos]; rotate_left 1; omega; simp (maxSteps := 2000000) only [Ty.w, simprocAttr, l1]))
      refine owp_useQ (awake_c) (by (try simp only [Ty.w, simprocAttr, ]); try rfl) ?_; simp (maxSteps := 2000000) only [Ty.w, simprocAttr, ]
      repeat' (first | (refine a_seq (fun K hK => ?_)) | (refine a_block ?_) | ((first | refine a_regionS ?_ | refine a_region (fun K hK => ?_) | refine a_ret ?_); simp (maxSteps := 2000000) only [Ty.w, simprocAttr, l1, Bool.not_true]) | ((first | refine a_skip ?_ | refine a_exit ?_); (try simp only [pst0, simprocAttr])) | (refine a_cond _ (by (try simp (maxSteps := 2000000) only [Ty.w, simprocAttr, l1, Bool.not_true]); rfl) (fun hb => ?_) (fun hb => ?_) <;> (try simp only [hb0, decide_eq_true_eq, decide_eq_false_iff_not, simprocAttr] at hb) <;> (try (exfalso; omega))) | (with_reducible refine ite_in (fun hb => ?_) (fun hb => ?_) <;> (try simp only [Decidable.not_not] at hb) <;> (try simp only [hb, if_true, if_false, not_false_eq_true, not_true_eq_false, ↓reduceIte]) <;> (try simp only [hb0, decide_eq_true_eq, decide_eq_false_iff_not, simprocAttr] at hb) <;> (try (exfalso; omega))) | ((first | refine hK _ _ ?_ | (clear hK; refine hK _ _ ?_) | (clear hK; clear hK; refine hK _ _ ?_) | (clear hK; clear hK; clear hK; refine hK _ _ ?_)); clear hK; (try simp only [pst0, simprocAttr])) | (rw [if_pos]; rotate_left 1; omega; simp (maxSteps := 2000000) only [Ty.w, simprocAttr, l1, Bool.not_true]))
      refine owp_useQ (hW _) (by (try simp only [Ty.w, simprocAttr, ]); try rfl) ?_; simp (maxSteps := 2000000) only [Ty.w, simprocAttr, ]
      repeat' (first | (refine a_seq (fun K hK => ?_)) | (refine a_block ?_) | ((first | refine a_regionS ?_ | refine a_region (fun K hK => ?_) | refine a_ret ?_); simp (maxSteps := 2000000) only [Ty.w, simprocAttr]) | ((first | refine a_skip ?_ | refine a_exit ?_); (try simp only [pst0, simprocAttr])) | (refine a_cond _ (by (try simp (maxSteps := 2000000) only [Ty.w, simprocAttr]); rfl) (fun hb => ?_) (fun hb => ?_) <;> (try simp only [hb0, decide_eq_true_eq, decide_eq_false_iff_not, simprocAttr] at hb) <;> (try (exfalso; omega))) | (with_reducible refine ite_in (fun hb => ?_) (fun hb => ?_) <;> (try simp only [Decidable.not_not] at hb) <;> (try simp only [hb, if_true, if_false, not_false_eq_true, not_true_eq_false, ↓reduceIte]) <;> (try simp only [hb0, decide_eq_true_eq, decide_eq_false_iff_not, simprocAttr] at hb) <;> (try (exfalso; omega))) | ((first | refine hK _ _ ?_ | (clear hK; refine hK _ _ ?_) | (clear hK; clear hK; refine hK _ _ ?_) | (clear hK; clear hK; clear hK; refine hK _ _ ?_)); clear hK; (try simp only [pst0, simprocAttr])) | (rw [if_pos]; rotate_left 1; omega; simp (maxSteps := 2000000) only [Ty.w, simprocAttr]))
      refine owp_useQ (hR _) (by (try simp only [Ty.w, simprocAttr, ]); try rfl) ?_; simp (maxSteps := 2000000) only [Ty.w, simprocAttr, ]
      repeat' (first | (refine a_seq (fun K hK => ?_)) | (refine a_block ?_) | ((first | refine a_regionS ?_ | refine a_region (fun K hK => ?_) | refine a_ret ?_); simp (maxSteps := 2000000) only [Ty.w, simprocAttr, Bool.not_false]) | ((first | refine a_skip ?_ | refine a_exit ?_); (try simp only [pst0, simprocAttr])) | (refine a_cond _ (by (try simp (maxSteps := 2000000) only [Ty.w, simprocAttr, Bool.not_false]); rfl) (fun hb => ?_) (fun hb => ?_) <;> (try simp only [hb0, decide_eq_true_eq, decide_eq_false_iff_not, simprocAttr] at hb) <;> (try (exfalso; omega))) | (with_reducible refine ite_in (fun hb => ?_) (fun hb => ?_) <;> (try simp only [Decidable.not_not] at hb) <;> (try simp only [hb, if_true, if_false, not_false_eq_true, not_true_eq_false, ↓reduceIte]) <;> (try simp only [hb0, decide_eq_true_eq, decide_eq_false_iff_not, simprocAttr] at hb) <;> (try (exfalso; omega))) | ((first | refine hK _ _ ?_ | (clear hK; refine hK _ _ ?_) | (clear hK; clear hK; refine hK _ _ ?_) | (clear hK; clear hK; clear hK; refine hK _ _ ?_)); clear hK; (try simp only [pst0, simprocAttr])) | (rw [if_pos]; rotate_left 1; omega; simp (maxSteps := 2000000) only [Ty.w, simprocAttr, Bool.not_false]))
      refine owp_useQ (hV _) (by (try simp only [Ty.w, simprocAttr, ]); try rfl) ?_; simp (maxSteps := 2000000) only [Ty.w, simprocAttr, ]
      repeat' (first | (refine a_seq (fun K hK => ?_)) | (refine a_block ?_) | ((first | refine a_regionS ?_ | refine a_region (fun K hK => ?_) | refine a_ret ?_); simp (maxSteps := 2000000) only [Ty.w, simprocAttr, Bool.not_false]) | ((first | refine a_skip ?_ | refine a_exit ?_); (try simp only [pst0, simprocAttr])) | (refine a_cond _ (by (try simp (maxSteps := 2000000) only [Ty.w, simprocAttr, Bool.not_false]); rfl) (fun hb => ?_) (fun hb => ?_) <;> (try simp only [hb0, decide_eq_true_eq, decide_eq_false_iff_not, simprocAttr] at hb) <;> (try (exfalso; omega))) | (with_reducible refine ite_in (fun hb => ?_) (fun hb => ?_) <;> (try simp only [Decidable.not_not] at hb) <;> (try simp only [hb, if_true, if_false, not_false_eq_true, not_true_eq_false, ↓reduceIte]) <;> (try simp only [hb0, decide_eq_true_eq, decide_eq_false_iff_not, simprocAttr] at hb) <;> (try (exfalso; omega))) | ((first | refine hK _ _ ?_ | (clear hK; refine hK _ _ ?_) | (clear hK; clear hK; refine hK _ _ ?_) | (clear hK; clear hK; clear hK; refine hK _ _ ?_)); clear hK; (try simp only [pst0, simprocAttr])) | (rw [if_pos]; rotate_left 1; omega; simp (maxSteps := 2000000) only [Ty.w, simprocAttr, Bool.not_false]))
      refine owp_useQ (hI _) (by (try simp only [Ty.w, simprocAttr, ]); try rfl) ?_; simp (maxSteps := 2000000) only [Ty.w, simprocAttr, ]
      repeat' (first | (refine a_seq (fun K hK => ?_)) | (refine a_block ?_) | ((first | refine a_regionS ?_ | refine a_region (fun K hK => ?_) | refine a_ret ?_); simp (maxSteps := 2000000) only [Ty.w, simprocAttr]) | ((first | refine a_skip ?_ | refine a_exit ?_); (try simp only [pst0, simprocAttr])) | (refine a_cond _ (by (try simp (maxSteps := 2000000) only [Ty.w, simprocAttr]); rfl) (fun hb => ?_) (fun hb => ?_) <;> (try simp only [hb0, decide_eq_true_eq, decide_eq_false_iff_not, simprocAttr] at hb) <;> (try (exfalso; omega))) | (with_reducible refine ite_in (fun hb => ?_) (fun hb => ?_) <;> (try simp only [Decidable.not_not] at hb) <;> (try simp only [hb, if_true, if_false, not_false_eq_true, not_true_eq_false, ↓reduceIte]) <;> (try simp only [hb0, decide_eq_true_eq, decide_eq_false_iff_not, simprocAttr] at hb) <;> (try (exfalso; omega))) | ((first | refine hK _ _ ?_ | (clear hK; refine hK _ _ ?_) | (clear hK; clear hK; refine hK _ _ ?_) | (clear hK; clear hK; clear hK; refine hK _ _ ?_)); clear hK; (try simp only [pst0, simprocAttr])) | (rw [if_pos]; rotate_left 1; omega; simp (maxSteps := 2000000) only [Ty.w, simprocAttr]))
      refine owp_useQ (hS _) (by (try simp only [Ty.w, simprocAttr, ]); try rfl) ?_; simp (maxSteps := 2000000) only [Ty.w, simprocAttr, ]
      repeat' (first | (refine a_seq (fun K hK => ?_)) | (refine a_block ?_) | ((first | refine a_regionS ?_ | refine a_region (fun K hK => ?_) | refine a_ret ?_); simp (maxSteps := 2000000) only [Ty.w, simprocAttr]) | ((first | refine a_skip ?_ | refine a_exit ?_); (try simp only [pst0, simprocAttr])) | (refine a_cond _ (by (try simp (maxSteps := 2000000) only [Ty.w, simprocAttr]); rfl) (fun hb => ?_) (fun hb => ?_) <;> (try simp only [hb0, decide_eq_true_eq, decide_eq_false_iff_not, simprocAttr] at hb) <;> (try (exfalso; omega))) | (with_reducible refine ite_in (fun hb => ?_) (fun hb => ?_) <;> (try simp only [Decidable.not_not] at hb) <;> (try simp only [hb, if_true, if_false, not_false_eq_true, not_true_eq_false, ↓reduceIte]) <;> (try simp only [hb0, decide_eq_true_eq, decide_eq_false_iff_not, simprocAttr] at hb) <;> (try (exfalso; omega))) | ((first | refine hK _ _ ?_ | (clear hK; refine hK _ _ ?_) | (clear hK; clear hK; refine hK _ _ ?_) | (clear hK; clear hK; clear hK; refine hK _ _ ?_)); clear hK; (try simp only [pst0, simprocAttr])) | (rw [if_pos]; rotate_left 1; omega; simp (maxSteps := 2000000) only [Ty.w, simprocAttr]))
    | true =>
      have hsh := formedM_shaped x 0 0 (by unfold validE at hv; simp only [Bool.and_eq_true] at hv; exact hv.1)
      simp only [hv, if_true] at hW hR hV
      have hP := fun h : Heap => ParseExpr_c hx h
      rw [parseE_exW hv hsh] at hP
      have hE := rwriteE_c x hsm hsh
      have hS := fun h : Heap => same_c (l := [exW x]) (m := [exW x]) (by simp [bigN]) (by simpa using hx) h
      have e1 : sameXs [exW x] [exW x] = true := sameXs_refl _ (by simp [posXs, exW_pos])
      rw [e1] at hS
      have hQ := rsameE_c x hok x hok
      rw [exr_refl] at hQ
      have e2 : errP 0 = .sc .nilIface := rfl
      simp only [e2] at hP
      clear hsh hv hsm hok hb
      generalize exW x = X at hW hP hE hS hx
      obtain ⟨op, name, nn, args, kids⟩ := x
      obtain ⟨ki, va, li, co, te, ks⟩ := X
      simp only [Ex.cells, Sx.cells, Sx.rows] at hsz hW hR hV hP hE hS hQ ⊢
      refine pcall_body (ow := fun _ => false) (wf := fun _ => false) Ty.mixed Try.func8 rfl Ty.hb_8 (by rw [Try.ntmps8]; simp) ?_
      rw [Try.ntmps8, Try.results8]
      repeat' (first | (refine a_seq (fun K hK => ?_)) | (refine a_block ?_) | ((first | refine a_regionS ?_ | refine a_region (fun K hK => ?_) | refine a_ret ?_); simp (maxSteps := 2000000) only [Ty.w, simprocAttr]) | ((first | refine a_skip ?_ | refine a_exit ?_); (try simp only [pst0, simprocAttr])) | (refine a_cond _ (by (try simp (maxSteps := 2000000) only [Ty.w, simprocAttr]); rfl) (fun hb => ?_) (fun hb => ?_) <;> (try simp only [hb0, decide_eq_true_eq, decide_eq_false_iff_not, simprocAttr] at hb) <;> (try (exfalso; omega))) | (with_reducible refine ite_in (fun hb => ?_) (fun hb => ?_) <;> (try simp only [Decidable.not_not] at hb) <;> (try simp only [hb, if_true, if_false, not_false_eq_true, not_true_eq_false, ↓reduceIte]) <;> (try simp only [hb0, decide_eq_true_eq, decide_eq_false_iff_not, simprocAttr] at hb) <;> (try (exfalso; omega))) | ((first | refine hK _ _ ?_ | (clear hK; refine hK _ _ ?_) | (clear hK; clear hK; refine hK _ _ ?_) | (clear hK; clear hK; clear hK; refine hK _ _ ?_)); clear hK; (try simp only [pst0, simprocAttr])) | (rw [if_pos]; rotate_left 1; omega; simp (maxSteps := 2000000) only [Ty.w, simprocAttr]))
      refine owp_useQ (hsz _) (by (try simp only [Ty.w, simprocAttr, l1]); try rfl) ?_; simp (maxSteps := 2000000) only [Ty.w, simprocAttr, l1]
      repeat' (first | (refine a_seq (fun K hK => ?_)) | (refine a_block ?_) | ((first | refine a_regionS ?_ | refine a_region (fun K hK => ?_) | refine a_ret ?_); simp (maxSteps := 2000000) only [Ty.w, simprocAttr, l1]) | ((first | refine a_skip ?_ | refine a_exit ?_); (try simp only [pst0, simprocAttr])) | (refine a_cond _ (by (try simp (maxSteps := 2000000) only [Ty.w, simprocAttr, l1]); rfl) (fun hb => ?_) (fun hb => ?_) <;> (try simp only [hb0, decide_eq_true_eq, decide_eq_false_iff_not, simprocAttr] at hb) <;> (try (exfalso; omega))) | (with_reducible refine ite_in (fun hb => ?_) (fun hb => ?_) <;> (try simp only [Decidable.not_not] at hb) <;> (try simp only [hb, if_true, if_false, not_false_eq_true, not_true_eq_false, ↓reduceIte]) <;> (try simp only [hb0, decide_eq_true_eq, decide_eq_false_iff_not, simprocAttr] at hb) <;> (try (exfalso; omega))) | ((first | refine hK _ _ ?_ | (clear hK; refine hK _ _ ?_) | (clear hK; clear hK; refine hK _ _ ?_) | (clear hK; clear hK; clear hK; refine hK _ _ ?_)); clear hK; (try simp only [pst0, simprocAttr])) | (rw [if_pos]; rotate_left 1; omega; simp (maxSteps := 2000000) only [Ty.w, simprocAttr, l1]))
      refine owp_useQ (awake_c) (by (try simp only [Ty.w, simprocAttr, ]); try rfl) ?_; simp (maxSteps := 2000000) only [Ty.w, simprocAttr, ]
      repeat' (first | (refine a_seq (fun K hK => ?_)) | (refine a_block ?_) | ((first | refine a_regionS ?_ | refine a_region (fun K hK => ?_) | refine a_ret ?_); simp (maxSteps := 2000000) only [Ty.w, simprocAttr, l1, Bool.not_true]) | ((first | refine a_skip ?_ | refine a_exit ?_); (try simp only [pst0, simprocAttr])) | (refine a_cond _ (by (try simp (maxSteps := 2000000) only [Ty.w, simprocAttr, l1, Bool.not_true]); rfl) (fun hb => ?_) (fun hb => ?_) <;> (try simp only [hb0, decide_eq_true_eq, decide_eq_false_iff_not, simprocAttr] at hb) <;> (try (exfalso; omega))) | (with_reducible refine ite_in (fun hb => ?_) (fun hb => ?_) <;> (try simp only [Decidable.not_not] at hb) <;> (try simp only [hb, if_true, if_false, not_false_eq_true, not_true_eq_false, ↓reduceIte]) <;> (try simp only [hb0, decide_eq_true_eq, decide_eq_false_iff_not, simprocAttr] at hb) <;> (try (exfalso; omega))) | ((first | refine hK _ _ ?_ | (clear hK; refine hK _ _ ?_) | (clear hK; clear hK; refine hK _ _ ?_) | (clear hK; clear hK; clear hK; refine hK _ _ ?_)); clear hK; (try simp only [pst0, simprocAttr])) | (rw [if_pos]; rotate_left 1; omega; simp (maxSteps := 2000000) only [Ty.w, simprocAttr, l1, Bool.not_true]))
      refine owp_useQ (hW _) (by (try simp only [Ty.w, simprocAttr, ]); try rfl) ?_; simp (maxSteps := 2000000) only [Ty.w, simprocAttr, ]
      repeat' (first | (refine a_seq (fun K hK => ?_)) | (refine a_block ?_) | ((first | refine a_regionS ?_ | refine a_region (fun K hK => ?_) | refine a_ret ?_); simp (maxSteps := 2000000) only [Ty.w, simprocAttr]) | ((first | refine a_skip ?_ | refine a_exit ?_); (try simp only [pst0, simprocAttr])) | (refine a_cond _ (by (try simp (maxSteps := 2000000) only [Ty.w, simprocAttr]); rfl) (fun hb => ?_) (fun hb => ?_) <;> (try simp only [hb0, decide_eq_true_eq, decide_eq_false_iff_not, simprocAttr] at hb) <;> (try (exfalso; omega))) | (with_reducible refine ite_in (fun hb => ?_) (fun hb => ?_) <;> (try simp only [Decidable.not_not] at hb) <;> (try simp only [hb, if_true, if_false, not_false_eq_true, not_true_eq_false, ↓reduceIte]) <;> (try simp only [hb0, decide_eq_true_eq, decide_eq_false_iff_not, simprocAttr] at hb) <;> (try (exfalso; omega))) | ((first | refine hK _ _ ?_ | (clear hK; refine hK _ _ ?_) | (clear hK; clear hK; refine hK _ _ ?_) | (clear hK; clear hK; clear hK; refine hK _ _ ?_)); clear hK; (try simp only [pst0, simprocAttr])) | (rw [if_pos]; rotate_left 1; omega; simp (maxSteps := 2000000) only [Ty.w, simprocAttr]))
      refine owp_useQ (hR _) (by (try simp only [Ty.w, simprocAttr, ]); try rfl) ?_; simp (maxSteps := 2000000) only [Ty.w, simprocAttr, ]
      repeat' (first | (refine a_seq (fun K hK => ?_)) | (refine a_block ?_) | ((first | refine a_regionS ?_ | refine a_region (fun K hK => ?_) | refine a_ret ?_); simp (maxSteps := 2000000) only [Ty.w, simprocAttr, Bool.not_true]) | ((first | refine a_skip ?_ | refine a_exit ?_); (try simp only [pst0, simprocAttr])) | (refine a_cond _ (by (try simp (maxSteps := 2000000) only [Ty.w, simprocAttr, Bool.not_true]); rfl) (fun hb => ?_) (fun hb => ?_) <;> (try simp only [hb0, decide_eq_true_eq, decide_eq_false_iff_not, simprocAttr] at hb) <;> (try (exfalso; omega))) | (with_reducible refine ite_in (fun hb => ?_) (fun hb => ?_) <;> (try simp only [Decidable.not_not] at hb) <;> (try simp only [hb, if_true, if_false, not_false_eq_true, not_true_eq_false, ↓reduceIte]) <;> (try simp only [hb0, decide_eq_true_eq, decide_eq_false_iff_not, simprocAttr] at hb) <;> (try (exfalso; omega))) | ((first | refine hK _ _ ?_ | (clear hK; refine hK _ _ ?_) | (clear hK; clear hK; refine hK _ _ ?_) | (clear hK; clear hK; clear hK; refine hK _ _ ?_)); clear hK; (try simp only [pst0, simprocAttr])) | (rw [if_pos]; rotate_left 1; omega; simp (maxSteps := 2000000) only [Ty.w, simprocAttr, Bool.not_true]))
      refine owp_useQ (hP _) (by (try simp only [Ty.w, simprocAttr, nsucc]); try rfl) ?_; simp (maxSteps := 2000000) only [Ty.w, simprocAttr, nsucc]
      repeat' (first | (refine a_seq (fun K hK => ?_)) | (refine a_block ?_) | ((first | refine a_regionS ?_ | refine a_drawS (by decide +kernel) ?_ | refine a_region (fun K hK => ?_) | refine a_draw (by decide +kernel) (fun K hK => ?_) | refine a_ret ?_); simp (maxSteps := 2000000) only [Ty.w, simprocAttr, nsucc]) | ((first | refine a_skip ?_ | refine a_exit ?_); (try simp only [pst0, simprocAttr])) | (refine a_cond _ (by (try simp (maxSteps := 2000000) only [Ty.w, simprocAttr, nsucc]); rfl) (fun hb => ?_) (fun hb => ?_) <;> (try simp only [hb0, decide_eq_true_eq, decide_eq_false_iff_not, simprocAttr] at hb) <;> (try (exfalso; omega))) | (with_reducible refine ite_in (fun hb => ?_) (fun hb => ?_) <;> (try simp only [Decidable.not_not] at hb) <;> (try simp only [hb, if_true, if_false, not_false_eq_true, not_true_eq_false, ↓reduceIte]) <;> (try simp only [hb0, decide_eq_true_eq, decide_eq_false_iff_not, simprocAttr] at hb) <;> (try (exfalso; omega))) | ((first | refine hK _ _ ?_ | (clear hK; refine hK _ _ ?_) | (clear hK; clear hK; refine hK _ _ ?_) | (clear hK; clear hK; clear hK; refine hK _ _ ?_)); clear hK; (try simp only [pst0, simprocAttr])) | ((first | with_reducible refine a_past _ rfl (by decide +kernel) ?_ | (with_reducible refine a_past2 (by simp only [List.forall_mem_cons, Ty.w, simprocAttr, nsucc]; (repeat' apply And.intro) <;> first | trivial | exact .inl (by decide +kernel)) ?_)); try simp (maxSteps := 2000000) only [Ty.w, simprocAttr, nsucc]) | (rw [if_pos]; rotate_left 1; omega; simp (maxSteps := 2000000) only [Ty.w, simprocAttr, nsucc]))
      (first | refine a_dcall0 (hV _) (by (try simp only [Ty.w, simprocAttr, nsucc]); try rfl) ?_ | refine a_dcallA (hV _) (by (try simp only [Ty.w, simprocAttr, nsucc]); try rfl) (by simp only [Ty.w, simprocAttr, nsucc]; try trivial) ?_); simp (maxSteps := 2000000) only [Ty.w, simprocAttr, Option.getD_some, nsucc]
      repeat' (first | (refine a_seq (fun K hK => ?_)) | (refine a_block ?_) | ((first | refine a_regionS ?_ | refine a_drawS (by decide +kernel) ?_ | refine a_region (fun K hK => ?_) | refine a_draw (by decide +kernel) (fun K hK => ?_) | refine a_ret ?_); simp (maxSteps := 2000000) only [Ty.w, simprocAttr, nsucc]) | ((first | refine a_skip ?_ | refine a_exit ?_); (try simp only [pst0, simprocAttr])) | (refine a_cond _ (by (try simp (maxSteps := 2000000) only [Ty.w, simprocAttr, nsucc]); rfl) (fun hb => ?_) (fun hb => ?_) <;> (try simp only [hb0, decide_eq_true_eq, decide_eq_false_iff_not, simprocAttr] at hb) <;> (try (exfalso; omega))) | (with_reducible refine ite_in (fun hb => ?_) (fun hb => ?_) <;> (try simp only [Decidable.not_not] at hb) <;> (try simp only [hb, if_true, if_false, not_false_eq_true, not_true_eq_false, ↓reduceIte]) <;> (try simp only [hb0, decide_eq_true_eq, decide_eq_false_iff_not, simprocAttr] at hb) <;> (try (exfalso; omega))) | ((first | refine hK _ _ ?_ | (clear hK; refine hK _ _ ?_) | (clear hK; clear hK; refine hK _ _ ?_) | (clear hK; clear hK; clear hK; refine hK _ _ ?_)); clear hK; (try simp only [pst0, simprocAttr])) | ((first | with_reducible refine a_past _ rfl (by decide +kernel) ?_ | (with_reducible refine a_past2 (by simp only [List.forall_mem_cons, Ty.w, simprocAttr, nsucc]; (repeat' apply And.intro) <;> first | trivial | exact .inl (by decide +kernel)) ?_)); try simp (maxSteps := 2000000) only [Ty.w, simprocAttr, nsucc]) | (rw [if_pos]; rotate_left 1; omega; simp (maxSteps := 2000000) only [Ty.w, simprocAttr, nsucc]))
      (first | refine a_dcall0 (hE _) (by (try simp only [Ty.w, simprocAttr, nsucc]); try rfl) ?_ | refine a_dcallA (hE _) (by (try simp only [Ty.w, simprocAttr, nsucc]); try rfl) (by simp only [Ty.w, simprocAttr, nsucc]; try trivial) ?_); simp (maxSteps := 2000000) only [Ty.w, simprocAttr, Option.getD_some, nsucc]
      repeat' (first | (refine a_seq (fun K hK => ?_)) | (refine a_block ?_) | ((first | refine a_regionS ?_ | refine a_drawS (by decide +kernel) ?_ | refine a_region (fun K hK => ?_) | refine a_draw (by decide +kernel) (fun K hK => ?_) | refine a_ret ?_); simp (maxSteps := 2000000) only [Ty.w, simprocAttr, nsucc]) | ((first | refine a_skip ?_ | refine a_exit ?_); (try simp only [pst0, simprocAttr])) | (refine a_cond _ (by (try simp (maxSteps := 2000000) only [Ty.w, simprocAttr, nsucc]); rfl) (fun hb => ?_) (fun hb => ?_) <;> (try simp only [hb0, decide_eq_true_eq, decide_eq_false_iff_not, simprocAttr] at hb) <;> (try (exfalso; omega))) | (with_reducible refine ite_in (fun hb => ?_) (fun hb => ?_) <;> (try simp only [Decidable.not_not] at hb) <;> (try simp only [hb, if_true, if_false, not_false_eq_true, not_true_eq_false, ↓reduceIte]) <;> (try simp only [hb0, decide_eq_true_eq, decide_eq_false_iff_not, simprocAttr] at hb) <;> (try (exfalso; omega))) | ((first | refine hK _ _ ?_ | (clear hK; refine hK _ _ ?_) | (clear hK; clear hK; refine hK _ _ ?_) | (clear hK; clear hK; clear hK; refine hK _ _ ?_)); clear hK; (try simp only [pst0, simprocAttr])) | ((first | with_reducible refine a_past _ rfl (by decide +kernel) ?_ | (with_reducible refine a_past2 (by simp only [List.forall_mem_cons, Ty.w, simprocAttr, nsucc]; (repeat' apply And.intro) <;> first | trivial | exact .inl (by decide +kernel)) ?_)); try simp (maxSteps := 2000000) only [Ty.w, simprocAttr, nsucc]) | (rw [if_pos]; rotate_left 1; omega; simp (maxSteps := 2000000) only [Ty.w, simprocAttr, nsucc]))
      (first | refine a_dcall0 (hS _) (by (try simp only [Ty.w, simprocAttr, nsucc]); try rfl) ?_ | refine a_dcallA (hS _) (by (try simp only [Ty.w, simprocAttr, nsucc]); try rfl) (by simp only [Ty.w, simprocAttr, nsucc]; try trivial) ?_); simp (maxSteps := 2000000) only [Ty.w, simprocAttr, Option.getD_some, nsucc]
      repeat' (first | (refine a_seq (fun K hK => ?_)) | (refine a_block ?_) | ((first | refine a_regionS ?_ | refine a_drawS (by decide +kernel) ?_ | refine a_region (fun K hK => ?_) | refine a_draw (by decide +kernel) (fun K hK => ?_) | refine a_ret ?_); simp (maxSteps := 2000000) only [Ty.w, simprocAttr, nsucc]) | ((first | refine a_skip ?_ | refine a_exit ?_); (try simp only [pst0, simprocAttr])) | (refine a_cond _ (by (try simp (maxSteps := 2000000) only [Ty.w, simprocAttr, nsucc]); rfl) (fun hb => ?_) (fun hb => ?_) <;> (try simp only [hb0, decide_eq_true_eq, decide_eq_false_iff_not, simprocAttr] at hb) <;> (try (exfalso; omega))) | (with_reducible refine ite_in (fun hb => ?_) (fun hb => ?_) <;> (try simp only [Decidable.not_not] at hb) <;> (try simp only [hb, if_true, if_false, not_false_eq_true, not_true_eq_false, ↓reduceIte]) <;> (try simp only [hb0, decide_eq_true_eq, decide_eq_false_iff_not, simprocAttr] at hb) <;> (try (exfalso; omega))) | ((first | refine hK _ _ ?_ | (clear hK; refine hK _ _ ?_) | (clear hK; clear hK; refine hK _ _ ?_) | (clear hK; clear hK; clear hK; refine hK _ _ ?_)); clear hK; (try simp only [pst0, simprocAttr])) | ((first | with_reducible refine a_past _ rfl (by decide +kernel) ?_ | (with_reducible refine a_past2 (by simp only [List.forall_mem_cons, Ty.w, simprocAttr, nsucc]; (repeat' apply And.intro) <;> first | trivial | exact .inl (by decide +kernel)) ?_)); try simp (maxSteps := 2000000) only [Ty.w, simprocAttr, nsucc]) | (rw [if_pos]; rotate_left 1; omega; simp (maxSteps := 2000000) only [Ty.w, simprocAttr, nsucc]))
      (first | refine a_dcall0 (hQ _) (by (try simp only [Ty.w, simprocAttr, nsucc]); try rfl) ?_ | refine a_dcallA (hQ _) (by (try simp only [Ty.w, simprocAttr, nsucc]); try rfl) (by simp only [Ty.w, simprocAttr, nsucc]; try trivial) ?_); simp (maxSteps := 2000000) only [Ty.w, simprocAttr, Option.getD_some, nsucc]
      repeat' (first | (refine a_seq (fun K hK => ?_)) | (refine a_block ?_) | ((first | refine a_regionS ?_ | refine a_drawS (by decide +kernel) ?_ | refine a_region (fun K hK => ?_) | refine a_draw (by decide +kernel) (fun K hK => ?_) | refine a_ret ?_); simp (maxSteps := 2000000) only [Ty.w, simprocAttr, nsucc]) | ((first | refine a_skip ?_ | refine a_exit ?_); (try simp only [pst0, simprocAttr])) | (refine a_cond _ (by (try simp (maxSteps := 2000000) only [Ty.w, simprocAttr, nsucc]); rfl) (fun hb => ?_) (fun hb => ?_) <;> (try simp only [hb0, decide_eq_true_eq, decide_eq_false_iff_not, simprocAttr] at hb) <;> (try (exfalso; omega))) | (with_reducible refine ite_in (fun hb => ?_) (fun hb => ?_) <;> (try simp only [Decidable.not_not] at hb) <;> (try simp only [hb, if_true, if_false, not_false_eq_true, not_true_eq_false, ↓reduceIte]) <;> (try simp only [hb0, decide_eq_true_eq, decide_eq_false_iff_not, simprocAttr] at hb) <;> (try (exfalso; omega))) | ((first | refine hK _ _ ?_ | (clear hK; refine hK _ _ ?_) | (clear hK; clear hK; refine hK _ _ ?_) | (clear hK; clear hK; clear hK; refine hK _ _ ?_)); clear hK; (try simp only [pst0, simprocAttr])) | ((first | with_reducible refine a_past _ rfl (by decide +kernel) ?_ | (with_reducible refine a_past2 (by simp only [List.forall_mem_cons, Ty.w, simprocAttr, nsucc]; (repeat' apply And.intro) <;> first | trivial | exact .inl (by decide +kernel)) ?_)); try simp (maxSteps := 2000000) only [Ty.w, simprocAttr, nsucc]) | (rw [if_pos]; rotate_left 1; omega; simp (maxSteps := 2000000) only [Ty.w, simprocAttr, nsucc]))
end Go.Proofs.Ytjlkapgpjamnkaa
namespace Go.AM
open Go.ChangeShapes Go.WideShapes
section
variable {P : Program} {c : Nat} {t e : TypeId} {ps : List PV} {a : PV}
theorem Arg_int {k : IntKind} (hu : P.underlying t = some (.int k)) (h : Arg P (c + 1) t ps) : ∃ n, (Lit.int k n).wf = true ∧ ps = [.sc (.int k n)] := by
  unfold Arg at h; rw [hu] at h; exact h
theorem Arg_slice (hu : P.underlying t = some (.slice e)) (h : Arg P (c + 1) t ps) : ∃ rows, ps = [.imm (P.cellsOf e) rows] ∧ rows.length * P.bytesOf e ≤ reachBytes ∧ rows.length ≤ maxLen ∧ ∀ r ∈ rows, r.length = P.cellsOf e ∧ Arg P c e r := by
  unfold Arg at h; rw [hu] at h; exact h
theorem Arg_struct {fs : Array Field} (hu : P.underlying t = some (.struct fs)) (h : Arg P (c + 1) t ps) : ps.length = P.cellsOf t ∧ ∀ p ∈ partsT P t, Arg P c p.2 ((ps.drop p.1).take (P.cellsOf p.2)) := by
  unfold Arg at h; rw [hu] at h; exact h
theorem rows_map {α : Type} {Q : α → Prop} {f : α → List PV} : (rows : List (List PV)) → (∀ r ∈ rows, ∃ x, Q x ∧ r = f x) → ∃ xs : List α, rows = xs.map f ∧ ∀ x ∈ xs, Q x
  | [], _ => ⟨[], rfl, by simp⟩
  | r :: rows, h => by
    obtain ⟨xs, h1, h2⟩ := rows_map rows (fun q hq => h q (by simp [hq]))
    obtain ⟨x, h3, h4⟩ := h r (by simp)
    refine ⟨x :: xs, by simp [h1, h4], fun y hy => ?_⟩
    rcases List.mem_cons.1 hy with rfl | hy
    · exact h3
    · exact h2 y hy
theorem i64_in {n : Int} (h : (Lit.int .i64 n).wf = true) : -9223372036854775808 ≤ n ∧ n ≤ 9223372036854775807 := by
  simp [Lit.wf, IntKind.min, IntKind.max, IntKind.bits, IntKind.signed] at h
  omega
end
end Go.AM
namespace Go.Proofs.Ytjlkapgpjamnkaa
open Go.AM
set_option maxHeartbeats 1000000
set_option maxRecDepth 20000
def recTs : List TypeId := [29, 57, 99, 9, 3, 24, 25, 26, 27]
theorem parts57 : partsT Try.prog 57 = [(0, 9), (1, 9), (2, 3), (3, 24), (4, 26)] := by kernel_rfl
theorem co9 : Try.prog.cellsOf 9 = 1 := by kernel_rfl
theorem co3 : Try.prog.cellsOf 3 = 1 := by kernel_rfl
theorem co24 : Try.prog.cellsOf 24 = 1 := by kernel_rfl
theorem co26 : Try.prog.cellsOf 26 = 1 := by kernel_rfl
theorem co57 : Try.prog.cellsOf 57 = 5 := by kernel_rfl
theorem by9 : 0 < Try.prog.bytesOf 9 := by rw [show Try.prog.bytesOf 9 = 16 by kernel_rfl]; omega
theorem by57 : 0 < Try.prog.bytesOf 57 := by rw [show Try.prog.bytesOf 57 = 88 by kernel_rfl]; omega
theorem len_le {n b : Nat} (h : n * b ≤ reachBytes) (hb : 0 < b) : n ≤ bigN := by
  have := Nat.le_mul_of_pos_right n hb
  unfold reachBytes at h
  unfold bigN
  omega
theorem arg_str {c : Nat} {ps : List PV} (h : Arg Try.prog c 9 ps) : ∃ s : ByteArray, s.size ≤ bigN ∧ ps = [sPV s] := by
  cases c with
  | zero => simp [Arg] at h
  | succ c =>
    unfold Arg at h
    rw [Try.underlying9] at h
    obtain ⟨s, h1, h2⟩ := h
    exact ⟨s, by unfold reachBytes at h1; unfold bigN; omega, h2⟩
theorem arg_i64 {c : Nat} {ps : List PV} (h : Arg Try.prog c 3 ps) : ∃ n : Int, (-9223372036854775808 ≤ n ∧ n ≤ 9223372036854775807) ∧ ps = [.sc (.int .i64 n)] := by
  cases c with
  | zero => simp [Arg] at h
  | succ c =>
    obtain ⟨n, h1, h2⟩ := Arg_int Try.underlying3 h
    exact ⟨n, i64_in h1, h2⟩
theorem arg_strs {c : Nat} {ps : List PV} (h : Arg Try.prog c 24 ps) : ∃ l : List ByteArray, (l.length ≤ bigN ∧ ∀ a ∈ l, a.size ≤ bigN) ∧ ps = [.imm 1 (strRows l)] := by
  cases c with
  | zero => simp [Arg] at h
  | succ c =>
    obtain ⟨rows, rfl, h1, _, h2⟩ := Arg_slice Try.underlying24 h
    obtain ⟨xs, rfl, h3⟩ := rows_map (Q := fun s : ByteArray => s.size ≤ bigN) (f := fun s => [sPV s]) rows (fun r hr => arg_str (h2 r hr).2)
    refine ⟨xs, ⟨len_le (by simpa using h1) by9, h3⟩, ?_⟩
    rw [co9]; try rfl
theorem arg_ex : ∀ (c : Nat) {ps : List PV}, Arg Try.prog c 57 ps → ∃ e : Ex, e.ok ∧ ps = e.cells := by
  intro c
  induction c using Nat.strongRecOn with
  | _ c ih =>
    intro ps h
    cases c with
    | zero => simp [Arg] at h
    | succ c =>
      obtain ⟨h1, h2⟩ := Arg_struct Try.underlying57 h
      rw [co57] at h1
      rw [parts57] at h2
      match ps, h1, h2 with
      | [p0, p1, p2, p3, p4], _, h2 =>
        have a0 := h2 (0, 9) (by simp)
        have a1 := h2 (1, 9) (by simp)
        have a2 := h2 (2, 3) (by simp)
        have a3 := h2 (3, 24) (by simp)
        have a4 := h2 (4, 26) (by simp)
        simp only [co9, co3, co24, co26, List.drop_zero, List.drop_succ_cons, List.take_succ_cons, List.take_zero] at a0 a1 a2 a3 a4
        obtain ⟨op, hop, e0⟩ := arg_str a0
        obtain ⟨name, hname, e1⟩ := arg_str a1
        obtain ⟨n, hn, e2⟩ := arg_i64 a2
        obtain ⟨args, hargs, e3⟩ := arg_strs a3
        cases c with
        | zero => simp [Arg] at a4
        | succ c =>
          obtain ⟨rows, e4, h3, _, h4⟩ := Arg_slice Try.underlying26 a4
          obtain ⟨xs, rfl, h5⟩ := rows_map (Q := Ex.ok) (f := Ex.cells) rows (fun r hr => ih c (by omega) (h4 r hr).2)
          rw [co57] at e4
          simp at e0 e1 e2 e3 e4
          refine ⟨.mk op name n args xs, ?_, ?_⟩
          · simp only [Ex.ok]
            exact ⟨hop, hname, hn, hargs, len_le (by simpa using h3) by57, Ex.oks_iff.2 h5⟩
          · simp only [Ex.cells, e0, e1, e2, e3, e4, Ex.rows_map]
end Go.Proofs.Ytjlkapgpjamnkaa
