/- What the claim rests on, part 6: the abstract machine, contracts of the functions, plain data. -/
import Derived.Test.YtjlkapgpjamnkaaZb5
set_option linter.unusedVariables false
set_option linter.unusedSimpArgs false
set_option linter.unusedSectionVars false
namespace Go.Proofs.Ytjlkapgpjamnkaa
open Go.AM
set_option maxHeartbeats 8000000
set_option maxRecDepth 20000
def pmR (v : Bool) (p : Pm) : Bool := (if v = true then varB p.name else nameB p.name) && typedB p.type
theorem pmR_ok : pmR true = pmOk := rfl
theorem a_genR {P : Program} {ow : Nat → Bool} {wf : FuncId → Bool} {n : Nat} {Q : Post} {s : Slots} {h : Heap} {c : Code} (I : Slots → Heap → Prop) (hi : I s h) (hh : ∀ s h, I s h → awp P ow wf n c Q s h) : awp P ow wf n c Q s h := hh _ _ hi
theorem rshapedPs_c {v : Bool} {l : List Pm} (hl : l.length ≤ bigN) (hp : ∀ p ∈ l, p.ok) (h : Heap) : PCall Try.prog 96 [.imm 2 (pmRows l), .sc (.bool v)] h fun r h' => r = .sc (.bool (l.all (pmR v))) ∧ h' = h := by
 unfold bigN at hl
 have hlen := pmRows_len l
 cases v with
 | true =>
  refine pcall_body (ow := fun _ => false) (wf := fun _ => false) Ty.mixed Try.func96 rfl Ty.hb_96 (by rw [Try.ntmps96]; simp) ?_
  rw [Try.ntmps96, Try.results96]
  repeat' (first | refine a_seq fun K hK => ?_ | (refine a_block ?_) | (refine a_regionS ?_; simp (maxSteps := 2000000) only [Ty.w, simprocAttr, hlen]) | (refine hK _ _ ?_; clear hK; try simp only [pst0, simprocAttr]))
  refine a_loop (fun m S h' => h' = h ∧ S 0 = .imm 2 (pmRows l) ∧ S 1 = .sc (.bool true) ∧ ∃ k : Nat, S 5 = .sc (.int .i64 k) ∧ k ≤ l.length ∧ m = l.length - k ∧ l.all (pmR true) = (l.drop k).all (pmR true)) l.length ?_ ?_
  ·simp only [Ty.w, simprocAttr]
   exact ⟨0, rfl, by omega, rfl, by simp⟩
  ·rintro m S h' ⟨rfl, g0, g1, k, g5, hk, rfl, hinv⟩
   by_cases hlt : k < l.length
   ·have hd : decide ((k : Int) < (l.length : Int)) = true := by simp; omega
    have w7 : IntKind.i64.wrap ((k : Int) + 1) = k + 1 := by rw [wrap64 (by omega) (by omega)]
    obtain ⟨p, hx⟩ : ∃ p, l[k]? = some p := ⟨l[k], List.getElem?_eq_getElem hlt⟩
    have hr := pmRows_get hx
    have hpo := hp p (List.mem_of_getElem? hx)
    have h1 : p.name.size ≤ 9223372036854775807 := by have := hpo.1; unfold bigN at this; omega
    have h2 : p.type.size ≤ 9223372036854775807 := by have := hpo.2; unfold bigN at this; omega
    have hc := fun h : Heap => rvariable_c (h := h) (s := p.name) h1
    have hc2 := fun h : Heap => rname_c (h := h) (s := p.type) h2
    rw [drop_of_get hx, List.all_cons] at hinv
    have hq : pmR true p = (varB p.name && (nameB p.type || (p.type.data.toList == (#[111, 98, 106, 101, 99, 116] : Array UInt8).toList))) := rfl
    rw [hq] at hinv
    clear hq
    generalize varB p.name = b at hc hinv
    generalize nameB p.type = b2 at hc2 hinv
    cases b with
    | false =>
     simp only [Bool.false_and] at hinv
     repeat' (first | refine a_seq fun K hK => ?_ | (refine a_regionS ?_; simp (maxSteps := 2000000) only [Ty.w, simprocAttr, g0, g1, g5, hd, hr, bne, Bool.not_true, Bool.not_false]) | (refine a_skip ?_; try simp only [pst0, simprocAttr]) | (refine a_cond _ (by (try simp (maxSteps := 2000000) only [Ty.w, simprocAttr, g0, g1, g5, hd, hr, bne, Bool.not_true, Bool.not_false]); rfl) (fun hb => ?_) (fun hb => ?_) <;> (try simp only [hb0, decide_eq_true_eq, decide_eq_false_iff_not, simprocAttr] at hb) <;> (try (exfalso; omega))) | (refine hK _ _ ?_; clear hK; try simp only [pst0, simprocAttr]))
     refine owp_useQ (hc _) (by (try simp only [Ty.w, simprocAttr, g0, g1, g5, hd, hr, bne, Bool.not_true, Bool.not_false]); try rfl) ?_; simp (maxSteps := 2000000) only [Ty.w, simprocAttr, g0, g1, g5, hd, hr, bne, Bool.not_true, Bool.not_false]
     repeat' (first | refine a_seq fun K hK => ?_ | ((first | refine a_regionS ?_ | refine a_ret ?_); simp (maxSteps := 2000000) only [Ty.w, simprocAttr, g0, g1, g5, hd, hr, bne, Bool.not_true, Bool.not_false]) | (refine hK _ _ ?_; clear hK; try simp only [pst0, simprocAttr]))
     rw [hinv]
    | true =>
     cases q : (p.type.data.toList == (#[111, 98, 106, 101, 99, 116] : Array UInt8).toList) with
     | true =>
      simp only [q, Bool.or_true, Bool.true_and] at hinv
      repeat' (first | refine a_seq fun K hK => ?_ | (refine a_regionS ?_; simp (maxSteps := 2000000) only [Ty.w, simprocAttr, g0, g1, g5, hd, hr, bne, Bool.not_true, Bool.not_false, q]) | (refine a_skip ?_; try simp only [pst0, simprocAttr]) | (refine a_cond _ (by (try simp (maxSteps := 2000000) only [Ty.w, simprocAttr, g0, g1, g5, hd, hr, bne, Bool.not_true, Bool.not_false, q]); rfl) (fun hb => ?_) (fun hb => ?_) <;> (try simp only [hb0, decide_eq_true_eq, decide_eq_false_iff_not, simprocAttr] at hb) <;> (try (exfalso; omega))) | (refine hK _ _ ?_; clear hK; try simp only [pst0, simprocAttr]))
      refine owp_useQ (hc _) (by (try simp only [Ty.w, simprocAttr, g0, g1, g5, hd, hr, bne, Bool.not_true, Bool.not_false, q]); try rfl) ?_; simp (maxSteps := 2000000) only [Ty.w, simprocAttr, g0, g1, g5, hd, hr, bne, Bool.not_true, Bool.not_false, q]
      repeat' (first | (refine a_block ?_) | (refine a_regionS ?_; simp (maxSteps := 2000000) only [Ty.w, simprocAttr, g0, g1, g5, hd, hr, bne, Bool.not_true, Bool.not_false, q, w7]) | (refine a_skip ?_; try simp only [pst0, simprocAttr]) | (refine hK _ _ ?_; clear hK; try simp only [pst0, simprocAttr]))
      exact ⟨l.length - (k + 1), by omega, k + 1, by simp, by omega, rfl, hinv⟩
     | false =>
      cases b2 with
      | false =>
       simp only [q, Bool.or_false, Bool.false_and, Bool.and_false] at hinv
       have W := And.intro g0 (And.intro g1 (And.intro g5 (And.intro hd (And.intro hr q))))
       repeat' (first | refine a_seq fun K hK => ?_ | (refine a_regionS ?_; simp (maxSteps := 2000000) only [Ty.w, simprocAttr, W, bne, Bool.not_true, Bool.not_false]) | (refine a_skip ?_; try simp only [pst0, simprocAttr]) | (refine a_cond _ (by (try simp (maxSteps := 2000000) only [Ty.w, simprocAttr, W, bne, Bool.not_true, Bool.not_false]); rfl) (fun hb => ?_) (fun hb => ?_) <;> (try simp only [hb0, decide_eq_true_eq, decide_eq_false_iff_not, simprocAttr] at hb) <;> (try (exfalso; omega))) | (refine hK _ _ ?_; clear hK; try simp only [pst0, simprocAttr]))
       refine owp_useQ (hc _) (by (try simp only [Ty.w, simprocAttr, W, bne, Bool.not_true, Bool.not_false]); try rfl) ?_; simp (maxSteps := 2000000) only [Ty.w, simprocAttr, W, bne, Bool.not_true, Bool.not_false]
       skip
       refine owp_useQ (hc2 _) (by (try simp only [Ty.w, simprocAttr, W, bne, Bool.not_true, Bool.not_false]); try rfl) ?_; simp (maxSteps := 2000000) only [Ty.w, simprocAttr, W, bne, Bool.not_true, Bool.not_false]
       repeat' (first | refine a_seq fun K hK => ?_ | ((first | refine a_regionS ?_ | refine a_ret ?_); simp (maxSteps := 2000000) only [Ty.w, simprocAttr, W, bne, Bool.not_true, Bool.not_false]) | (refine hK _ _ ?_; clear hK; try simp only [pst0, simprocAttr]))
       rw [hinv]
      | true =>
       simp only [q, Bool.or_false, Bool.true_and] at hinv
       have W := And.intro g0 (And.intro g1 (And.intro g5 (And.intro hd (And.intro hr q))))
       repeat' (first | refine a_seq fun K hK => ?_ | (refine a_regionS ?_; simp (maxSteps := 2000000) only [Ty.w, simprocAttr, W, bne, Bool.not_true, Bool.not_false]) | (refine a_skip ?_; try simp only [pst0, simprocAttr]) | (refine a_cond _ (by (try simp (maxSteps := 2000000) only [Ty.w, simprocAttr, W, bne, Bool.not_true, Bool.not_false]); rfl) (fun hb => ?_) (fun hb => ?_) <;> (try simp only [hb0, decide_eq_true_eq, decide_eq_false_iff_not, simprocAttr] at hb) <;> (try (exfalso; omega))) | (refine hK _ _ ?_; clear hK; try simp only [pst0, simprocAttr]))
       refine owp_useQ (hc _) (by (try simp only [Ty.w, simprocAttr, W, bne, Bool.not_true, Bool.not_false]); try rfl) ?_; simp (maxSteps := 2000000) only [Ty.w, simprocAttr, W, bne, Bool.not_true, Bool.not_false]
       skip
       refine owp_useQ (hc2 _) (by (try simp only [Ty.w, simprocAttr, W, bne, Bool.not_true, Bool.not_false]); try rfl) ?_; simp (maxSteps := 2000000) only [Ty.w, simprocAttr, W, bne, Bool.not_true, Bool.not_false]
       repeat' (first | (refine a_block ?_) | (refine a_regionS ?_; simp (maxSteps := 2000000) only [Ty.w, simprocAttr, W, bne, Bool.not_true, Bool.not_false, w7]) | (refine a_skip ?_; try simp only [pst0, simprocAttr]) | (refine hK _ _ ?_; clear hK; try simp only [pst0, simprocAttr]))
       exact ⟨l.length - (k + 1), by omega, k + 1, by simp, by omega, rfl, hinv⟩
   ·have hd : decide ((k : Int) < (l.length : Int)) = false := by simp; omega
    rw [List.drop_eq_nil_of_le (by omega)] at hinv
    repeat' (first | refine a_seq fun K hK => ?_ | ((first | refine a_regionS ?_ | refine a_ret ?_); simp (maxSteps := 2000000) only [Ty.w, simprocAttr, g0, g1, g5, hlen, hd]) | (refine a_exit ?_; try simp only [pst0, simprocAttr]) | (refine a_cond _ (by (try simp (maxSteps := 2000000) only [Ty.w, simprocAttr, g0, g1, g5, hlen, hd]); rfl) (fun hb => ?_) (fun hb => ?_) <;> (try simp only [hb0, decide_eq_true_eq, decide_eq_false_iff_not, simprocAttr] at hb) <;> (try (exfalso; omega))) | ((first | refine hK _ _ ?_ | (clear hK; refine hK _ _ ?_)); clear hK; try simp only [pst0, simprocAttr]))
    rw [hinv]; try rfl
 | false =>
  refine pcall_body (ow := fun _ => false) (wf := fun _ => false) Ty.mixed Try.func96 rfl Ty.hb_96 (by rw [Try.ntmps96]; simp) ?_
  rw [Try.ntmps96, Try.results96]
  repeat' (first | refine a_seq fun K hK => ?_ | (refine a_block ?_) | (refine a_regionS ?_; simp (maxSteps := 2000000) only [Ty.w, simprocAttr, hlen]) | (refine hK _ _ ?_; clear hK; try simp only [pst0, simprocAttr]))
  refine a_loop (fun m S h' => h' = h ∧ S 0 = .imm 2 (pmRows l) ∧ S 1 = .sc (.bool false) ∧ ∃ k : Nat, S 5 = .sc (.int .i64 k) ∧ k ≤ l.length ∧ m = l.length - k ∧ l.all (pmR false) = (l.drop k).all (pmR false)) l.length ?_ ?_
  ·simp only [Ty.w, simprocAttr]
   exact ⟨0, rfl, by omega, rfl, by simp⟩
  ·rintro m S h' ⟨rfl, g0, g1, k, g5, hk, rfl, hinv⟩
   by_cases hlt : k < l.length
   ·have hd : decide ((k : Int) < (l.length : Int)) = true := by simp; omega
    have w7 : IntKind.i64.wrap ((k : Int) + 1) = k + 1 := by rw [wrap64 (by omega) (by omega)]
    obtain ⟨p, hx⟩ : ∃ p, l[k]? = some p := ⟨l[k], List.getElem?_eq_getElem hlt⟩
    have hr := pmRows_get hx
    have hpo := hp p (List.mem_of_getElem? hx)
    have h1 : p.name.size ≤ 9223372036854775807 := by have := hpo.1; unfold bigN at this; omega
    have h2 : p.type.size ≤ 9223372036854775807 := by have := hpo.2; unfold bigN at this; omega
    have hc := fun h : Heap => rname_c (h := h) (s := p.name) h1
    have hc2 := fun h : Heap => rname_c (h := h) (s := p.type) h2
    rw [drop_of_get hx, List.all_cons] at hinv
    have hq : pmR false p = (nameB p.name && (nameB p.type || (p.type.data.toList == (#[111, 98, 106, 101, 99, 116] : Array UInt8).toList))) := rfl
    rw [hq] at hinv
    clear hq
    generalize nameB p.name = b at hc hinv
    generalize nameB p.type = b2 at hc2 hinv
    cases b with
    | false =>
     simp only [Bool.false_and] at hinv
     repeat' (first | refine a_seq fun K hK => ?_ | (refine a_regionS ?_; simp (maxSteps := 2000000) only [Ty.w, simprocAttr, g0, g1, g5, hd, hr, bne, Bool.not_true, Bool.not_false]) | (refine a_skip ?_; try simp only [pst0, simprocAttr]) | (refine a_cond _ (by (try simp (maxSteps := 2000000) only [Ty.w, simprocAttr, g0, g1, g5, hd, hr, bne, Bool.not_true, Bool.not_false]); rfl) (fun hb => ?_) (fun hb => ?_) <;> (try simp only [hb0, decide_eq_true_eq, decide_eq_false_iff_not, simprocAttr] at hb) <;> (try (exfalso; omega))) | (refine hK _ _ ?_; clear hK; try simp only [pst0, simprocAttr]))
     refine owp_useQ (hc _) (by (try simp only [Ty.w, simprocAttr, g0, g1, g5, hd, hr, bne, Bool.not_true, Bool.not_false]); try rfl) ?_; simp (maxSteps := 2000000) only [Ty.w, simprocAttr, g0, g1, g5, hd, hr, bne, Bool.not_true, Bool.not_false]
     repeat' (first | refine a_seq fun K hK => ?_ | ((first | refine a_regionS ?_ | refine a_ret ?_); simp (maxSteps := 2000000) only [Ty.w, simprocAttr, g0, g1, g5, hd, hr, bne, Bool.not_true, Bool.not_false]) | (refine hK _ _ ?_; clear hK; try simp only [pst0, simprocAttr]))
     rw [hinv]
    | true =>
     cases q : (p.type.data.toList == (#[111, 98, 106, 101, 99, 116] : Array UInt8).toList) with
     | true =>
      simp only [q, Bool.or_true, Bool.true_and] at hinv
      repeat' (first | refine a_seq fun K hK => ?_ | (refine a_regionS ?_; simp (maxSteps := 2000000) only [Ty.w, simprocAttr, g0, g1, g5, hd, hr, bne, Bool.not_true, Bool.not_false, q]) | (refine a_skip ?_; try simp only [pst0, simprocAttr]) | (refine a_cond _ (by (try simp (maxSteps := 2000000) only [Ty.w, simprocAttr, g0, g1, g5, hd, hr, bne, Bool.not_true, Bool.not_false, q]); rfl) (fun hb => ?_) (fun hb => ?_) <;> (try simp only [hb0, decide_eq_true_eq, decide_eq_false_iff_not, simprocAttr] at hb) <;> (try (exfalso; omega))) | (refine hK _ _ ?_; clear hK; try simp only [pst0, simprocAttr]))
      refine owp_useQ (hc _) (by (try simp only [Ty.w, simprocAttr, g0, g1, g5, hd, hr, bne, Bool.not_true, Bool.not_false, q]); try rfl) ?_; simp (maxSteps := 2000000) only [Ty.w, simprocAttr, g0, g1, g5, hd, hr, bne, Bool.not_true, Bool.not_false, q]
      repeat' (first | (refine a_block ?_) | (refine a_regionS ?_; simp (maxSteps := 2000000) only [Ty.w, simprocAttr, g0, g1, g5, hd, hr, bne, Bool.not_true, Bool.not_false, q, w7]) | (refine a_skip ?_; try simp only [pst0, simprocAttr]) | (refine hK _ _ ?_; clear hK; try simp only [pst0, simprocAttr]))
      exact ⟨l.length - (k + 1), by omega, k + 1, by simp, by omega, rfl, hinv⟩
     | false =>
      cases b2 with
      | false =>
       simp only [q, Bool.or_false, Bool.false_and, Bool.and_false] at hinv
       have W := And.intro g0 (And.intro g1 (And.intro g5 (And.intro hd (And.intro hr q))))
       repeat' (first | refine a_seq fun K hK => ?_ | (refine a_regionS ?_; simp (maxSteps := 2000000) only [Ty.w, simprocAttr, W, bne, Bool.not_true, Bool.not_false]) | (refine a_skip ?_; try simp only [pst0, simprocAttr]) | (refine a_cond _ (by (try simp (maxSteps := 2000000) only [Ty.w, simprocAttr, W, bne, Bool.not_true, Bool.not_false]); rfl) (fun hb => ?_) (fun hb => ?_) <;> (try simp only [hb0, decide_eq_true_eq, decide_eq_false_iff_not, simprocAttr] at hb) <;> (try (exfalso; omega))) | (refine hK _ _ ?_; clear hK; try simp only [pst0, simprocAttr]))
       refine owp_useQ (hc _) (by (try simp only [Ty.w, simprocAttr, W, bne, Bool.not_true, Bool.not_false]); try rfl) ?_; simp (maxSteps := 2000000) only [Ty.w, simprocAttr, W, bne, Bool.not_true, Bool.not_false]
       skip
       refine owp_useQ (hc2 _) (by (try simp only [Ty.w, simprocAttr, W, bne, Bool.not_true, Bool.not_false]); try rfl) ?_; simp (maxSteps := 2000000) only [Ty.w, simprocAttr, W, bne, Bool.not_true, Bool.not_false]
       repeat' (first | refine a_seq fun K hK => ?_ | ((first | refine a_regionS ?_ | refine a_ret ?_); simp (maxSteps := 2000000) only [Ty.w, simprocAttr, W, bne, Bool.not_true, Bool.not_false]) | (refine hK _ _ ?_; clear hK; try simp only [pst0, simprocAttr]))
       rw [hinv]
      | true =>
       simp only [q, Bool.or_false, Bool.true_and] at hinv
       have W := And.intro g0 (And.intro g1 (And.intro g5 (And.intro hd (And.intro hr q))))
       repeat' (first | refine a_seq fun K hK => ?_ | (refine a_regionS ?_; simp (maxSteps := 2000000) only [Ty.w, simprocAttr, W, bne, Bool.not_true, Bool.not_false]) | (refine a_skip ?_; try simp only [pst0, simprocAttr]) | (refine a_cond _ (by (try simp (maxSteps := 2000000) only [Ty.w, simprocAttr, W, bne, Bool.not_true, Bool.not_false]); rfl) (fun hb => ?_) (fun hb => ?_) <;> (try simp only [hb0, decide_eq_true_eq, decide_eq_false_iff_not, simprocAttr] at hb) <;> (try (exfalso; omega))) | (refine hK _ _ ?_; clear hK; try simp only [pst0, simprocAttr]))
       refine owp_useQ (hc _) (by (try simp only [Ty.w, simprocAttr, W, bne, Bool.not_true, Bool.not_false]); try rfl) ?_; simp (maxSteps := 2000000) only [Ty.w, simprocAttr, W, bne, Bool.not_true, Bool.not_false]
       skip
       refine owp_useQ (hc2 _) (by (try simp only [Ty.w, simprocAttr, W, bne, Bool.not_true, Bool.not_false]); try rfl) ?_; simp (maxSteps := 2000000) only [Ty.w, simprocAttr, W, bne, Bool.not_true, Bool.not_false]
       repeat' (first | (refine a_block ?_) | (refine a_regionS ?_; simp (maxSteps := 2000000) only [Ty.w, simprocAttr, W, bne, Bool.not_true, Bool.not_false, w7]) | (refine a_skip ?_; try simp only [pst0, simprocAttr]) | (refine hK _ _ ?_; clear hK; try simp only [pst0, simprocAttr]))
       exact ⟨l.length - (k + 1), by omega, k + 1, by simp, by omega, rfl, hinv⟩
   ·have hd : decide ((k : Int) < (l.length : Int)) = false := by simp; omega
    rw [List.drop_eq_nil_of_le (by omega)] at hinv
    repeat' (first | refine a_seq fun K hK => ?_ | ((first | refine a_regionS ?_ | refine a_ret ?_); simp (maxSteps := 2000000) only [Ty.w, simprocAttr, g0, g1, g5, hlen, hd]) | (refine a_exit ?_; try simp only [pst0, simprocAttr]) | (refine a_cond _ (by (try simp (maxSteps := 2000000) only [Ty.w, simprocAttr, g0, g1, g5, hlen, hd]); rfl) (fun hb => ?_) (fun hb => ?_) <;> (try simp only [hb0, decide_eq_true_eq, decide_eq_false_iff_not, simprocAttr] at hb) <;> (try (exfalso; omega))) | ((first | refine hK _ _ ?_ | (clear hK; refine hK _ _ ?_)); clear hK; try simp only [pst0, simprocAttr]))
    rw [hinv]; try rfl
theorem rshapedF_c : ∀ f : Fm, f.ok → ∀ h : Heap, PCall Try.prog 57 [.agg f.cells] h fun r h' => r = .sc (.bool (shapedF f)) ∧ h' = h := by
 refine Fm.ind ?_
 intro op name args params exprs kids ih hok h
 simp only [Fm.ok] at hok
 obtain ⟨_, hnm, ⟨hal, hargs⟩, ⟨hpl, hps⟩, ⟨hel, hes⟩, hkl, hks⟩ := hok
 rw [Ex.oks_iff] at hes
 rw [Fm.oks_iff] at hks
 have hnm' : name.size ≤ 9223372036854775807 := by unfold bigN at hnm; omega
 have hP := fun h : Heap => rshapedPs_c (v := true) hpl hps h
 rw [pmR_ok] at hP
 have hA := fun h : Heap => rall_c (h := h) hal hargs
 have hN := fun h : Heap => rname_c (h := h) (s := name) hnm'
 unfold bigN at hal hpl hel hkl
 have hlA := strRows_len args
 have hlP := pmRows_len params
 have hlE := Ex.rows_len exprs
 have hlK := Fm.rows_len kids
 have hbK : ∀ k ∈ kids, shapedF k = false → shapedF (.mk op name args params exprs kids) = false := fun k hk hf => by
  cases hh : shapedF (.mk op name args params exprs kids) with
  | false => rfl
  | true => rw [(shapedF_kid hh).2 k hk] at hf; simp at hf
 have hbE : ∀ e ∈ exprs, shapedE e = false → shapedF (.mk op name args params exprs kids) = false := fun k hk hf => by
  cases hh : shapedF (.mk op name args params exprs kids) with
  | false => rfl
  | true => rw [(shapedF_kid hh).1 k hk] at hf; simp at hf
 have hop : (∀ e ∈ exprs, shapedE e = true) → (∀ k ∈ kids, shapedF k = true) → shapedF (.mk op name args params exprs kids) = opF op name args params exprs.length kids.length := shapedF_op
 generalize shapedF (.mk op name args params exprs kids) = F at hbK hbE hop
 simp only [Fm.cells]
 refine pcall_body (ow := fun _ => false) (wf := fun _ => false) Ty.mixed Try.func57 rfl Ty.hb_57 (by rw [Try.ntmps57]; simp) ?_
 rw [Try.ntmps57, Try.results57]
 repeat' (first | refine a_seq fun K hK => ?_ | (refine a_block ?_) | (refine a_regionS ?_; simp (maxSteps := 2000000) only [Ty.w, simprocAttr, hlK]) | (refine hK _ _ ?_; clear hK; try simp only [pst0, simprocAttr]))
 refine a_loop (fun m S h' => h' = h ∧ S 1 = .cptr (Fm.mk op name args params exprs kids).cells ∧ ∃ k : Nat, S 3 = .sc (.int .i64 k) ∧ k ≤ kids.length ∧ m = kids.length - k ∧ ∀ (i : Nat) (e : Fm), i < k → kids[i]? = some e → shapedF e = true) kids.length ?_ ?_
 ·simp only [Ty.w, simprocAttr]
  exact ⟨rfl, 0, rfl, by omega, rfl, by omega⟩
 ·rintro m S h' ⟨rfl, g1, k, g3, hkk, rfl, hall⟩
  simp only [Fm.cells] at g1
  by_cases hlt : k < kids.length
  ·clear hop hbE
   have hd : decide ((k : Int) < (kids.length : Int)) = true := by simp; omega
   have w7 : IntKind.i64.wrap ((k : Int) + 1) = k + 1 := by rw [wrap64 (by omega) (by omega)]
   obtain ⟨e, hx⟩ : ∃ e, kids[k]? = some e := ⟨_, List.getElem?_eq_getElem hlt⟩
   have hmem := List.mem_of_getElem? hx
   have hc := ih e hmem (hks e hmem)
   have hr := Fm.rows_get hx
   have hbad := hbK e hmem
   have hgood : shapedF e = true → ∀ (i : Nat) (e : Fm), i < k + 1 → kids[i]? = some e → shapedF e = true := fun h1 i e2 hi hw => by
    by_cases hik : i = k
    ·subst hik; rw [hx] at hw; simp at hw; rw [← hw]; exact h1
    ·exact hall i e2 (by omega) hw
   generalize shapedF e = b at hc hbad hgood
   clear hbK hall
   obtain ⟨o2, n2, a2, p2, e2, k2⟩ := e
   simp only [Fm.cells] at hr hc
   cases b with
   | false =>
    have := hbad rfl
    subst this
    repeat' (first | refine a_seq fun K hK => ?_ | (refine a_regionS ?_; simp (maxSteps := 2000000) only [Ty.w, simprocAttr, g1, g3, hlK, hd, hr, w7]) | (refine a_skip ?_; try simp only [pst0, simprocAttr]) | (refine a_cond _ (by (try simp (maxSteps := 2000000) only [Ty.w, simprocAttr, g1, g3, hlK, hd, hr, w7]); rfl) (fun hb => ?_) (fun hb => ?_) <;> (try simp only [hb0, decide_eq_true_eq, decide_eq_false_iff_not, simprocAttr] at hb) <;> (try (exfalso; omega))) | (refine hK _ _ ?_; clear hK; try simp only [pst0, simprocAttr]))
    refine owp_useQ (hc _) (by (try simp only [Ty.w, simprocAttr, g1, g3, hlK, hd, hr, Bool.not_false]); try rfl) ?_; simp (maxSteps := 2000000) only [Ty.w, simprocAttr, g1, g3, hlK, hd, hr, Bool.not_false]
    repeat' (first | refine a_seq fun K hK => ?_ | ((first | refine a_regionS ?_ | refine a_ret ?_); simp (maxSteps := 2000000) only [Ty.w, simprocAttr, g1, g3, w7, Bool.not_false]) | (refine hK _ _ ?_; clear hK; try simp only [pst0, simprocAttr]))
   | true =>
    repeat' (first | refine a_seq fun K hK => ?_ | (refine a_regionS ?_; simp (maxSteps := 2000000) only [Ty.w, simprocAttr, g1, g3, hlK, hd, hr, w7]) | (refine a_skip ?_; try simp only [pst0, simprocAttr]) | (refine a_cond _ (by (try simp (maxSteps := 2000000) only [Ty.w, simprocAttr, g1, g3, hlK, hd, hr, w7]); rfl) (fun hb => ?_) (fun hb => ?_) <;> (try simp only [hb0, decide_eq_true_eq, decide_eq_false_iff_not, simprocAttr] at hb) <;> (try (exfalso; omega))) | (refine hK _ _ ?_; clear hK; try simp only [pst0, simprocAttr]))
    refine owp_useQ (hc _) (by (try simp only [Ty.w, simprocAttr, g1, g3, hlK, hd, hr, Bool.not_true]); try rfl) ?_; simp (maxSteps := 2000000) only [Ty.w, simprocAttr, g1, g3, hlK, hd, hr, Bool.not_true]
    repeat' (first | (refine a_block ?_) | (refine a_regionS ?_; simp (maxSteps := 2000000) only [Ty.w, simprocAttr, g1, g3, w7, Bool.not_true]) | (refine a_skip ?_; try simp only [pst0, simprocAttr]) | (refine hK _ _ ?_; clear hK; try simp only [pst0, simprocAttr]))
    exact ⟨kids.length - (k + 1), by omega, rfl, k + 1, by simp, by omega, rfl, hgood rfl⟩
  ·have hd : decide ((k : Int) < (kids.length : Int)) = false := by simp; omega
   have hop2 := fun hE => hop hE fun e he => by
    obtain ⟨i, hi⟩ := List.getElem?_of_mem he
    exact hall i e (by have := (List.getElem?_eq_some_iff.1 hi).1; omega) hi
   clear hop hall hbK ih
   repeat' (first | refine a_seq fun K hK => ?_ | (refine a_block ?_) | (refine a_regionS ?_; simp (maxSteps := 2000000) only [Ty.w, simprocAttr, g1, g3, hlK, hd]) | (refine a_exit ?_; try simp only [pst0, simprocAttr]) | (refine a_cond _ (by (try simp (maxSteps := 2000000) only [Ty.w, simprocAttr, g1, g3, hlK, hd]); rfl) (fun hb => ?_) (fun hb => ?_) <;> (try simp only [hb0, decide_eq_true_eq, decide_eq_false_iff_not, simprocAttr] at hb) <;> (try (exfalso; omega))) | ((first | refine hK _ _ ?_ | (clear hK; refine hK _ _ ?_)); clear hK; try simp only [pst0, simprocAttr]))
   clear g3 hd
   refine a_loop (fun m S h2 => h2 = h' ∧ S 1 = .cptr (Fm.mk op name args params exprs kids).cells ∧ ∃ k : Nat, S 4 = .sc (.int .i64 k) ∧ k ≤ exprs.length ∧ m = exprs.length - k ∧ ∀ (i : Nat) (e : Ex), i < k → exprs[i]? = some e → shapedE e = true) exprs.length ?_ ?_
   ·simp only [Ty.w, simprocAttr, g1]
    exact ⟨rfl, 0, rfl, by omega, rfl, by omega⟩
   ·clear g1 S
    rintro m S h2 ⟨rfl, g1, k, g3, hkk, rfl, hall⟩
    simp only [Fm.cells] at g1
    by_cases hlt : k < exprs.length
    ·clear hop2
     have hd : decide ((k : Int) < (exprs.length : Int)) = true := by simp; omega
     have w7 : IntKind.i64.wrap ((k : Int) + 1) = k + 1 := by rw [wrap64 (by omega) (by omega)]
     obtain ⟨e, hx⟩ : ∃ e, exprs[k]? = some e := ⟨_, List.getElem?_eq_getElem hlt⟩
     have hmem := List.mem_of_getElem? hx
     have hc := rshapedE_c e (hes e hmem)
     have hr := Ex.rows_get hx
     have hbad := hbE e hmem
     have hgood : shapedE e = true → ∀ (i : Nat) (e : Ex), i < k + 1 → exprs[i]? = some e → shapedE e = true := fun h1 i e2 hi hw => by
      by_cases hik : i = k
      ·subst hik; rw [hx] at hw; simp at hw; rw [← hw]; exact h1
      ·exact hall i e2 (by omega) hw
     generalize shapedE e = b at hc hbad hgood
     clear hbE hall
     obtain ⟨o2, n2, v2, a2, k2⟩ := e
     simp only [Ex.cells] at hr hc
     cases b with
     | false =>
      have := hbad rfl
      subst this
      repeat' (first | refine a_seq fun K hK => ?_ | (refine a_regionS ?_; simp (maxSteps := 2000000) only [Ty.w, simprocAttr, g1, g3, hlE, hd, hr, w7]) | (refine a_skip ?_; try simp only [pst0, simprocAttr]) | (refine a_cond _ (by (try simp (maxSteps := 2000000) only [Ty.w, simprocAttr, g1, g3, hlE, hd, hr, w7]); rfl) (fun hb => ?_) (fun hb => ?_) <;> (try simp only [hb0, decide_eq_true_eq, decide_eq_false_iff_not, simprocAttr] at hb) <;> (try (exfalso; omega))) | (refine hK _ _ ?_; clear hK; try simp only [pst0, simprocAttr]))
      refine owp_useQ (hc _) (by (try simp only [Ty.w, simprocAttr, g1, g3, hlE, hd, hr, Bool.not_false]); try rfl) ?_; simp (maxSteps := 2000000) only [Ty.w, simprocAttr, g1, g3, hlE, hd, hr, Bool.not_false]
      repeat' (first | refine a_seq fun K hK => ?_ | ((first | refine a_regionS ?_ | refine a_ret ?_); simp (maxSteps := 2000000) only [Ty.w, simprocAttr, g1, g3, w7, Bool.not_false]) | (refine hK _ _ ?_; clear hK; try simp only [pst0, simprocAttr]))
     | true =>
      repeat' (first | refine a_seq fun K hK => ?_ | (refine a_regionS ?_; simp (maxSteps := 2000000) only [Ty.w, simprocAttr, g1, g3, hlE, hd, hr, w7]) | (refine a_skip ?_; try simp only [pst0, simprocAttr]) | (refine a_cond _ (by (try simp (maxSteps := 2000000) only [Ty.w, simprocAttr, g1, g3, hlE, hd, hr, w7]); rfl) (fun hb => ?_) (fun hb => ?_) <;> (try simp only [hb0, decide_eq_true_eq, decide_eq_false_iff_not, simprocAttr] at hb) <;> (try (exfalso; omega))) | (refine hK _ _ ?_; clear hK; try simp only [pst0, simprocAttr]))
      refine owp_useQ (hc _) (by (try simp only [Ty.w, simprocAttr, g1, g3, hlE, hd, hr, Bool.not_true]); try rfl) ?_; simp (maxSteps := 2000000) only [Ty.w, simprocAttr, g1, g3, hlE, hd, hr, Bool.not_true]
      repeat' (first | (refine a_block ?_) | (refine a_regionS ?_; simp (maxSteps := 2000000) only [Ty.w, simprocAttr, g1, g3, w7, Bool.not_true]) | (refine a_skip ?_; try simp only [pst0, simprocAttr]) | (refine hK _ _ ?_; clear hK; try simp only [pst0, simprocAttr]))
      exact ⟨exprs.length - (k + 1), by omega, rfl, k + 1, by simp, by omega, rfl, hgood rfl⟩
    ·have hd : decide ((k : Int) < (exprs.length : Int)) = false := by simp; omega
     have hF := hop2 fun e he => by
      obtain ⟨i, hi⟩ := List.getElem?_of_mem he
      exact hall i e (by have := (List.getElem?_eq_some_iff.1 hi).1; omega) hi
     clear hop2 hall hbE
     have wa : IntKind.i64.wrap ((params.length : Int) + exprs.length) = (params.length : Int) + exprs.length := by rw [wrap64 (by omega) (by omega)]
     have wb : IntKind.i64.wrap (((params.length : Int) + exprs.length) + kids.length) = ((params.length : Int) + exprs.length) + kids.length := by rw [wrap64 (by omega) (by omega)]
     have wc : IntKind.i64.wrap ((args.length : Int) + params.length) = (args.length : Int) + params.length := by rw [wrap64 (by omega) (by omega)]
     have wd : IntKind.i64.wrap (((args.length : Int) + params.length) + kids.length) = ((args.length : Int) + params.length) + kids.length := by rw [wrap64 (by omega) (by omega)]
     have we : IntKind.i64.wrap (((args.length : Int) + params.length) + exprs.length) = ((args.length : Int) + params.length) + exprs.length := by rw [wrap64 (by omega) (by omega)]
     have wf : IntKind.i64.wrap ((args.length : Int) + exprs.length) = (args.length : Int) + exprs.length := by rw [wrap64 (by omega) (by omega)]
     unfold opF at hF
     simp only [opAtom, opSame, opLt, opLe, opEq, opAnd, opOr, opNot, opImp, opAll, opSome, bEq] at hF
     repeat' (first | (with_reducible refine a_hold 12 ?_) | (first | refine a_seq fun K hK => ?_ | ((first | refine a_regionS ?_ | refine a_drawS (by decide +kernel) ?_); simp (maxSteps := 2000000) only [Ty.w, simprocAttr, g1, g3, hd, hlA, hlP, hlE, hlK, bne]) | (refine a_exit ?_; try simp only [pst0, simprocAttr]) | (refine a_cond _ (by (try simp (maxSteps := 2000000) only [Ty.w, simprocAttr, g1, g3, hd, hlA, hlP, hlE, hlK, bne]); rfl) (fun hb => ?_) (fun hb => ?_) <;> (try simp only [hb0, decide_eq_true_eq, decide_eq_false_iff_not, simprocAttr] at hb) <;> (try (exfalso; omega))) | ((first | refine hK _ _ ?_ | (clear hK; refine hK _ _ ?_)); clear hK; try simp only [pst0, simprocAttr])))
     refine ⟨?_⟩
     refine a_genR (fun S h3 => S 1 = .cptr (Fm.mk op name args params exprs kids).cells ∧ S 5 = .sc (.bool (!(name.data.toList == (#[] : Array UInt8).toList))) ∧ S 6 = .sc (.int .i64 args.length) ∧ S 7 = .sc (.int .i64 params.length) ∧ S 8 = .sc (.int .i64 exprs.length) ∧ S 9 = .sc (.int .i64 kids.length) ∧ h3 = h2) ?_ ?_
     ·simp only [Ty.w, simprocAttr, g1, Fm.cells]
      try trivial
     clear g1 g3 hd S hlA hlP hlE hlK
     rintro S h2 ⟨g1, g5, g6, g7, g8, g9, rfl⟩
     simp only [Fm.cells] at g1
     cases k1 : (op.data.toList == (#[97, 116, 111, 109] : Array UInt8).toList) with
     | true =>
      simp only [k1, Bool.true_or, Bool.or_true, Bool.false_or, if_true, Bool.false_eq_true, if_false] at hF
      generalize nameB name = bN at hN hF
      cases bN with
      | false =>
       try simp only [Bool.false_and, Bool.and_false] at hF
       subst hF
       repeat' (first | refine a_seq fun K hK => ?_ | (refine a_regionS ?_; simp (maxSteps := 2000000) only [Ty.w, simprocAttr, g1, g5, g6, g7, g8, g9, Bool.not_true, Bool.not_false, wa, wb, wc, wd, we, wf, k1]) | (refine hK _ _ ?_; clear hK; try simp only [pst0, simprocAttr]))
       refine owp_useQ (hN _) (by (try simp only [Ty.w, simprocAttr, g1, g5, g6, g7, g8, g9, Bool.not_true, Bool.not_false, wa, wb, wc, wd, we, wf, k1]); try rfl) ?_; simp (maxSteps := 2000000) only [Ty.w, simprocAttr, g1, g5, g6, g7, g8, g9, Bool.not_true, Bool.not_false, wa, wb, wc, wd, we, wf, k1]
       repeat' (first | (refine a_ret ?_; simp (maxSteps := 2000000) only [Ty.w, simprocAttr, g1, g5, g6, g7, g8, g9, Bool.not_true, Bool.not_false, wa, wb, wc, wd, we, wf, k1]) | (refine hK _ _ ?_; clear hK; try simp only [pst0, simprocAttr]))
       all_goals rfl
      | true =>
       try simp only [Bool.true_and, Bool.and_true] at hF
       generalize args.all termB = bA at hA hF
       cases bA with
       | false =>
        try simp only [Bool.false_and, Bool.and_false] at hF
        subst hF
        have W := And.intro g1 (And.intro g5 (And.intro g6 (And.intro g7 (And.intro g8 (And.intro g9 (And.intro wa (And.intro wb (And.intro wc (And.intro wd (And.intro we (And.intro wf k1)))))))))))
        repeat' (first | refine a_seq fun K hK => ?_ | (refine a_regionS ?_; simp (maxSteps := 2000000) only [Ty.w, simprocAttr, W, Bool.not_true, Bool.not_false]) | (refine hK _ _ ?_; clear hK; try simp only [pst0, simprocAttr]))
        refine owp_useQ (hN _) (by (try simp only [Ty.w, simprocAttr, W, Bool.not_true, Bool.not_false]); try rfl) ?_; simp (maxSteps := 2000000) only [Ty.w, simprocAttr, W, Bool.not_true, Bool.not_false]
        skip
        refine owp_useQ (hA _) (by (try simp only [Ty.w, simprocAttr, W, Bool.not_true, Bool.not_false]); try rfl) ?_; simp (maxSteps := 2000000) only [Ty.w, simprocAttr, W, Bool.not_true, Bool.not_false]
        repeat' (first | (refine a_ret ?_; simp (maxSteps := 2000000) only [Ty.w, simprocAttr, W, Bool.not_true, Bool.not_false]) | (refine hK _ _ ?_; clear hK; try simp only [pst0, simprocAttr]))
        all_goals rfl
       | true =>
        try simp only [Bool.true_and, Bool.and_true] at hF
        cases q2 : ((((params.length : Int) + exprs.length) + kids.length) == 0) with
        | false =>
         simp only [q2, Bool.false_and, Bool.and_false] at hF
         subst hF
         have W := And.intro g1 (And.intro g5 (And.intro g6 (And.intro g7 (And.intro g8 (And.intro g9 (And.intro wa (And.intro wb (And.intro wc (And.intro wd (And.intro we (And.intro wf (And.intro k1 q2))))))))))))
         repeat' (first | refine a_seq fun K hK => ?_ | (refine a_regionS ?_; simp (maxSteps := 2000000) only [Ty.w, simprocAttr, W, Bool.not_true, Bool.not_false]) | (refine hK _ _ ?_; clear hK; try simp only [pst0, simprocAttr]))
         refine owp_useQ (hN _) (by (try simp only [Ty.w, simprocAttr, W, Bool.not_true, Bool.not_false]); try rfl) ?_; simp (maxSteps := 2000000) only [Ty.w, simprocAttr, W, Bool.not_true, Bool.not_false]
         skip
         refine owp_useQ (hA _) (by (try simp only [Ty.w, simprocAttr, W, Bool.not_true, Bool.not_false]); try rfl) ?_; simp (maxSteps := 2000000) only [Ty.w, simprocAttr, W, Bool.not_true, Bool.not_false]
         repeat' (first | (refine a_ret ?_; simp (maxSteps := 2000000) only [Ty.w, simprocAttr, W, Bool.not_true, Bool.not_false]) | (refine hK _ _ ?_; clear hK; try simp only [pst0, simprocAttr]))
         all_goals rfl
        | true =>
         simp only [q2, Bool.true_and, Bool.and_true] at hF
         subst hF
         have W := And.intro g1 (And.intro g5 (And.intro g6 (And.intro g7 (And.intro g8 (And.intro g9 (And.intro wa (And.intro wb (And.intro wc (And.intro wd (And.intro we (And.intro wf (And.intro k1 q2))))))))))))
         repeat' (first | refine a_seq fun K hK => ?_ | (refine a_regionS ?_; simp (maxSteps := 2000000) only [Ty.w, simprocAttr, W, Bool.not_true, Bool.not_false]) | (refine hK _ _ ?_; clear hK; try simp only [pst0, simprocAttr]))
         refine owp_useQ (hN _) (by (try simp only [Ty.w, simprocAttr, W, Bool.not_true, Bool.not_false]); try rfl) ?_; simp (maxSteps := 2000000) only [Ty.w, simprocAttr, W, Bool.not_true, Bool.not_false]
         skip
         refine owp_useQ (hA _) (by (try simp only [Ty.w, simprocAttr, W, Bool.not_true, Bool.not_false]); try rfl) ?_; simp (maxSteps := 2000000) only [Ty.w, simprocAttr, W, Bool.not_true, Bool.not_false]
         repeat' (first | (refine a_ret ?_; simp (maxSteps := 2000000) only [Ty.w, simprocAttr, W, Bool.not_true, Bool.not_false]) | (refine hK _ _ ?_; clear hK; try simp only [pst0, simprocAttr]))
         all_goals rfl
     | false =>
      simp only [k1, Bool.true_or, Bool.or_true, Bool.false_or, if_true, Bool.false_eq_true, if_false] at hF
      cases k2 : (op.data.toList == (#[115, 97, 109, 101] : Array UInt8).toList) with
      | true =>
       simp only [k2, Bool.true_or, Bool.or_true, Bool.false_or, if_true, Bool.false_eq_true, if_false] at hF
       cases q0 : (name.data.toList == (#[] : Array UInt8).toList) with
       | false =>
        simp only [q0, Bool.false_and, Bool.and_false] at hF
        subst hF
        repeat' (first | refine a_seq fun K hK => ?_ | ((first | refine a_regionS ?_ | refine a_ret ?_); simp (maxSteps := 2000000) only [Ty.w, simprocAttr, g1, g5, g6, g7, g8, g9, Bool.not_true, Bool.not_false, wa, wb, wc, wd, we, wf, k1, k2, q0]) | (refine hK _ _ ?_; clear hK; try simp only [pst0, simprocAttr]))
        all_goals rfl
       | true =>
        simp only [q0, Bool.true_and, Bool.and_true] at hF
        cases q1 : ((args.length : Int) == 2) with
        | false =>
         simp only [q1, Bool.false_and, Bool.and_false] at hF
         subst hF
         repeat' (first | refine a_seq fun K hK => ?_ | ((first | refine a_regionS ?_ | refine a_ret ?_); simp (maxSteps := 2000000) only [Ty.w, simprocAttr, g1, g5, g6, g7, g8, g9, Bool.not_true, Bool.not_false, wa, wb, wc, wd, we, wf, k1, k2, q0, q1]) | (refine hK _ _ ?_; clear hK; try simp only [pst0, simprocAttr]))
         all_goals rfl
        | true =>
         simp only [q1, Bool.true_and, Bool.and_true] at hF
         generalize args.all termB = bA at hA hF
         cases bA with
         | false =>
          try simp only [Bool.false_and, Bool.and_false] at hF
          subst hF
          repeat' (first | refine a_seq fun K hK => ?_ | (refine a_regionS ?_; simp (maxSteps := 2000000) only [Ty.w, simprocAttr, g1, g5, g6, g7, g8, g9, Bool.not_true, Bool.not_false, wa, wb, wc, wd, we, wf, k1, k2, q0, q1]) | (refine hK _ _ ?_; clear hK; try simp only [pst0, simprocAttr]))
          refine owp_useQ (hA _) (by (try simp only [Ty.w, simprocAttr, g1, g5, g6, g7, g8, g9, Bool.not_true, Bool.not_false, wa, wb, wc, wd, we, wf, k1, k2, q0, q1]); try rfl) ?_; simp (maxSteps := 2000000) only [Ty.w, simprocAttr, g1, g5, g6, g7, g8, g9, Bool.not_true, Bool.not_false, wa, wb, wc, wd, we, wf, k1, k2, q0, q1]
          repeat' (first | (refine a_ret ?_; simp (maxSteps := 2000000) only [Ty.w, simprocAttr, g1, g5, g6, g7, g8, g9, Bool.not_true, Bool.not_false, wa, wb, wc, wd, we, wf, k1, k2, q0, q1]) | (refine hK _ _ ?_; clear hK; try simp only [pst0, simprocAttr]))
          all_goals rfl
         | true =>
          try simp only [Bool.true_and, Bool.and_true] at hF
          cases q3 : ((((params.length : Int) + exprs.length) + kids.length) == 0) with
          | false =>
           simp only [q3, Bool.false_and, Bool.and_false] at hF
           subst hF
           repeat' (first | refine a_seq fun K hK => ?_ | (refine a_regionS ?_; simp (maxSteps := 2000000) only [Ty.w, simprocAttr, g1, g5, g6, g7, g8, g9, Bool.not_true, Bool.not_false, wa, wb, wc, wd, we, wf, k1, k2, q0, q1, q3]) | (refine hK _ _ ?_; clear hK; try simp only [pst0, simprocAttr]))
           refine owp_useQ (hA _) (by (try simp only [Ty.w, simprocAttr, g1, g5, g6, g7, g8, g9, Bool.not_true, Bool.not_false, wa, wb, wc, wd, we, wf, k1, k2, q0, q1, q3]); try rfl) ?_; simp (maxSteps := 2000000) only [Ty.w, simprocAttr, g1, g5, g6, g7, g8, g9, Bool.not_true, Bool.not_false, wa, wb, wc, wd, we, wf, k1, k2, q0, q1, q3]
           repeat' (first | (refine a_ret ?_; simp (maxSteps := 2000000) only [Ty.w, simprocAttr, g1, g5, g6, g7, g8, g9, Bool.not_true, Bool.not_false, wa, wb, wc, wd, we, wf, k1, k2, q0, q1, q3]) | (refine hK _ _ ?_; clear hK; try simp only [pst0, simprocAttr]))
           all_goals rfl
          | true =>
           simp only [q3, Bool.true_and, Bool.and_true] at hF
           subst hF
           repeat' (first | refine a_seq fun K hK => ?_ | (refine a_regionS ?_; simp (maxSteps := 2000000) only [Ty.w, simprocAttr, g1, g5, g6, g7, g8, g9, Bool.not_true, Bool.not_false, wa, wb, wc, wd, we, wf, k1, k2, q0, q1, q3]) | (refine hK _ _ ?_; clear hK; try simp only [pst0, simprocAttr]))
           refine owp_useQ (hA _) (by (try simp only [Ty.w, simprocAttr, g1, g5, g6, g7, g8, g9, Bool.not_true, Bool.not_false, wa, wb, wc, wd, we, wf, k1, k2, q0, q1, q3]); try rfl) ?_; simp (maxSteps := 2000000) only [Ty.w, simprocAttr, g1, g5, g6, g7, g8, g9, Bool.not_true, Bool.not_false, wa, wb, wc, wd, we, wf, k1, k2, q0, q1, q3]
           repeat' (first | (refine a_ret ?_; simp (maxSteps := 2000000) only [Ty.w, simprocAttr, g1, g5, g6, g7, g8, g9, Bool.not_true, Bool.not_false, wa, wb, wc, wd, we, wf, k1, k2, q0, q1, q3]) | (refine hK _ _ ?_; clear hK; try simp only [pst0, simprocAttr]))
           all_goals rfl
      | false =>
       simp only [k2, Bool.true_or, Bool.or_true, Bool.false_or, if_true, Bool.false_eq_true, if_false] at hF
       cases k3 : (op.data.toList == (#[60] : Array UInt8).toList) with
       | true =>
        simp only [k3, Bool.true_or, Bool.or_true, Bool.false_or, if_true, Bool.false_eq_true, if_false] at hF
        cases q0 : (name.data.toList == (#[] : Array UInt8).toList) with
        | false =>
         simp only [q0, Bool.false_and, Bool.and_false] at hF
         subst hF
         repeat' (first | refine a_seq fun K hK => ?_ | ((first | refine a_regionS ?_ | refine a_ret ?_); simp (maxSteps := 2000000) only [Ty.w, simprocAttr, g1, g5, g6, g7, g8, g9, Bool.not_true, Bool.not_false, wa, wb, wc, wd, we, wf, k1, k2, k3, q0]) | (refine a_skip ?_; try simp only [pst0, simprocAttr]) | (refine a_cond _ (by (try simp (maxSteps := 2000000) only [Ty.w, simprocAttr, g1, g5, g6, g7, g8, g9, Bool.not_true, Bool.not_false, wa, wb, wc, wd, we, wf, k1, k2, k3, q0]); rfl) (fun hb => ?_) (fun hb => ?_) <;> (try simp only [hb0, decide_eq_true_eq, decide_eq_false_iff_not, simprocAttr] at hb) <;> (try (exfalso; omega))) | (refine hK _ _ ?_; clear hK; try simp only [pst0, simprocAttr]))
         all_goals rfl
        | true =>
         simp only [q0, Bool.true_and, Bool.and_true] at hF
         cases q1 : ((((args.length : Int) + params.length) + kids.length) == 0) with
         | false =>
          simp only [q1, Bool.false_and, Bool.and_false] at hF
          subst hF
          repeat' (first | refine a_seq fun K hK => ?_ | ((first | refine a_regionS ?_ | refine a_ret ?_); simp (maxSteps := 2000000) only [Ty.w, simprocAttr, g1, g5, g6, g7, g8, g9, Bool.not_true, Bool.not_false, wa, wb, wc, wd, we, wf, k1, k2, k3, q0, q1]) | (refine a_skip ?_; try simp only [pst0, simprocAttr]) | (refine a_cond _ (by (try simp (maxSteps := 2000000) only [Ty.w, simprocAttr, g1, g5, g6, g7, g8, g9, Bool.not_true, Bool.not_false, wa, wb, wc, wd, we, wf, k1, k2, k3, q0, q1]); rfl) (fun hb => ?_) (fun hb => ?_) <;> (try simp only [hb0, decide_eq_true_eq, decide_eq_false_iff_not, simprocAttr] at hb) <;> (try (exfalso; omega))) | (refine hK _ _ ?_; clear hK; try simp only [pst0, simprocAttr]))
          all_goals rfl
         | true =>
          simp only [q1, Bool.true_and, Bool.and_true] at hF
          cases q2 : ((exprs.length : Int) == 2) with
          | false =>
           simp only [q2, Bool.false_and, Bool.and_false] at hF
           subst hF
           repeat' (first | refine a_seq fun K hK => ?_ | ((first | refine a_regionS ?_ | refine a_ret ?_); simp (maxSteps := 2000000) only [Ty.w, simprocAttr, g1, g5, g6, g7, g8, g9, Bool.not_true, Bool.not_false, wa, wb, wc, wd, we, wf, k1, k2, k3, q0, q1, q2]) | (refine a_skip ?_; try simp only [pst0, simprocAttr]) | (refine a_cond _ (by (try simp (maxSteps := 2000000) only [Ty.w, simprocAttr, g1, g5, g6, g7, g8, g9, Bool.not_true, Bool.not_false, wa, wb, wc, wd, we, wf, k1, k2, k3, q0, q1, q2]); rfl) (fun hb => ?_) (fun hb => ?_) <;> (try simp only [hb0, decide_eq_true_eq, decide_eq_false_iff_not, simprocAttr] at hb) <;> (try (exfalso; omega))) | (refine hK _ _ ?_; clear hK; try simp only [pst0, simprocAttr]))
           all_goals rfl
          | true =>
           simp only [q2, Bool.true_and, Bool.and_true] at hF
           subst hF
           repeat' (first | refine a_seq fun K hK => ?_ | ((first | refine a_regionS ?_ | refine a_ret ?_); simp (maxSteps := 2000000) only [Ty.w, simprocAttr, g1, g5, g6, g7, g8, g9, Bool.not_true, Bool.not_false, wa, wb, wc, wd, we, wf, k1, k2, k3, q0, q1, q2]) | (refine a_skip ?_; try simp only [pst0, simprocAttr]) | (refine a_cond _ (by (try simp (maxSteps := 2000000) only [Ty.w, simprocAttr, g1, g5, g6, g7, g8, g9, Bool.not_true, Bool.not_false, wa, wb, wc, wd, we, wf, k1, k2, k3, q0, q1, q2]); rfl) (fun hb => ?_) (fun hb => ?_) <;> (try simp only [hb0, decide_eq_true_eq, decide_eq_false_iff_not, simprocAttr] at hb) <;> (try (exfalso; omega))) | (refine hK _ _ ?_; clear hK; try simp only [pst0, simprocAttr]))
           all_goals rfl
       | false =>
        simp only [k3, Bool.true_or, Bool.or_true, Bool.false_or, if_true, Bool.false_eq_true, if_false] at hF
        cases k4 : (op.data.toList == (#[60, 61] : Array UInt8).toList) with
        | true =>
         simp only [k4, Bool.true_or, Bool.or_true, Bool.false_or, if_true, Bool.false_eq_true, if_false] at hF
         cases q0 : (name.data.toList == (#[] : Array UInt8).toList) with
         | false =>
          simp only [q0, Bool.false_and, Bool.and_false] at hF
          subst hF
          repeat' (first | refine a_seq fun K hK => ?_ | ((first | refine a_regionS ?_ | refine a_ret ?_); simp (maxSteps := 2000000) only [Ty.w, simprocAttr, g1, g5, g6, g7, g8, g9, Bool.not_true, Bool.not_false, wa, wb, wc, wd, we, wf, k1, k2, k3, k4, q0]) | (refine a_skip ?_; try simp only [pst0, simprocAttr]) | (refine a_cond _ (by (try simp (maxSteps := 2000000) only [Ty.w, simprocAttr, g1, g5, g6, g7, g8, g9, Bool.not_true, Bool.not_false, wa, wb, wc, wd, we, wf, k1, k2, k3, k4, q0]); rfl) (fun hb => ?_) (fun hb => ?_) <;> (try simp only [hb0, decide_eq_true_eq, decide_eq_false_iff_not, simprocAttr] at hb) <;> (try (exfalso; omega))) | (refine hK _ _ ?_; clear hK; try simp only [pst0, simprocAttr]))
          all_goals rfl
         | true =>
          simp only [q0, Bool.true_and, Bool.and_true] at hF
          cases q1 : ((((args.length : Int) + params.length) + kids.length) == 0) with
          | false =>
           simp only [q1, Bool.false_and, Bool.and_false] at hF
           subst hF
           repeat' (first | refine a_seq fun K hK => ?_ | ((first | refine a_regionS ?_ | refine a_ret ?_); simp (maxSteps := 2000000) only [Ty.w, simprocAttr, g1, g5, g6, g7, g8, g9, Bool.not_true, Bool.not_false, wa, wb, wc, wd, we, wf, k1, k2, k3, k4, q0, q1]) | (refine a_skip ?_; try simp only [pst0, simprocAttr]) | (refine a_cond _ (by (try simp (maxSteps := 2000000) only [Ty.w, simprocAttr, g1, g5, g6, g7, g8, g9, Bool.not_true, Bool.not_false, wa, wb, wc, wd, we, wf, k1, k2, k3, k4, q0, q1]); rfl) (fun hb => ?_) (fun hb => ?_) <;> (try simp only [hb0, decide_eq_true_eq, decide_eq_false_iff_not, simprocAttr] at hb) <;> (try (exfalso; omega))) | (refine hK _ _ ?_; clear hK; try simp only [pst0, simprocAttr]))
           all_goals rfl
          | true =>
           simp only [q1, Bool.true_and, Bool.and_true] at hF
           cases q2 : ((exprs.length : Int) == 2) with
           | false =>
            simp only [q2, Bool.false_and, Bool.and_false] at hF
            subst hF
            repeat' (first | refine a_seq fun K hK => ?_ | ((first | refine a_regionS ?_ | refine a_ret ?_); simp (maxSteps := 2000000) only [Ty.w, simprocAttr, g1, g5, g6, g7, g8, g9, Bool.not_true, Bool.not_false, wa, wb, wc, wd, we, wf, k1, k2, k3, k4, q0, q1, q2]) | (refine a_skip ?_; try simp only [pst0, simprocAttr]) | (refine a_cond _ (by (try simp (maxSteps := 2000000) only [Ty.w, simprocAttr, g1, g5, g6, g7, g8, g9, Bool.not_true, Bool.not_false, wa, wb, wc, wd, we, wf, k1, k2, k3, k4, q0, q1, q2]); rfl) (fun hb => ?_) (fun hb => ?_) <;> (try simp only [hb0, decide_eq_true_eq, decide_eq_false_iff_not, simprocAttr] at hb) <;> (try (exfalso; omega))) | (refine hK _ _ ?_; clear hK; try simp only [pst0, simprocAttr]))
            all_goals rfl
           | true =>
            simp only [q2, Bool.true_and, Bool.and_true] at hF
            subst hF
            repeat' (first | refine a_seq fun K hK => ?_ | ((first | refine a_regionS ?_ | refine a_ret ?_); simp (maxSteps := 2000000) only [Ty.w, simprocAttr, g1, g5, g6, g7, g8, g9, Bool.not_true, Bool.not_false, wa, wb, wc, wd, we, wf, k1, k2, k3, k4, q0, q1, q2]) | (refine a_skip ?_; try simp only [pst0, simprocAttr]) | (refine a_cond _ (by (try simp (maxSteps := 2000000) only [Ty.w, simprocAttr, g1, g5, g6, g7, g8, g9, Bool.not_true, Bool.not_false, wa, wb, wc, wd, we, wf, k1, k2, k3, k4, q0, q1, q2]); rfl) (fun hb => ?_) (fun hb => ?_) <;> (try simp only [hb0, decide_eq_true_eq, decide_eq_false_iff_not, simprocAttr] at hb) <;> (try (exfalso; omega))) | (refine hK _ _ ?_; clear hK; try simp only [pst0, simprocAttr]))
            all_goals rfl
        | false =>
         simp only [k4, Bool.true_or, Bool.or_true, Bool.false_or, if_true, Bool.false_eq_true, if_false] at hF
         cases k5 : (op.data.toList == (#[61] : Array UInt8).toList) with
         | true =>
          simp only [k5, Bool.true_or, Bool.or_true, Bool.false_or, if_true, Bool.false_eq_true, if_false] at hF
          cases q0 : (name.data.toList == (#[] : Array UInt8).toList) with
          | false =>
           simp only [q0, Bool.false_and, Bool.and_false] at hF
           subst hF
           repeat' (first | refine a_seq fun K hK => ?_ | ((first | refine a_regionS ?_ | refine a_ret ?_); simp (maxSteps := 2000000) only [Ty.w, simprocAttr, g1, g5, g6, g7, g8, g9, Bool.not_true, Bool.not_false, wa, wb, wc, wd, we, wf, k1, k2, k3, k4, k5, q0]) | (refine a_cond _ (by (try simp (maxSteps := 2000000) only [Ty.w, simprocAttr, g1, g5, g6, g7, g8, g9, Bool.not_true, Bool.not_false, wa, wb, wc, wd, we, wf, k1, k2, k3, k4, k5, q0]); rfl) (fun hb => ?_) (fun hb => ?_) <;> (try simp only [hb0, decide_eq_true_eq, decide_eq_false_iff_not, simprocAttr] at hb) <;> (try (exfalso; omega))) | (refine hK _ _ ?_; clear hK; try simp only [pst0, simprocAttr]))
           all_goals rfl
          | true =>
           simp only [q0, Bool.true_and, Bool.and_true] at hF
           cases q1 : ((((args.length : Int) + params.length) + kids.length) == 0) with
           | false =>
            simp only [q1, Bool.false_and, Bool.and_false] at hF
            subst hF
            repeat' (first | refine a_seq fun K hK => ?_ | ((first | refine a_regionS ?_ | refine a_ret ?_); simp (maxSteps := 2000000) only [Ty.w, simprocAttr, g1, g5, g6, g7, g8, g9, Bool.not_true, Bool.not_false, wa, wb, wc, wd, we, wf, k1, k2, k3, k4, k5, q0, q1]) | (refine a_cond _ (by (try simp (maxSteps := 2000000) only [Ty.w, simprocAttr, g1, g5, g6, g7, g8, g9, Bool.not_true, Bool.not_false, wa, wb, wc, wd, we, wf, k1, k2, k3, k4, k5, q0, q1]); rfl) (fun hb => ?_) (fun hb => ?_) <;> (try simp only [hb0, decide_eq_true_eq, decide_eq_false_iff_not, simprocAttr] at hb) <;> (try (exfalso; omega))) | (refine hK _ _ ?_; clear hK; try simp only [pst0, simprocAttr]))
            all_goals rfl
           | true =>
            simp only [q1, Bool.true_and, Bool.and_true] at hF
            cases q2 : ((exprs.length : Int) == 2) with
            | false =>
             simp only [q2, Bool.false_and, Bool.and_false] at hF
             subst hF
             repeat' (first | refine a_seq fun K hK => ?_ | ((first | refine a_regionS ?_ | refine a_ret ?_); simp (maxSteps := 2000000) only [Ty.w, simprocAttr, g1, g5, g6, g7, g8, g9, Bool.not_true, Bool.not_false, wa, wb, wc, wd, we, wf, k1, k2, k3, k4, k5, q0, q1, q2]) | (refine a_cond _ (by (try simp (maxSteps := 2000000) only [Ty.w, simprocAttr, g1, g5, g6, g7, g8, g9, Bool.not_true, Bool.not_false, wa, wb, wc, wd, we, wf, k1, k2, k3, k4, k5, q0, q1, q2]); rfl) (fun hb => ?_) (fun hb => ?_) <;> (try simp only [hb0, decide_eq_true_eq, decide_eq_false_iff_not, simprocAttr] at hb) <;> (try (exfalso; omega))) | (refine hK _ _ ?_; clear hK; try simp only [pst0, simprocAttr]))
             all_goals rfl
            | true =>
             simp only [q2, Bool.true_and, Bool.and_true] at hF
             subst hF
             repeat' (first | refine a_seq fun K hK => ?_ | ((first | refine a_regionS ?_ | refine a_ret ?_); simp (maxSteps := 2000000) only [Ty.w, simprocAttr, g1, g5, g6, g7, g8, g9, Bool.not_true, Bool.not_false, wa, wb, wc, wd, we, wf, k1, k2, k3, k4, k5, q0, q1, q2]) | (refine a_cond _ (by (try simp (maxSteps := 2000000) only [Ty.w, simprocAttr, g1, g5, g6, g7, g8, g9, Bool.not_true, Bool.not_false, wa, wb, wc, wd, we, wf, k1, k2, k3, k4, k5, q0, q1, q2]); rfl) (fun hb => ?_) (fun hb => ?_) <;> (try simp only [hb0, decide_eq_true_eq, decide_eq_false_iff_not, simprocAttr] at hb) <;> (try (exfalso; omega))) | (refine hK _ _ ?_; clear hK; try simp only [pst0, simprocAttr]))
             all_goals rfl
         | false =>
          simp only [k5, Bool.true_or, Bool.or_true, Bool.false_or, if_true, Bool.false_eq_true, if_false] at hF
          cases k6 : (op.data.toList == (#[97, 110, 100] : Array UInt8).toList) with
          | true =>
           simp only [k6, Bool.true_or, Bool.or_true, Bool.false_or, if_true, Bool.false_eq_true, if_false] at hF
           cases q0 : (name.data.toList == (#[] : Array UInt8).toList) with
           | false =>
            simp only [q0, Bool.false_and, Bool.and_false] at hF
            subst hF
            repeat' (first | refine a_seq fun K hK => ?_ | ((first | refine a_regionS ?_ | refine a_ret ?_); simp (maxSteps := 2000000) only [Ty.w, simprocAttr, g1, g5, g6, g7, g8, g9, Bool.not_true, Bool.not_false, wa, wb, wc, wd, we, wf, k1, k2, k3, k4, k5, k6, q0]) | (refine a_skip ?_; try simp only [pst0, simprocAttr]) | (refine a_cond _ (by (try simp (maxSteps := 2000000) only [Ty.w, simprocAttr, g1, g5, g6, g7, g8, g9, Bool.not_true, Bool.not_false, wa, wb, wc, wd, we, wf, k1, k2, k3, k4, k5, k6, q0]); rfl) (fun hb => ?_) (fun hb => ?_) <;> (try simp only [hb0, decide_eq_true_eq, decide_eq_false_iff_not, simprocAttr] at hb) <;> (try (exfalso; omega))) | (refine hK _ _ ?_; clear hK; try simp only [pst0, simprocAttr]))
            all_goals rfl
           | true =>
            simp only [q0, Bool.true_and, Bool.and_true] at hF
            cases q1 : ((((args.length : Int) + params.length) + exprs.length) == 0) with
            | false =>
             simp only [q1, Bool.false_and, Bool.and_false] at hF
             subst hF
             repeat' (first | refine a_seq fun K hK => ?_ | ((first | refine a_regionS ?_ | refine a_ret ?_); simp (maxSteps := 2000000) only [Ty.w, simprocAttr, g1, g5, g6, g7, g8, g9, Bool.not_true, Bool.not_false, wa, wb, wc, wd, we, wf, k1, k2, k3, k4, k5, k6, q0, q1]) | (refine a_skip ?_; try simp only [pst0, simprocAttr]) | (refine a_cond _ (by (try simp (maxSteps := 2000000) only [Ty.w, simprocAttr, g1, g5, g6, g7, g8, g9, Bool.not_true, Bool.not_false, wa, wb, wc, wd, we, wf, k1, k2, k3, k4, k5, k6, q0, q1]); rfl) (fun hb => ?_) (fun hb => ?_) <;> (try simp only [hb0, decide_eq_true_eq, decide_eq_false_iff_not, simprocAttr] at hb) <;> (try (exfalso; omega))) | (refine hK _ _ ?_; clear hK; try simp only [pst0, simprocAttr]))
             all_goals rfl
            | true =>
             simp only [q1, Bool.true_and, Bool.and_true] at hF
             subst hF
             repeat' (first | refine a_seq fun K hK => ?_ | ((first | refine a_regionS ?_ | refine a_ret ?_); simp (maxSteps := 2000000) only [Ty.w, simprocAttr, g1, g5, g6, g7, g8, g9, Bool.not_true, Bool.not_false, wa, wb, wc, wd, we, wf, k1, k2, k3, k4, k5, k6, q0, q1]) | (refine a_skip ?_; try simp only [pst0, simprocAttr]) | (refine a_cond _ (by (try simp (maxSteps := 2000000) only [Ty.w, simprocAttr, g1, g5, g6, g7, g8, g9, Bool.not_true, Bool.not_false, wa, wb, wc, wd, we, wf, k1, k2, k3, k4, k5, k6, q0, q1]); rfl) (fun hb => ?_) (fun hb => ?_) <;> (try simp only [hb0, decide_eq_true_eq, decide_eq_false_iff_not, simprocAttr] at hb) <;> (try (exfalso; omega))) | (refine hK _ _ ?_; clear hK; try simp only [pst0, simprocAttr]))
             all_goals rfl
          | false =>
           simp only [k6, Bool.true_or, Bool.or_true, Bool.false_or, if_true, Bool.false_eq_true, if_false] at hF
           cases k7 : (op.data.toList == (#[111, 114] : Array UInt8).toList) with
           | true =>
            simp only [k7, Bool.true_or, Bool.or_true, Bool.false_or, if_true, Bool.false_eq_true, if_false] at hF
            cases q0 : (name.data.toList == (#[] : Array UInt8).toList) with
            | false =>
             simp only [q0, Bool.false_and, Bool.and_false] at hF
             subst hF
             repeat' (first | refine a_seq fun K hK => ?_ | ((first | refine a_regionS ?_ | refine a_ret ?_); simp (maxSteps := 2000000) only [Ty.w, simprocAttr, g1, g5, g6, g7, g8, g9, Bool.not_true, Bool.not_false, wa, wb, wc, wd, we, wf, k1, k2, k3, k4, k5, k6, k7, q0]) | (refine a_cond _ (by (try simp (maxSteps := 2000000) only [Ty.w, simprocAttr, g1, g5, g6, g7, g8, g9, Bool.not_true, Bool.not_false, wa, wb, wc, wd, we, wf, k1, k2, k3, k4, k5, k6, k7, q0]); rfl) (fun hb => ?_) (fun hb => ?_) <;> (try simp only [hb0, decide_eq_true_eq, decide_eq_false_iff_not, simprocAttr] at hb) <;> (try (exfalso; omega))) | (refine hK _ _ ?_; clear hK; try simp only [pst0, simprocAttr]))
             all_goals rfl
            | true =>
             simp only [q0, Bool.true_and, Bool.and_true] at hF
             cases q1 : ((((args.length : Int) + params.length) + exprs.length) == 0) with
             | false =>
              simp only [q1, Bool.false_and, Bool.and_false] at hF
              subst hF
              repeat' (first | refine a_seq fun K hK => ?_ | ((first | refine a_regionS ?_ | refine a_ret ?_); simp (maxSteps := 2000000) only [Ty.w, simprocAttr, g1, g5, g6, g7, g8, g9, Bool.not_true, Bool.not_false, wa, wb, wc, wd, we, wf, k1, k2, k3, k4, k5, k6, k7, q0, q1]) | (refine a_cond _ (by (try simp (maxSteps := 2000000) only [Ty.w, simprocAttr, g1, g5, g6, g7, g8, g9, Bool.not_true, Bool.not_false, wa, wb, wc, wd, we, wf, k1, k2, k3, k4, k5, k6, k7, q0, q1]); rfl) (fun hb => ?_) (fun hb => ?_) <;> (try simp only [hb0, decide_eq_true_eq, decide_eq_false_iff_not, simprocAttr] at hb) <;> (try (exfalso; omega))) | (refine hK _ _ ?_; clear hK; try simp only [pst0, simprocAttr]))
              all_goals rfl
             | true =>
              simp only [q1, Bool.true_and, Bool.and_true] at hF
              subst hF
              repeat' (first | refine a_seq fun K hK => ?_ | ((first | refine a_regionS ?_ | refine a_ret ?_); simp (maxSteps := 2000000) only [Ty.w, simprocAttr, g1, g5, g6, g7, g8, g9, Bool.not_true, Bool.not_false, wa, wb, wc, wd, we, wf, k1, k2, k3, k4, k5, k6, k7, q0, q1]) | (refine a_cond _ (by (try simp (maxSteps := 2000000) only [Ty.w, simprocAttr, g1, g5, g6, g7, g8, g9, Bool.not_true, Bool.not_false, wa, wb, wc, wd, we, wf, k1, k2, k3, k4, k5, k6, k7, q0, q1]); rfl) (fun hb => ?_) (fun hb => ?_) <;> (try simp only [hb0, decide_eq_true_eq, decide_eq_false_iff_not, simprocAttr] at hb) <;> (try (exfalso; omega))) | (refine hK _ _ ?_; clear hK; try simp only [pst0, simprocAttr]))
              all_goals rfl
           | false =>
            simp only [k7, Bool.true_or, Bool.or_true, Bool.false_or, if_true, Bool.false_eq_true, if_false] at hF
            cases k8 : (op.data.toList == (#[110, 111, 116] : Array UInt8).toList) with
            | true =>
             simp only [k8, Bool.true_or, Bool.or_true, Bool.false_or, if_true, Bool.false_eq_true, if_false] at hF
             cases q0 : (name.data.toList == (#[] : Array UInt8).toList) with
             | false =>
              simp only [q0, Bool.false_and, Bool.and_false] at hF
              subst hF
              repeat' (first | refine a_seq fun K hK => ?_ | ((first | refine a_regionS ?_ | refine a_ret ?_); simp (maxSteps := 2000000) only [Ty.w, simprocAttr, g1, g5, g6, g7, g8, g9, Bool.not_true, Bool.not_false, wa, wb, wc, wd, we, wf, k1, k2, k3, k4, k5, k6, k7, k8, q0]) | (refine a_cond _ (by (try simp (maxSteps := 2000000) only [Ty.w, simprocAttr, g1, g5, g6, g7, g8, g9, Bool.not_true, Bool.not_false, wa, wb, wc, wd, we, wf, k1, k2, k3, k4, k5, k6, k7, k8, q0]); rfl) (fun hb => ?_) (fun hb => ?_) <;> (try simp only [hb0, decide_eq_true_eq, decide_eq_false_iff_not, simprocAttr] at hb) <;> (try (exfalso; omega))) | (refine hK _ _ ?_; clear hK; try simp only [pst0, simprocAttr]))
              all_goals rfl
             | true =>
              simp only [q0, Bool.true_and, Bool.and_true] at hF
              cases q1 : ((((args.length : Int) + params.length) + exprs.length) == 0) with
              | false =>
               simp only [q1, Bool.false_and, Bool.and_false] at hF
               subst hF
               repeat' (first | refine a_seq fun K hK => ?_ | ((first | refine a_regionS ?_ | refine a_ret ?_); simp (maxSteps := 2000000) only [Ty.w, simprocAttr, g1, g5, g6, g7, g8, g9, Bool.not_true, Bool.not_false, wa, wb, wc, wd, we, wf, k1, k2, k3, k4, k5, k6, k7, k8, q0, q1]) | (refine a_cond _ (by (try simp (maxSteps := 2000000) only [Ty.w, simprocAttr, g1, g5, g6, g7, g8, g9, Bool.not_true, Bool.not_false, wa, wb, wc, wd, we, wf, k1, k2, k3, k4, k5, k6, k7, k8, q0, q1]); rfl) (fun hb => ?_) (fun hb => ?_) <;> (try simp only [hb0, decide_eq_true_eq, decide_eq_false_iff_not, simprocAttr] at hb) <;> (try (exfalso; omega))) | (refine hK _ _ ?_; clear hK; try simp only [pst0, simprocAttr]))
               all_goals rfl
              | true =>
               simp only [q1, Bool.true_and, Bool.and_true] at hF
               cases q2 : ((kids.length : Int) == 1) with
               | false =>
                simp only [q2, Bool.false_and, Bool.and_false] at hF
                subst hF
                repeat' (first | refine a_seq fun K hK => ?_ | ((first | refine a_regionS ?_ | refine a_ret ?_); simp (maxSteps := 2000000) only [Ty.w, simprocAttr, g1, g5, g6, g7, g8, g9, Bool.not_true, Bool.not_false, wa, wb, wc, wd, we, wf, k1, k2, k3, k4, k5, k6, k7, k8, q0, q1, q2]) | (refine a_cond _ (by (try simp (maxSteps := 2000000) only [Ty.w, simprocAttr, g1, g5, g6, g7, g8, g9, Bool.not_true, Bool.not_false, wa, wb, wc, wd, we, wf, k1, k2, k3, k4, k5, k6, k7, k8, q0, q1, q2]); rfl) (fun hb => ?_) (fun hb => ?_) <;> (try simp only [hb0, decide_eq_true_eq, decide_eq_false_iff_not, simprocAttr] at hb) <;> (try (exfalso; omega))) | (refine hK _ _ ?_; clear hK; try simp only [pst0, simprocAttr]))
                all_goals rfl
               | true =>
                simp only [q2, Bool.true_and, Bool.and_true] at hF
                subst hF
                repeat' (first | refine a_seq fun K hK => ?_ | ((first | refine a_regionS ?_ | refine a_ret ?_); simp (maxSteps := 2000000) only [Ty.w, simprocAttr, g1, g5, g6, g7, g8, g9, Bool.not_true, Bool.not_false, wa, wb, wc, wd, we, wf, k1, k2, k3, k4, k5, k6, k7, k8, q0, q1, q2]) | (refine a_cond _ (by (try simp (maxSteps := 2000000) only [Ty.w, simprocAttr, g1, g5, g6, g7, g8, g9, Bool.not_true, Bool.not_false, wa, wb, wc, wd, we, wf, k1, k2, k3, k4, k5, k6, k7, k8, q0, q1, q2]); rfl) (fun hb => ?_) (fun hb => ?_) <;> (try simp only [hb0, decide_eq_true_eq, decide_eq_false_iff_not, simprocAttr] at hb) <;> (try (exfalso; omega))) | (refine hK _ _ ?_; clear hK; try simp only [pst0, simprocAttr]))
                all_goals rfl
            | false =>
             simp only [k8, Bool.true_or, Bool.or_true, Bool.false_or, if_true, Bool.false_eq_true, if_false] at hF
             cases k9 : (op.data.toList == (#[105, 109, 112, 108, 121] : Array UInt8).toList) with
             | true =>
              simp only [k9, Bool.true_or, Bool.or_true, Bool.false_or, if_true, Bool.false_eq_true, if_false] at hF
              cases q0 : (name.data.toList == (#[] : Array UInt8).toList) with
              | false =>
               simp only [q0, Bool.false_and, Bool.and_false] at hF
               subst hF
               repeat' (first | refine a_seq fun K hK => ?_ | ((first | refine a_regionS ?_ | refine a_ret ?_); simp (maxSteps := 2000000) only [Ty.w, simprocAttr, g1, g5, g6, g7, g8, g9, Bool.not_true, Bool.not_false, wa, wb, wc, wd, we, wf, k1, k2, k3, k4, k5, k6, k7, k8, k9, q0]) | (refine a_cond _ (by (try simp (maxSteps := 2000000) only [Ty.w, simprocAttr, g1, g5, g6, g7, g8, g9, Bool.not_true, Bool.not_false, wa, wb, wc, wd, we, wf, k1, k2, k3, k4, k5, k6, k7, k8, k9, q0]); rfl) (fun hb => ?_) (fun hb => ?_) <;> (try simp only [hb0, decide_eq_true_eq, decide_eq_false_iff_not, simprocAttr] at hb) <;> (try (exfalso; omega))) | (refine hK _ _ ?_; clear hK; try simp only [pst0, simprocAttr]))
               all_goals rfl
              | true =>
               simp only [q0, Bool.true_and, Bool.and_true] at hF
               cases q1 : ((((args.length : Int) + params.length) + exprs.length) == 0) with
               | false =>
                simp only [q1, Bool.false_and, Bool.and_false] at hF
                subst hF
                repeat' (first | refine a_seq fun K hK => ?_ | ((first | refine a_regionS ?_ | refine a_ret ?_); simp (maxSteps := 2000000) only [Ty.w, simprocAttr, g1, g5, g6, g7, g8, g9, Bool.not_true, Bool.not_false, wa, wb, wc, wd, we, wf, k1, k2, k3, k4, k5, k6, k7, k8, k9, q0, q1]) | (refine a_cond _ (by (try simp (maxSteps := 2000000) only [Ty.w, simprocAttr, g1, g5, g6, g7, g8, g9, Bool.not_true, Bool.not_false, wa, wb, wc, wd, we, wf, k1, k2, k3, k4, k5, k6, k7, k8, k9, q0, q1]); rfl) (fun hb => ?_) (fun hb => ?_) <;> (try simp only [hb0, decide_eq_true_eq, decide_eq_false_iff_not, simprocAttr] at hb) <;> (try (exfalso; omega))) | (refine hK _ _ ?_; clear hK; try simp only [pst0, simprocAttr]))
                all_goals rfl
               | true =>
                simp only [q1, Bool.true_and, Bool.and_true] at hF
                cases q2 : ((kids.length : Int) == 2) with
                | false =>
                 simp only [q2, Bool.false_and, Bool.and_false] at hF
                 subst hF
                 repeat' (first | refine a_seq fun K hK => ?_ | ((first | refine a_regionS ?_ | refine a_ret ?_); simp (maxSteps := 2000000) only [Ty.w, simprocAttr, g1, g5, g6, g7, g8, g9, Bool.not_true, Bool.not_false, wa, wb, wc, wd, we, wf, k1, k2, k3, k4, k5, k6, k7, k8, k9, q0, q1, q2]) | (refine a_cond _ (by (try simp (maxSteps := 2000000) only [Ty.w, simprocAttr, g1, g5, g6, g7, g8, g9, Bool.not_true, Bool.not_false, wa, wb, wc, wd, we, wf, k1, k2, k3, k4, k5, k6, k7, k8, k9, q0, q1, q2]); rfl) (fun hb => ?_) (fun hb => ?_) <;> (try simp only [hb0, decide_eq_true_eq, decide_eq_false_iff_not, simprocAttr] at hb) <;> (try (exfalso; omega))) | (refine hK _ _ ?_; clear hK; try simp only [pst0, simprocAttr]))
                 all_goals rfl
                | true =>
                 simp only [q2, Bool.true_and, Bool.and_true] at hF
                 subst hF
                 repeat' (first | refine a_seq fun K hK => ?_ | ((first | refine a_regionS ?_ | refine a_ret ?_); simp (maxSteps := 2000000) only [Ty.w, simprocAttr, g1, g5, g6, g7, g8, g9, Bool.not_true, Bool.not_false, wa, wb, wc, wd, we, wf, k1, k2, k3, k4, k5, k6, k7, k8, k9, q0, q1, q2]) | (refine a_cond _ (by (try simp (maxSteps := 2000000) only [Ty.w, simprocAttr, g1, g5, g6, g7, g8, g9, Bool.not_true, Bool.not_false, wa, wb, wc, wd, we, wf, k1, k2, k3, k4, k5, k6, k7, k8, k9, q0, q1, q2]); rfl) (fun hb => ?_) (fun hb => ?_) <;> (try simp only [hb0, decide_eq_true_eq, decide_eq_false_iff_not, simprocAttr] at hb) <;> (try (exfalso; omega))) | (refine hK _ _ ?_; clear hK; try simp only [pst0, simprocAttr]))
                 all_goals rfl
             | false =>
              simp only [k9, Bool.true_or, Bool.or_true, Bool.false_or, if_true, Bool.false_eq_true, if_false] at hF
              cases k10 : (op.data.toList == (#[102, 111, 114, 97, 108, 108] : Array UInt8).toList) with
              | true =>
               simp only [k10, Bool.true_or, Bool.or_true, Bool.false_or, if_true, Bool.false_eq_true, if_false] at hF
               cases q0 : (name.data.toList == (#[] : Array UInt8).toList) with
               | false =>
                simp only [q0, Bool.false_and, Bool.and_false] at hF
                subst hF
                repeat' (first | refine a_seq fun K hK => ?_ | ((first | refine a_regionS ?_ | refine a_ret ?_); simp (maxSteps := 2000000) only [Ty.w, simprocAttr, g1, g5, g6, g7, g8, g9, Bool.not_true, Bool.not_false, wa, wb, wc, wd, we, wf, k1, k2, k3, k4, k5, k6, k7, k8, k9, k10, q0]) | (refine a_skip ?_; try simp only [pst0, simprocAttr]) | (refine a_cond _ (by (try simp (maxSteps := 2000000) only [Ty.w, simprocAttr, g1, g5, g6, g7, g8, g9, Bool.not_true, Bool.not_false, wa, wb, wc, wd, we, wf, k1, k2, k3, k4, k5, k6, k7, k8, k9, k10, q0]); rfl) (fun hb => ?_) (fun hb => ?_) <;> (try simp only [hb0, decide_eq_true_eq, decide_eq_false_iff_not, simprocAttr] at hb) <;> (try (exfalso; omega))) | (refine hK _ _ ?_; clear hK; try simp only [pst0, simprocAttr]))
                all_goals rfl
               | true =>
                simp only [q0, Bool.true_and, Bool.and_true] at hF
                cases q1 : (((args.length : Int) + exprs.length) == 0) with
                | false =>
                 simp only [q1, Bool.false_and, Bool.and_false] at hF
                 subst hF
                 repeat' (first | refine a_seq fun K hK => ?_ | ((first | refine a_regionS ?_ | refine a_ret ?_); simp (maxSteps := 2000000) only [Ty.w, simprocAttr, g1, g5, g6, g7, g8, g9, Bool.not_true, Bool.not_false, wa, wb, wc, wd, we, wf, k1, k2, k3, k4, k5, k6, k7, k8, k9, k10, q0, q1]) | (refine a_skip ?_; try simp only [pst0, simprocAttr]) | (refine a_cond _ (by (try simp (maxSteps := 2000000) only [Ty.w, simprocAttr, g1, g5, g6, g7, g8, g9, Bool.not_true, Bool.not_false, wa, wb, wc, wd, we, wf, k1, k2, k3, k4, k5, k6, k7, k8, k9, k10, q0, q1]); rfl) (fun hb => ?_) (fun hb => ?_) <;> (try simp only [hb0, decide_eq_true_eq, decide_eq_false_iff_not, simprocAttr] at hb) <;> (try (exfalso; omega))) | (refine hK _ _ ?_; clear hK; try simp only [pst0, simprocAttr]))
                 all_goals rfl
                | true =>
                 simp only [q1, Bool.true_and, Bool.and_true] at hF
                 cases q2 : ((kids.length : Int) == 1) with
                 | false =>
                  simp only [q2, Bool.false_and, Bool.and_false] at hF
                  subst hF
                  repeat' (first | refine a_seq fun K hK => ?_ | ((first | refine a_regionS ?_ | refine a_ret ?_); simp (maxSteps := 2000000) only [Ty.w, simprocAttr, g1, g5, g6, g7, g8, g9, Bool.not_true, Bool.not_false, wa, wb, wc, wd, we, wf, k1, k2, k3, k4, k5, k6, k7, k8, k9, k10, q0, q1, q2]) | (refine a_skip ?_; try simp only [pst0, simprocAttr]) | (refine a_cond _ (by (try simp (maxSteps := 2000000) only [Ty.w, simprocAttr, g1, g5, g6, g7, g8, g9, Bool.not_true, Bool.not_false, wa, wb, wc, wd, we, wf, k1, k2, k3, k4, k5, k6, k7, k8, k9, k10, q0, q1, q2]); rfl) (fun hb => ?_) (fun hb => ?_) <;> (try simp only [hb0, decide_eq_true_eq, decide_eq_false_iff_not, simprocAttr] at hb) <;> (try (exfalso; omega))) | (refine hK _ _ ?_; clear hK; try simp only [pst0, simprocAttr]))
                  all_goals rfl
                 | true =>
                  simp only [q2, Bool.true_and, Bool.and_true] at hF
                  generalize params.all pmOk = bP at hP hF
                  cases bP with
                  | false =>
                   try simp only [Bool.false_and, Bool.and_false] at hF
                   subst hF
                   have W := And.intro g1 (And.intro g5 (And.intro g6 (And.intro g7 (And.intro g8 (And.intro g9 (And.intro wa (And.intro wb (And.intro wc (And.intro wd (And.intro we (And.intro wf (And.intro k1 (And.intro k2 (And.intro k3 (And.intro k4 (And.intro k5 (And.intro k6 (And.intro k7 (And.intro k8 (And.intro k9 (And.intro k10 (And.intro q0 (And.intro q1 q2)))))))))))))))))))))))
                   repeat' (first | refine a_seq fun K hK => ?_ | (refine a_regionS ?_; simp (maxSteps := 2000000) only [Ty.w, simprocAttr, W, Bool.not_true, Bool.not_false]) | (refine a_skip ?_; try simp only [pst0, simprocAttr]) | (refine a_cond _ (by (try simp (maxSteps := 2000000) only [Ty.w, simprocAttr, W, Bool.not_true, Bool.not_false]); rfl) (fun hb => ?_) (fun hb => ?_) <;> (try simp only [hb0, decide_eq_true_eq, decide_eq_false_iff_not, simprocAttr] at hb) <;> (try (exfalso; omega))) | (refine hK _ _ ?_; clear hK; try simp only [pst0, simprocAttr]))
                   refine owp_useQ (hP _) (by (try simp only [Ty.w, simprocAttr, W, Bool.not_true, Bool.not_false]); try rfl) ?_; simp (maxSteps := 2000000) only [Ty.w, simprocAttr, W, Bool.not_true, Bool.not_false]
                   repeat' (first | (refine a_ret ?_; simp (maxSteps := 2000000) only [Ty.w, simprocAttr, W, Bool.not_true, Bool.not_false]) | (refine hK _ _ ?_; clear hK; try simp only [pst0, simprocAttr]))
                   all_goals rfl
                  | true =>
                   try simp only [Bool.true_and, Bool.and_true] at hF
                   subst hF
                   have W := And.intro g1 (And.intro g5 (And.intro g6 (And.intro g7 (And.intro g8 (And.intro g9 (And.intro wa (And.intro wb (And.intro wc (And.intro wd (And.intro we (And.intro wf (And.intro k1 (And.intro k2 (And.intro k3 (And.intro k4 (And.intro k5 (And.intro k6 (And.intro k7 (And.intro k8 (And.intro k9 (And.intro k10 (And.intro q0 (And.intro q1 q2)))))))))))))))))))))))
                   repeat' (first | refine a_seq fun K hK => ?_ | (refine a_regionS ?_; simp (maxSteps := 2000000) only [Ty.w, simprocAttr, W, Bool.not_true, Bool.not_false]) | (refine a_skip ?_; try simp only [pst0, simprocAttr]) | (refine a_cond _ (by (try simp (maxSteps := 2000000) only [Ty.w, simprocAttr, W, Bool.not_true, Bool.not_false]); rfl) (fun hb => ?_) (fun hb => ?_) <;> (try simp only [hb0, decide_eq_true_eq, decide_eq_false_iff_not, simprocAttr] at hb) <;> (try (exfalso; omega))) | (refine hK _ _ ?_; clear hK; try simp only [pst0, simprocAttr]))
                   refine owp_useQ (hP _) (by (try simp only [Ty.w, simprocAttr, W, Bool.not_true, Bool.not_false]); try rfl) ?_; simp (maxSteps := 2000000) only [Ty.w, simprocAttr, W, Bool.not_true, Bool.not_false]
                   repeat' (first | (refine a_ret ?_; simp (maxSteps := 2000000) only [Ty.w, simprocAttr, W, Bool.not_true, Bool.not_false]) | (refine hK _ _ ?_; clear hK; try simp only [pst0, simprocAttr]))
                   all_goals rfl
              | false =>
               simp only [k10, Bool.true_or, Bool.or_true, Bool.false_or, if_true, Bool.false_eq_true, if_false] at hF
               cases k11 : (op.data.toList == (#[101, 120, 105, 115, 116, 115] : Array UInt8).toList) with
               | true =>
                simp only [k11, Bool.true_or, Bool.or_true, Bool.false_or, if_true, Bool.false_eq_true, if_false] at hF
                cases q0 : (name.data.toList == (#[] : Array UInt8).toList) with
                | false =>
                 simp only [q0, Bool.false_and, Bool.and_false] at hF
                 subst hF
                 repeat' (first | refine a_seq fun K hK => ?_ | ((first | refine a_regionS ?_ | refine a_ret ?_); simp (maxSteps := 2000000) only [Ty.w, simprocAttr, g1, g5, g6, g7, g8, g9, Bool.not_true, Bool.not_false, wa, wb, wc, wd, we, wf, k1, k2, k3, k4, k5, k6, k7, k8, k9, k10, k11, q0]) | (refine a_cond _ (by (try simp (maxSteps := 2000000) only [Ty.w, simprocAttr, g1, g5, g6, g7, g8, g9, Bool.not_true, Bool.not_false, wa, wb, wc, wd, we, wf, k1, k2, k3, k4, k5, k6, k7, k8, k9, k10, k11, q0]); rfl) (fun hb => ?_) (fun hb => ?_) <;> (try simp only [hb0, decide_eq_true_eq, decide_eq_false_iff_not, simprocAttr] at hb) <;> (try (exfalso; omega))) | (refine hK _ _ ?_; clear hK; try simp only [pst0, simprocAttr]))
                 all_goals rfl
                | true =>
                 simp only [q0, Bool.true_and, Bool.and_true] at hF
                 cases q1 : (((args.length : Int) + exprs.length) == 0) with
                 | false =>
                  simp only [q1, Bool.false_and, Bool.and_false] at hF
                  subst hF
                  repeat' (first | refine a_seq fun K hK => ?_ | ((first | refine a_regionS ?_ | refine a_ret ?_); simp (maxSteps := 2000000) only [Ty.w, simprocAttr, g1, g5, g6, g7, g8, g9, Bool.not_true, Bool.not_false, wa, wb, wc, wd, we, wf, k1, k2, k3, k4, k5, k6, k7, k8, k9, k10, k11, q0, q1]) | (refine a_cond _ (by (try simp (maxSteps := 2000000) only [Ty.w, simprocAttr, g1, g5, g6, g7, g8, g9, Bool.not_true, Bool.not_false, wa, wb, wc, wd, we, wf, k1, k2, k3, k4, k5, k6, k7, k8, k9, k10, k11, q0, q1]); rfl) (fun hb => ?_) (fun hb => ?_) <;> (try simp only [hb0, decide_eq_true_eq, decide_eq_false_iff_not, simprocAttr] at hb) <;> (try (exfalso; omega))) | (refine hK _ _ ?_; clear hK; try simp only [pst0, simprocAttr]))
                  all_goals rfl
                 | true =>
                  simp only [q1, Bool.true_and, Bool.and_true] at hF
                  cases q2 : ((kids.length : Int) == 1) with
                  | false =>
                   simp only [q2, Bool.false_and, Bool.and_false] at hF
                   subst hF
                   repeat' (first | refine a_seq fun K hK => ?_ | ((first | refine a_regionS ?_ | refine a_ret ?_); simp (maxSteps := 2000000) only [Ty.w, simprocAttr, g1, g5, g6, g7, g8, g9, Bool.not_true, Bool.not_false, wa, wb, wc, wd, we, wf, k1, k2, k3, k4, k5, k6, k7, k8, k9, k10, k11, q0, q1, q2]) | (refine a_cond _ (by (try simp (maxSteps := 2000000) only [Ty.w, simprocAttr, g1, g5, g6, g7, g8, g9, Bool.not_true, Bool.not_false, wa, wb, wc, wd, we, wf, k1, k2, k3, k4, k5, k6, k7, k8, k9, k10, k11, q0, q1, q2]); rfl) (fun hb => ?_) (fun hb => ?_) <;> (try simp only [hb0, decide_eq_true_eq, decide_eq_false_iff_not, simprocAttr] at hb) <;> (try (exfalso; omega))) | (refine hK _ _ ?_; clear hK; try simp only [pst0, simprocAttr]))
                   all_goals rfl
                  | true =>
                   simp only [q2, Bool.true_and, Bool.and_true] at hF
                   generalize params.all pmOk = bP at hP hF
                   cases bP with
                   | false =>
                    try simp only [Bool.false_and, Bool.and_false] at hF
                    subst hF
                    have W := And.intro g1 (And.intro g5 (And.intro g6 (And.intro g7 (And.intro g8 (And.intro g9 (And.intro wa (And.intro wb (And.intro wc (And.intro wd (And.intro we (And.intro wf (And.intro k1 (And.intro k2 (And.intro k3 (And.intro k4 (And.intro k5 (And.intro k6 (And.intro k7 (And.intro k8 (And.intro k9 (And.intro k10 (And.intro k11 (And.intro q0 (And.intro q1 q2))))))))))))))))))))))))
                    repeat' (first | refine a_seq fun K hK => ?_ | (refine a_regionS ?_; simp (maxSteps := 2000000) only [Ty.w, simprocAttr, W, Bool.not_true, Bool.not_false]) | (refine a_cond _ (by (try simp (maxSteps := 2000000) only [Ty.w, simprocAttr, W, Bool.not_true, Bool.not_false]); rfl) (fun hb => ?_) (fun hb => ?_) <;> (try simp only [hb0, decide_eq_true_eq, decide_eq_false_iff_not, simprocAttr] at hb) <;> (try (exfalso; omega))) | (refine hK _ _ ?_; clear hK; try simp only [pst0, simprocAttr]))
                    refine owp_useQ (hP _) (by (try simp only [Ty.w, simprocAttr, W, Bool.not_true, Bool.not_false]); try rfl) ?_; simp (maxSteps := 2000000) only [Ty.w, simprocAttr, W, Bool.not_true, Bool.not_false]
                    repeat' (first | (refine a_ret ?_; simp (maxSteps := 2000000) only [Ty.w, simprocAttr, W, Bool.not_true, Bool.not_false]) | (refine hK _ _ ?_; clear hK; try simp only [pst0, simprocAttr]))
                    all_goals rfl
                   | true =>
                    try simp only [Bool.true_and, Bool.and_true] at hF
                    subst hF
                    have W := And.intro g1 (And.intro g5 (And.intro g6 (And.intro g7 (And.intro g8 (And.intro g9 (And.intro wa (And.intro wb (And.intro wc (And.intro wd (And.intro we (And.intro wf (And.intro k1 (And.intro k2 (And.intro k3 (And.intro k4 (And.intro k5 (And.intro k6 (And.intro k7 (And.intro k8 (And.intro k9 (And.intro k10 (And.intro k11 (And.intro q0 (And.intro q1 q2))))))))))))))))))))))))
                    repeat' (first | refine a_seq fun K hK => ?_ | (refine a_regionS ?_; simp (maxSteps := 2000000) only [Ty.w, simprocAttr, W, Bool.not_true, Bool.not_false]) | (refine a_cond _ (by (try simp (maxSteps := 2000000) only [Ty.w, simprocAttr, W, Bool.not_true, Bool.not_false]); rfl) (fun hb => ?_) (fun hb => ?_) <;> (try simp only [hb0, decide_eq_true_eq, decide_eq_false_iff_not, simprocAttr] at hb) <;> (try (exfalso; omega))) | (refine hK _ _ ?_; clear hK; try simp only [pst0, simprocAttr]))
                    refine owp_useQ (hP _) (by (try simp only [Ty.w, simprocAttr, W, Bool.not_true, Bool.not_false]); try rfl) ?_; simp (maxSteps := 2000000) only [Ty.w, simprocAttr, W, Bool.not_true, Bool.not_false]
                    repeat' (first | (refine a_ret ?_; simp (maxSteps := 2000000) only [Ty.w, simprocAttr, W, Bool.not_true, Bool.not_false]) | (refine hK _ _ ?_; clear hK; try simp only [pst0, simprocAttr]))
                    all_goals rfl
               | false =>
                simp only [k11, Bool.true_or, Bool.or_true, Bool.false_or, if_true, Bool.false_eq_true, if_false] at hF
                subst hF
                repeat' (first | refine a_seq fun K hK => ?_ | (refine a_block ?_) | ((first | refine a_regionS ?_ | refine a_ret ?_); simp (maxSteps := 2000000) only [Ty.w, simprocAttr, g1, g5, g6, g7, g8, g9, Bool.not_true, Bool.not_false, wa, wb, wc, wd, we, wf, k1, k2, k3, k4, k5, k6, k7, k8, k9, k10, k11]) | (refine a_skip ?_; try simp only [pst0, simprocAttr]) | (refine a_cond _ (by (try simp (maxSteps := 2000000) only [Ty.w, simprocAttr, g1, g5, g6, g7, g8, g9, Bool.not_true, Bool.not_false, wa, wb, wc, wd, we, wf, k1, k2, k3, k4, k5, k6, k7, k8, k9, k10, k11]); rfl) (fun hb => ?_) (fun hb => ?_) <;> (try simp only [hb0, decide_eq_true_eq, decide_eq_false_iff_not, simprocAttr] at hb) <;> (try (exfalso; omega))) | (refine hK _ _ ?_; clear hK; try simp only [pst0, simprocAttr]))
end Go.Proofs.Ytjlkapgpjamnkaa
namespace Go.Proofs.Ytjlkapgpjamnkaa
open Go.AM
set_option maxHeartbeats 4000000
set_option maxRecDepth 20000
theorem rwriteParams_c {l : List Pm} (hl : l.length ≤ 1048576) (h : Heap) : PCall Try.prog 72 [.imm 2 (pmRows l)] h fun r h' => r = .imm 6 (Sx.rows (paramsW l)) ∧ h' = h := by
 refine PCall.frz Ty.hb_72 ?_
 have hll := pmRows_len l
 have hw : ∀ (s : ByteArray) (h : Heap), PCall Try.prog 71 [sPV s] h fun r h' => r = .agg (wordM s).cells ∧ h' = h := fun s h => rwd_c
 simp only [wordM, Sx.cells, Sx.rows] at hw
 refine pcall_body (ow := fun _ => false) (wf := fun _ => false) Ty.mixed Try.func72 rfl Ty.hb_72 (by rw [Try.ntmps72]; simp) ?_
 rw [Try.ntmps72, Try.results72]
 repeat' (first | refine a_seq fun K hK => ?_ | (refine a_block ?_) | (refine a_regionS ?_; simp (maxSteps := 2000000) only [Ty.w, simprocAttr, hll]) | (refine hK _ _ ?_; clear hK; try simp only [pst0, simprocAttr]))
 refine a_loop (fun m S h' => S 0 = .imm 2 (pmRows l) ∧ ∃ (k : Nat) (o : PV), S 4 = .sc (.int .i64 k) ∧ S 3 = o ∧ k ≤ l.length ∧ m = l.length - k ∧ Grow h h' ∧ Tl h' h.next 6 o (Sx.rows (paramsW (l.take k)))) l.length ?_ ?_
 ·simp only [Ty.w, simprocAttr]
  exact ⟨0, _, rfl, rfl, by omega, rfl, Grow.refl _, Tl.nil⟩
 ·rintro m S h' ⟨g0, k, o, g4, g3, hk, rfl, hg, tl⟩
  by_cases hlt : k < l.length
  ·have hd : decide ((k : Int) < (l.length : Int)) = true := by simp; omega
   have w7 : IntKind.i64.wrap ((k : Int) + 1) = k + 1 := by rw [wrap64 (by omega) (by omega)]
   obtain ⟨p, hx⟩ : ∃ p, l[k]? = some p := ⟨_, List.getElem?_eq_getElem hlt⟩
   have hr := pmRows_get hx
   obtain ⟨H, t1, t2, t3, t4, t5⟩ := tl.tail
   have hpr : (Sx.rows (paramsW (l.take k))).length = 3 * k := by rw [Sx.rows_len, paramsW_len, List.length_take]; omega
   have hb : (3 * k + 3) * 72 ≤ 140737488355328 := by omega
   have hR : Sx.rows (paramsW (l.take (k + 1))) = Sx.rows (paramsW (l.take k)) ++ [[.sc (.int .i64 1), .sc (.int .i64 0), .sc (.int .i64 0), .sc (.int .i64 0), sPV p.name, .imm 6 []], [.sc (.int .i64 1), .sc (.int .i64 0), .sc (.int .i64 0), .sc (.int .i64 0), sPV ⟨#[45]⟩, .imm 6 []], [.sc (.int .i64 1), .sc (.int .i64 0), .sc (.int .i64 0), .sc (.int .i64 0), sPV p.type, .imm 6 []]] := by
    rw [List.take_add_one, hx, paramsW_append]
    simp only [Sx.rows_map, List.map_append, Option.toList_some, paramsW, List.map_cons, List.map_nil, wordM, Sx.cells]
   generalize Sx.rows (paramsW (l.take k)) = R at tl t1 t2 hpr hR
   have W := And.intro g0 (And.intro g4 (And.intro g3 (And.intro hr (And.intro w7 (And.intro t1 (And.intro t2 (And.intro hpr hb)))))))
   repeat' (first | refine a_seq fun K hK => ?_ | (refine a_block ?_) | ((first | refine a_regionS ?_ | refine a_draw (by decide +kernel) (fun K hK => ?_)); simp (maxSteps := 2000000) only [Ty.w, simprocAttr, W, hd, hll]) | (refine a_skip ?_; try simp only [pst0, simprocAttr]) | (refine a_cond _ (by (try simp (maxSteps := 2000000) only [Ty.w, simprocAttr, W, hd, hll]); rfl) (fun hb => ?_) (fun hb => ?_) <;> (try simp only [hb0, decide_eq_true_eq, decide_eq_false_iff_not, simprocAttr] at hb) <;> (try (exfalso; omega))) | (refine hK _ _ ?_; clear hK; try simp only [pst0, simprocAttr]))
   (first | refine a_dcall0 (hw p.name _) (by (try simp only [Ty.w, simprocAttr, W]); try rfl) ?_ | refine a_dcallA (hw p.name _) (by (try simp only [Ty.w, simprocAttr, W]); try rfl) (by simp only [Ty.w, simprocAttr, W]; try trivial) ?_); simp (maxSteps := 2000000) only [Ty.w, simprocAttr, W, Option.getD_some]
   skip
   (first | refine a_dcall0 (hw ⟨#[45]⟩ _) (by (try simp only [Ty.w, simprocAttr, W]); try rfl) ?_ | refine a_dcallA (hw ⟨#[45]⟩ _) (by (try simp only [Ty.w, simprocAttr, W]); try rfl) (by simp only [Ty.w, simprocAttr, W]; try trivial) ?_); simp (maxSteps := 2000000) only [Ty.w, simprocAttr, W, Option.getD_some]
   skip
   (first | refine a_dcall0 (hw p.type _) (by (try simp only [Ty.w, simprocAttr, W]); try rfl) ?_ | refine a_dcallA (hw p.type _) (by (try simp only [Ty.w, simprocAttr, W]); try rfl) (by simp only [Ty.w, simprocAttr, W]; try trivial) ?_); simp (maxSteps := 2000000) only [Ty.w, simprocAttr, W, Option.getD_some]
   repeat' (first | (refine a_regionS ?_; simp (maxSteps := 2000000) only [Ty.w, simprocAttr, W]) | (refine hK _ _ ?_; clear hK; try simp only [pst0, simprocAttr]) | (with_reducible refine a_past2 (by simp only [List.forall_mem_cons, Ty.w, simprocAttr, g0, g4, g3, hr, w7, t1, t2, hpr, hb]; (repeat' apply And.intro) <;> first | trivial | exact .inl (by decide +kernel)) ?_; try simp (maxSteps := 2000000) only [Ty.w, simprocAttr, W]) | (rw [if_pos]; rotate_left 1; omega; simp (maxSteps := 2000000) only [Ty.w, simprocAttr, W]))
   have hkp := t5 h ⟨hg.le, hg.old⟩ (Nat.le_refl _)
   have hgH : Grow h H := ⟨hkp.1, hkp.2⟩
   rw [← hR]
   have hRl : 3 * k + 3 = (Sx.rows (paramsW (l.take (k + 1)))).length := by rw [Sx.rows_len, paramsW_len, List.length_take]; omega
   exact ⟨l.length - (k + 1), by omega, k + 1, .own H.next 0 (3 * k + 3), by simp, by first | rfl | rw [t3], by omega, rfl, hgH.new _, Tl.grow hkp.1 hRl⟩
  ·have hd : decide ((k : Int) < (l.length : Int)) = false := by simp; omega
   have hke : k = l.length := by omega
   subst hke
   rw [List.take_length] at tl
   repeat' (first | refine a_seq fun K hK => ?_ | ((first | refine a_regionS ?_ | refine a_ret ?_); simp (maxSteps := 2000000) only [Ty.w, simprocAttr, g0, g4, g3, hd, hll]) | (refine a_exit ?_; try simp only [pst0, simprocAttr]) | (refine a_cond _ (by (try simp (maxSteps := 2000000) only [Ty.w, simprocAttr, g0, g4, g3, hd, hll]); rfl) (fun hb => ?_) (fun hb => ?_) <;> (try simp only [hb0, decide_eq_true_eq, decide_eq_false_iff_not, simprocAttr] at hb) <;> (try (exfalso; omega))) | ((first | refine hK _ _ ?_ | (clear hK; refine hK _ _ ?_)); clear hK; try simp only [pst0, simprocAttr]))
   exact ⟨tl_frzX tl, hg⟩
theorem rwriteF_c : ∀ f : Fm, f.small → shapedF f = true → ∀ h : Heap, PCall Try.prog 31 [.agg f.cells] h fun r h' => r = .agg (fmW f).cells ∧ h' = h := by
 refine Fm.ind ?_
 intro op name args params exprs kids ih hsm hsh h
 simp only [Fm.small] at hsm
 obtain ⟨hal, hpl, hes, hkl, hks⟩ := hsm
 rw [Ex.smalls_iff] at hes
 rw [Fm.smalls_iff] at hks
 simp only [shapedF, Bool.and_eq_true] at hsh
 obtain ⟨⟨hpo, hse⟩, hsk⟩ := hsh
 rw [shapedFs_iff] at hsk
 rw [List.all_eq_true] at hse
 have hlK := Fm.rows_len kids
 unfold fmW
 refine PCall.frz Ty.hb_31 ?_
 cases k1 : (op.data.toList == (#[97, 116, 111, 109] : Array UInt8).toList) with
 | true =>
  rw [if_pos (show bEq op opAtom = true from k1)]
  have hw : ∀ h : Heap, PCall Try.prog 70 [sPV name, .imm 1 (strRows args)] h fun r h' => r = .agg (wordsM name args).cells ∧ h' = h := fun h => rlist_c hal
  have hfz := fun (n : Nat) (h : Heap) => sx_frz n h (wordsM name args)
  simp only [Fm.cells]
  generalize wordsM name args = X at hw hfz ⊢
  obtain ⟨ki, va, li, co, te, ks⟩ := X
  simp only [Sx.cells] at hw hfz ⊢
  refine pcall_body (ow := fun _ => false) (wf := fun _ => false) Ty.mixed Try.func31 rfl Ty.hb_31 (by rw [Try.ntmps31]; simp) ?_
  rw [Try.ntmps31, Try.results31]
  repeat' (first | refine a_seq fun K hK => ?_ | (refine a_regionS ?_; simp (maxSteps := 2000000) only [Ty.w, simprocAttr, k1]) | (refine hK _ _ ?_; clear hK; try simp only [pst0, simprocAttr]))
  refine owp_useQ (hw _) (by (try simp only [Ty.w, simprocAttr, k1]); try rfl) ?_; simp (maxSteps := 2000000) only [Ty.w, simprocAttr, k1]
  repeat' (first | (refine a_ret ?_; simp (maxSteps := 2000000) only [Ty.w, simprocAttr]) | (refine hK _ _ ?_; clear hK; try simp only [pst0, simprocAttr]))
  refine ⟨?_, ((Grow.refl h).new _).set (Nat.le_refl _) _⟩
  simp only [FrzTo]
  exact ⟨_, rfl, hfz _ _⟩
 | false =>
  cases k2 : (op.data.toList == (#[115, 97, 109, 101] : Array UInt8).toList) with
  | true =>
   rw [if_neg (by rw [(show bEq op opAtom = false from k1)]; simp)]
   rw [if_pos (show bEq op opSame = true from k2)]
   have hw : ∀ h : Heap, PCall Try.prog 70 [sPV ⟨#[61]⟩, .imm 1 (strRows args)] h fun r h' => r = .agg (wordsM opEq args).cells ∧ h' = h := fun h => rlist_c hal
   have hfz := fun (n : Nat) (h : Heap) => sx_frz n h (wordsM opEq args)
   simp only [Fm.cells]
   generalize wordsM opEq args = X at hw hfz ⊢
   obtain ⟨ki, va, li, co, te, ks⟩ := X
   simp only [Sx.cells] at hw hfz ⊢
   refine pcall_body (ow := fun _ => false) (wf := fun _ => false) Ty.mixed Try.func31 rfl Ty.hb_31 (by rw [Try.ntmps31]; simp) ?_
   rw [Try.ntmps31, Try.results31]
   repeat' (first | refine a_seq fun K hK => ?_ | (refine a_regionS ?_; simp (maxSteps := 2000000) only [Ty.w, simprocAttr, k1, k2]) | (refine hK _ _ ?_; clear hK; try simp only [pst0, simprocAttr]))
   refine owp_useQ (hw _) (by (try simp only [Ty.w, simprocAttr, k1, k2]); try rfl) ?_; simp (maxSteps := 2000000) only [Ty.w, simprocAttr, k1, k2]
   repeat' (first | (refine a_ret ?_; simp (maxSteps := 2000000) only [Ty.w, simprocAttr]) | (refine hK _ _ ?_; clear hK; try simp only [pst0, simprocAttr]))
   refine ⟨?_, ((Grow.refl h).new _).set (Nat.le_refl _) _⟩
   simp only [FrzTo]
   exact ⟨_, rfl, hfz _ _⟩
  | false =>
   rw [if_neg (by rw [(show bEq op opAtom = false from k1)]; simp), if_neg (by rw [(show bEq op opSame = false from k2)]; simp)]
   cases k3 : (op.data.toList == (#[60] : Array UInt8).toList) with
   | true =>
    rw [if_pos (by simp [isCmp, (show bEq op opAtom = false from k1), (show bEq op opSame = false from k2), (show bEq op opLt = true from k3)])]
    have hx2 : exprs.length = 2 := by have q := hpo; simp [partsOk, shapeOf, (show bEq op opAtom = false from k1), (show bEq op opSame = false from k2), (show bEq op opLt = true from k3)] at q; omega
    obtain ⟨a, b, rfl⟩ : ∃ a b, exprs = [a, b] := by
     match exprs, hx2 with
     | [a, b], _ => exact ⟨a, b, rfl⟩
    have ca := rwriteE_c a (hes a (by simp)) (hse a (by simp))
    have cb := rwriteE_c b (hes b (by simp)) (hse b (by simp))
    have hw := fun h : Heap => rwd_c (h := h) (s := op)
    simp only [List.map_cons, List.map_nil]
    have hfz := fun (n : Nat) (h : Heap) => sx_frz n h (listM [wordM op, exW a, exW b])
    generalize exW a = xa at ca hfz ⊢
    generalize exW b = xb at cb hfz ⊢
    clear ih hks hpo hse hsk hes
    obtain ⟨aop, aname, an, aargs, akids⟩ := a
    obtain ⟨bop, bname, bn, bargs, bkids⟩ := b
    obtain ⟨ki, va, li, co, te, ks⟩ := xa
    obtain ⟨ki2, va2, li2, co2, te2, ks2⟩ := xb
    simp only [Fm.cells, Ex.cells, Ex.rows, listM, Sx.cells, Sx.rows, wordM] at ca cb hw hfz ⊢
    refine pcall_body (ow := fun _ => false) (wf := fun _ => false) Ty.mixed Try.func31 rfl Ty.hb_31 (by rw [Try.ntmps31]; simp) ?_
    rw [Try.ntmps31, Try.results31]
    repeat' (first | refine a_seq fun K hK => ?_ | ((first | refine a_regionS ?_ | refine a_drawS (by decide +kernel) ?_); simp (maxSteps := 2000000) only [Ty.w, simprocAttr, k1, k2, k3]) | (refine a_skip ?_; try simp only [pst0, simprocAttr]) | (refine a_cond _ (by (try simp (maxSteps := 2000000) only [Ty.w, simprocAttr, k1, k2, k3]); rfl) (fun hb => ?_) (fun hb => ?_) <;> (try simp only [hb0, decide_eq_true_eq, decide_eq_false_iff_not, simprocAttr] at hb) <;> (try (exfalso; omega))) | (refine hK _ _ ?_; clear hK; try simp only [pst0, simprocAttr]))
    (first | refine a_dcall0 (hw _) (by (try simp only [Ty.w, simprocAttr, ]); try rfl) ?_ | refine a_dcallA (hw _) (by (try simp only [Ty.w, simprocAttr, ]); try rfl) (by simp only [Ty.w, simprocAttr, ]; try trivial) ?_); simp (maxSteps := 2000000) only [Ty.w, simprocAttr, Option.getD_some, ]
    skip
    (first | refine a_dcall0 (ca _) (by (try simp only [Ty.w, simprocAttr, ]); try rfl) ?_ | refine a_dcallA (ca _) (by (try simp only [Ty.w, simprocAttr, ]); try rfl) (by simp only [Ty.w, simprocAttr, ]; try trivial) ?_); simp (maxSteps := 2000000) only [Ty.w, simprocAttr, Option.getD_some, ]
    skip
    (first | refine a_dcall0 (cb _) (by (try simp only [Ty.w, simprocAttr, ]); try rfl) ?_ | refine a_dcallA (cb _) (by (try simp only [Ty.w, simprocAttr, ]); try rfl) (by simp only [Ty.w, simprocAttr, ]; try trivial) ?_); simp (maxSteps := 2000000) only [Ty.w, simprocAttr, Option.getD_some, ]
    repeat' (first | (refine a_ret ?_; simp (maxSteps := 2000000) only [Ty.w, simprocAttr]) | (refine hK _ _ ?_; clear hK; try simp only [pst0, simprocAttr]) | (with_reducible refine a_past2 (by simp only [List.forall_mem_cons, Ty.w, simprocAttr]; (repeat' apply And.intro) <;> first | trivial | exact .inl (by decide +kernel)) ?_; try simp (maxSteps := 2000000) only [Ty.w, simprocAttr]))
    refine ⟨?_, ((Grow.refl h).new _).set (Nat.le_refl _) _⟩
    simp only [FrzTo]
    exact ⟨_, rfl, hfz _ _⟩
   | false =>
    cases k4 : (op.data.toList == (#[60, 61] : Array UInt8).toList) with
    | true =>
     rw [if_pos (by simp [isCmp, (show bEq op opAtom = false from k1), (show bEq op opSame = false from k2), (show bEq op opLt = false from k3), (show bEq op opLe = true from k4)])]
     have hx2 : exprs.length = 2 := by have q := hpo; simp [partsOk, shapeOf, (show bEq op opAtom = false from k1), (show bEq op opSame = false from k2), (show bEq op opLt = false from k3), (show bEq op opLe = true from k4)] at q; omega
     obtain ⟨a, b, rfl⟩ : ∃ a b, exprs = [a, b] := by
      match exprs, hx2 with
      | [a, b], _ => exact ⟨a, b, rfl⟩
     have ca := rwriteE_c a (hes a (by simp)) (hse a (by simp))
     have cb := rwriteE_c b (hes b (by simp)) (hse b (by simp))
     have hw := fun h : Heap => rwd_c (h := h) (s := op)
     simp only [List.map_cons, List.map_nil]
     have hfz := fun (n : Nat) (h : Heap) => sx_frz n h (listM [wordM op, exW a, exW b])
     generalize exW a = xa at ca hfz ⊢
     generalize exW b = xb at cb hfz ⊢
     clear ih hks hpo hse hsk hes
     obtain ⟨aop, aname, an, aargs, akids⟩ := a
     obtain ⟨bop, bname, bn, bargs, bkids⟩ := b
     obtain ⟨ki, va, li, co, te, ks⟩ := xa
     obtain ⟨ki2, va2, li2, co2, te2, ks2⟩ := xb
     simp only [Fm.cells, Ex.cells, Ex.rows, listM, Sx.cells, Sx.rows, wordM] at ca cb hw hfz ⊢
     refine pcall_body (ow := fun _ => false) (wf := fun _ => false) Ty.mixed Try.func31 rfl Ty.hb_31 (by rw [Try.ntmps31]; simp) ?_
     rw [Try.ntmps31, Try.results31]
     repeat' (first | refine a_seq fun K hK => ?_ | ((first | refine a_regionS ?_ | refine a_drawS (by decide +kernel) ?_); simp (maxSteps := 2000000) only [Ty.w, simprocAttr, k1, k2, k3, k4]) | (refine a_skip ?_; try simp only [pst0, simprocAttr]) | (refine a_cond _ (by (try simp (maxSteps := 2000000) only [Ty.w, simprocAttr, k1, k2, k3, k4]); rfl) (fun hb => ?_) (fun hb => ?_) <;> (try simp only [hb0, decide_eq_true_eq, decide_eq_false_iff_not, simprocAttr] at hb) <;> (try (exfalso; omega))) | (refine hK _ _ ?_; clear hK; try simp only [pst0, simprocAttr]))
     (first | refine a_dcall0 (hw _) (by (try simp only [Ty.w, simprocAttr, ]); try rfl) ?_ | refine a_dcallA (hw _) (by (try simp only [Ty.w, simprocAttr, ]); try rfl) (by simp only [Ty.w, simprocAttr, ]; try trivial) ?_); simp (maxSteps := 2000000) only [Ty.w, simprocAttr, Option.getD_some, ]
     skip
     (first | refine a_dcall0 (ca _) (by (try simp only [Ty.w, simprocAttr, ]); try rfl) ?_ | refine a_dcallA (ca _) (by (try simp only [Ty.w, simprocAttr, ]); try rfl) (by simp only [Ty.w, simprocAttr, ]; try trivial) ?_); simp (maxSteps := 2000000) only [Ty.w, simprocAttr, Option.getD_some, ]
     skip
     (first | refine a_dcall0 (cb _) (by (try simp only [Ty.w, simprocAttr, ]); try rfl) ?_ | refine a_dcallA (cb _) (by (try simp only [Ty.w, simprocAttr, ]); try rfl) (by simp only [Ty.w, simprocAttr, ]; try trivial) ?_); simp (maxSteps := 2000000) only [Ty.w, simprocAttr, Option.getD_some, ]
     repeat' (first | (refine a_ret ?_; simp (maxSteps := 2000000) only [Ty.w, simprocAttr]) | (refine hK _ _ ?_; clear hK; try simp only [pst0, simprocAttr]) | (with_reducible refine a_past2 (by simp only [List.forall_mem_cons, Ty.w, simprocAttr]; (repeat' apply And.intro) <;> first | trivial | exact .inl (by decide +kernel)) ?_; try simp (maxSteps := 2000000) only [Ty.w, simprocAttr]))
     refine ⟨?_, ((Grow.refl h).new _).set (Nat.le_refl _) _⟩
     simp only [FrzTo]
     exact ⟨_, rfl, hfz _ _⟩
    | false =>
     cases k5 : (op.data.toList == (#[61] : Array UInt8).toList) with
     | true =>
      rw [if_pos (by simp [isCmp, (show bEq op opAtom = false from k1), (show bEq op opSame = false from k2), (show bEq op opLt = false from k3), (show bEq op opLe = false from k4), (show bEq op opEq = true from k5)])]
      have hx2 : exprs.length = 2 := by have q := hpo; simp [partsOk, shapeOf, (show bEq op opAtom = false from k1), (show bEq op opSame = false from k2), (show bEq op opLt = false from k3), (show bEq op opLe = false from k4), (show bEq op opEq = true from k5)] at q; omega
      obtain ⟨a, b, rfl⟩ : ∃ a b, exprs = [a, b] := by
       match exprs, hx2 with
       | [a, b], _ => exact ⟨a, b, rfl⟩
      have ca := rwriteE_c a (hes a (by simp)) (hse a (by simp))
      have cb := rwriteE_c b (hes b (by simp)) (hse b (by simp))
      have hw := fun h : Heap => rwd_c (h := h) (s := op)
      simp only [List.map_cons, List.map_nil]
      have hfz := fun (n : Nat) (h : Heap) => sx_frz n h (listM [wordM op, exW a, exW b])
      generalize exW a = xa at ca hfz ⊢
      generalize exW b = xb at cb hfz ⊢
      clear ih hks hpo hse hsk hes
      obtain ⟨aop, aname, an, aargs, akids⟩ := a
      obtain ⟨bop, bname, bn, bargs, bkids⟩ := b
      obtain ⟨ki, va, li, co, te, ks⟩ := xa
      obtain ⟨ki2, va2, li2, co2, te2, ks2⟩ := xb
      simp only [Fm.cells, Ex.cells, Ex.rows, listM, Sx.cells, Sx.rows, wordM] at ca cb hw hfz ⊢
      refine pcall_body (ow := fun _ => false) (wf := fun _ => false) Ty.mixed Try.func31 rfl Ty.hb_31 (by rw [Try.ntmps31]; simp) ?_
      rw [Try.ntmps31, Try.results31]
      repeat' (first | refine a_seq fun K hK => ?_ | ((first | refine a_regionS ?_ | refine a_drawS (by decide +kernel) ?_); simp (maxSteps := 2000000) only [Ty.w, simprocAttr, k1, k2, k3, k4, k5]) | (refine a_cond _ (by (try simp (maxSteps := 2000000) only [Ty.w, simprocAttr, k1, k2, k3, k4, k5]); rfl) (fun hb => ?_) (fun hb => ?_) <;> (try simp only [hb0, decide_eq_true_eq, decide_eq_false_iff_not, simprocAttr] at hb) <;> (try (exfalso; omega))) | (refine hK _ _ ?_; clear hK; try simp only [pst0, simprocAttr]))
      (first | refine a_dcall0 (hw _) (by (try simp only [Ty.w, simprocAttr, ]); try rfl) ?_ | refine a_dcallA (hw _) (by (try simp only [Ty.w, simprocAttr, ]); try rfl) (by simp only [Ty.w, simprocAttr, ]; try trivial) ?_); simp (maxSteps := 2000000) only [Ty.w, simprocAttr, Option.getD_some, ]
      skip
      (first | refine a_dcall0 (ca _) (by (try simp only [Ty.w, simprocAttr, ]); try rfl) ?_ | refine a_dcallA (ca _) (by (try simp only [Ty.w, simprocAttr, ]); try rfl) (by simp only [Ty.w, simprocAttr, ]; try trivial) ?_); simp (maxSteps := 2000000) only [Ty.w, simprocAttr, Option.getD_some, ]
      skip
      (first | refine a_dcall0 (cb _) (by (try simp only [Ty.w, simprocAttr, ]); try rfl) ?_ | refine a_dcallA (cb _) (by (try simp only [Ty.w, simprocAttr, ]); try rfl) (by simp only [Ty.w, simprocAttr, ]; try trivial) ?_); simp (maxSteps := 2000000) only [Ty.w, simprocAttr, Option.getD_some, ]
      repeat' (first | (refine a_ret ?_; simp (maxSteps := 2000000) only [Ty.w, simprocAttr]) | (refine hK _ _ ?_; clear hK; try simp only [pst0, simprocAttr]) | (with_reducible refine a_past2 (by simp only [List.forall_mem_cons, Ty.w, simprocAttr]; (repeat' apply And.intro) <;> first | trivial | exact .inl (by decide +kernel)) ?_; try simp (maxSteps := 2000000) only [Ty.w, simprocAttr]))
      refine ⟨?_, ((Grow.refl h).new _).set (Nat.le_refl _) _⟩
      simp only [FrzTo]
      exact ⟨_, rfl, hfz _ _⟩
     | false =>
      rw [if_neg (by simp [isCmp, (show bEq op opLt = false from k3), (show bEq op opLe = false from k4), (show bEq op opEq = false from k5)])]
      clear hse hes hpo
      have n6 : bEq op opAnd = (op.data.toList == (#[97, 110, 100] : Array UInt8).toList) := rfl
      by_cases hz : (bEq op opAnd && kids.isEmpty) = true
      ·have hz2 := hz
       rw [Bool.and_eq_true] at hz2
       have k6 : (op.data.toList == (#[97, 110, 100] : Array UInt8).toList) = true := hz2.1
       have hk0 : kids = [] := List.isEmpty_iff.1 hz2.2
       have hq : isQ op = false := by rw [bEq_eq hz2.1]; try rfl
       subst hk0
       rw [if_pos hz, hq]
       simp only [Bool.false_eq_true, if_false, fmWs, List.append_nil, Fm.cells, Fm.rows]
       refine pcall_body (ow := fun _ => false) (wf := fun _ => false) Ty.mixed Try.func31 rfl Ty.hb_31 (by rw [Try.ntmps31]; simp) ?_
       rw [Try.ntmps31, Try.results31]
       repeat' (first | refine a_seq fun K hK => ?_ | (refine a_block ?_) | ((first | refine a_regionS ?_ | refine a_ret ?_); simp (maxSteps := 2000000) only [Ty.w, simprocAttr, k1, k2, k3, k4, k5, k6]) | (refine a_skip ?_; try simp only [pst0, simprocAttr]) | (refine a_cond _ (by (try simp (maxSteps := 2000000) only [Ty.w, simprocAttr, k1, k2, k3, k4, k5, k6]); rfl) (fun hb => ?_) (fun hb => ?_) <;> (try simp only [hb0, decide_eq_true_eq, decide_eq_false_iff_not, simprocAttr] at hb) <;> (try (exfalso; omega))) | (refine hK _ _ ?_; clear hK; try simp only [pst0, simprocAttr]))
       refine ⟨?_, ((Grow.refl h).new _).set (Nat.le_refl _) _⟩
       simp only [listM, Sx.cells, Sx.rows, FrzTo, FrzL]
       exact ⟨_, rfl, rfl, rfl, rfl, rfl, rfl, .inr (.inl ⟨rfl, .inr rfl⟩), trivial⟩
      ·rw [if_neg hz]
       have hw : ∀ (s : ByteArray) (h : Heap), PCall Try.prog 71 [sPV s] h fun r h' => r = .agg (wordM s).cells ∧ h' = h := fun s h => rwd_c
       simp only [wordM, Sx.cells, Sx.rows] at hw
       simp only [Fm.cells]
       refine pcall_body (ow := fun t => t == 51) (wf := fun _ => false) Ty.mixed Try.func31 rfl Ty.hb_31 (by rw [Try.ntmps31]; simp) ?_
       rw [Try.ntmps31, Try.results31]
       repeat' (first | (with_reducible refine a_hold 10 ?_) | refine a_seq fun K hK => ?_ | (refine a_block ?_) | (refine a_regionS ?_; simp (maxSteps := 2000000) only [Ty.w, simprocAttr, k1, k2, k3, k4, k5]) | (refine a_skip ?_; try simp only [pst0, simprocAttr]) | (refine a_cond _ (by (try simp (maxSteps := 2000000) only [Ty.w, simprocAttr, k1, k2, k3, k4, k5]); rfl) (fun hb => ?_) (fun hb => ?_) <;> (try simp only [hb0, decide_eq_true_eq, decide_eq_false_iff_not, simprocAttr] at hb) <;> (try (exfalso; omega))) | (refine hK _ _ ?_; clear hK; try simp only [pst0, simprocAttr]))
       refine ⟨?_⟩
       refine a_cut (fun S h' => S 1 = .cptr (Fm.mk op name args params exprs kids).cells ∧ S 2 = .ptr h.next 0 0 ∧ h' = h.new (.arr 6 [[.sc (.int .i64 0), .sc (.int .i64 0), .sc (.int .i64 0), .sc (.int .i64 0), .sc (.string ⟨#[]⟩), .sc (.slice none 0 0)]])) ?_ ?_
       ·cases k6 : (op.data.toList == (#[97, 110, 100] : Array UInt8).toList) with
        | false =>
         repeat' (first | refine a_seq fun K hK => ?_ | (refine a_regionS ?_; simp (maxSteps := 2000000) only [Ty.w, simprocAttr, k6]) | (refine a_skip ?_; try simp only [pst0, simprocAttr]) | (refine a_cond _ (by (try simp (maxSteps := 2000000) only [Ty.w, simprocAttr, k6]); rfl) (fun hb => ?_) (fun hb => ?_) <;> (try simp only [hb0, decide_eq_true_eq, decide_eq_false_iff_not, simprocAttr] at hb) <;> (try (exfalso; omega))) | (refine hK _ _ ?_; clear hK; try simp only [pst0, simprocAttr]))
         all_goals first | rfl | trivial | ((try refine ⟨?_, ?_, ?_⟩) <;> first | rfl | trivial) | ((try refine ⟨?_, ?_⟩) <;> first | rfl | trivial)
        | true =>
         have hk0 : ((kids.length : Int) == 0) = false := by
          cases kids with
          | nil => exact absurd (by rw [n6, k6]; try rfl) hz
          | cons a l => simp; omega
         repeat' (first | refine a_seq fun K hK => ?_ | (refine a_regionS ?_; simp (maxSteps := 2000000) only [Ty.w, simprocAttr, k6, hk0, hlK]) | (refine a_skip ?_; try simp only [pst0, simprocAttr]) | (refine a_cond _ (by (try simp (maxSteps := 2000000) only [Ty.w, simprocAttr, k6, hk0, hlK]); rfl) (fun hb => ?_) (fun hb => ?_) <;> (try simp only [hb0, decide_eq_true_eq, decide_eq_false_iff_not, simprocAttr] at hb) <;> (try (exfalso; omega))) | (refine hK _ _ ?_; clear hK; try simp only [pst0, simprocAttr]))
         all_goals first | rfl | trivial | ((try refine ⟨?_, ?_, ?_⟩) <;> first | rfl | trivial) | ((try refine ⟨?_, ?_⟩) <;> first | rfl | trivial)
       ·rintro S h' ⟨g1, g2, rfl⟩
        simp only [Fm.cells] at g1
        repeat' (first | refine a_seq fun K hK => ?_ | (refine a_regionS ?_; simp (maxSteps := 2000000) only [Ty.w, simprocAttr, g1, g2]))
        refine owp_useQ (hw op _) (by (try simp only [Ty.w, simprocAttr, g1, g2]); try rfl) ?_; simp (maxSteps := 2000000) only [Ty.w, simprocAttr, g1, g2]
        repeat' (first | (with_reducible refine a_hold 13 ?_) | (refine hK _ _ ?_; clear hK; try simp only [pst0, simprocAttr]))
        refine ⟨?_⟩
        refine a_cut (fun S h' => S 1 = .cptr (Fm.mk op name args params exprs kids).cells ∧ S 2 = .ptr h.next 0 0 ∧ ∃ id, S 3 = .own id 0 (wordM op :: (if isQ op = true then [listM (paramsW params)] else [])).length ∧ Grow h h' ∧ h.next < id ∧ id < h'.next ∧ h'.obj h.next = some (.arr 6 [[.sc (.int .i64 0), .sc (.int .i64 0), .sc (.int .i64 0), .sc (.int .i64 0), .sc (.string ⟨#[]⟩), .sc (.slice none 0 0)]]) ∧ h'.obj id = some (.arr 6 (Sx.rows (wordM op :: (if isQ op = true then [listM (paramsW params)] else []))))) ?_ ?_
        ·have n7 : bEq op opAll = (op.data.toList == (#[102, 111, 114, 97, 108, 108] : Array UInt8).toList) := rfl
         have n8 : bEq op opSome = (op.data.toList == (#[101, 120, 105, 115, 116, 115] : Array UInt8).toList) := rfl
         cases k7 : (op.data.toList == (#[102, 111, 114, 97, 108, 108] : Array UInt8).toList) with
         | true =>
          rw [if_pos (by simp [isQ, n7, n8, k7])]
          have hwp := rwriteParams_c (l := params) hpl
          simp only [listM, wordM, Sx.rows, Sx.cells, List.length_cons, List.length_nil]
          generalize Sx.rows (paramsW params) = PR at hwp ⊢
          repeat' (first | refine a_seq fun K hK => ?_ | (refine a_regionS ?_; simp (maxSteps := 2000000) only [Ty.w, simprocAttr, g1, g2, k7, nsucc, Nat.add_eq_left, Nat.one_ne_zero]) | (refine a_cond _ (by (try simp (maxSteps := 2000000) only [Ty.w, simprocAttr, g1, g2, k7, nsucc, Nat.add_eq_left, Nat.one_ne_zero]); rfl) (fun hb => ?_) (fun hb => ?_) <;> (try simp only [hb0, decide_eq_true_eq, decide_eq_false_iff_not, simprocAttr] at hb) <;> (try (exfalso; omega))) | (refine hK _ _ ?_; clear hK; try simp only [pst0, simprocAttr]))
          refine owp_useQ (hwp _) (by (try simp only [Ty.w, simprocAttr, g1, g2, k7]); try rfl) ?_; simp (maxSteps := 2000000) only [Ty.w, simprocAttr, g1, g2, k7]
          skip
          refine ⟨rfl, h.next + 1 + 1, ?_, ((((Grow.refl h).new _).new _).kill (Nat.le_succ _)).new _, by omega, by simp [Heap.new, Heap.kill], ?_, ?_⟩
          all_goals first | rfl | (simp [Heap.new, Heap.kill]; done) | (simp [Heap.new, Heap.kill]; omega)
         | false =>
          cases k8 : (op.data.toList == (#[101, 120, 105, 115, 116, 115] : Array UInt8).toList) with
          | true =>
           rw [if_pos (by simp [isQ, n7, n8, k7, k8])]
           have hwp := rwriteParams_c (l := params) hpl
           simp only [listM, wordM, Sx.rows, Sx.cells, List.length_cons, List.length_nil]
           generalize Sx.rows (paramsW params) = PR at hwp ⊢
           repeat' (first | refine a_seq fun K hK => ?_ | (refine a_regionS ?_; simp (maxSteps := 2000000) only [Ty.w, simprocAttr, g1, g2, k7, k8, nsucc, Nat.add_eq_left, Nat.one_ne_zero]) | (refine a_cond _ (by (try simp (maxSteps := 2000000) only [Ty.w, simprocAttr, g1, g2, k7, k8, nsucc, Nat.add_eq_left, Nat.one_ne_zero]); rfl) (fun hb => ?_) (fun hb => ?_) <;> (try simp only [hb0, decide_eq_true_eq, decide_eq_false_iff_not, simprocAttr] at hb) <;> (try (exfalso; omega))) | (refine hK _ _ ?_; clear hK; try simp only [pst0, simprocAttr]))
           refine owp_useQ (hwp _) (by (try simp only [Ty.w, simprocAttr, g1, g2, k7, k8]); try rfl) ?_; simp (maxSteps := 2000000) only [Ty.w, simprocAttr, g1, g2, k7, k8]
           skip
           refine ⟨rfl, h.next + 1 + 1, ?_, ((((Grow.refl h).new _).new _).kill (Nat.le_succ _)).new _, by omega, by simp [Heap.new, Heap.kill], ?_, ?_⟩
           all_goals first | rfl | (simp [Heap.new, Heap.kill]; done) | (simp [Heap.new, Heap.kill]; omega)
          | false =>
           rw [if_neg (by simp [isQ, n7, n8, k7, k8])]
           simp only [wordM, Sx.rows, Sx.cells, List.length_cons, List.length_nil]
           repeat' (first | refine a_seq fun K hK => ?_ | (refine a_regionS ?_; simp (maxSteps := 2000000) only [Ty.w, simprocAttr, g1, g2, k7, k8]) | (refine a_skip ?_; try simp only [pst0, simprocAttr]) | (refine a_cond _ (by (try simp (maxSteps := 2000000) only [Ty.w, simprocAttr, g1, g2, k7, k8]); rfl) (fun hb => ?_) (fun hb => ?_) <;> (try simp only [hb0, decide_eq_true_eq, decide_eq_false_iff_not, simprocAttr] at hb) <;> (try (exfalso; omega))) | (refine hK _ _ ?_; clear hK; try simp only [pst0, simprocAttr]))
           (try simp (maxSteps := 2000000) only [Ty.w, simprocAttr, Ty.all, g1, g2])
           refine ⟨rfl, h.next + 1, ?_, ((Grow.refl h).new _).new _, by omega, by simp [Heap.new], ?_, ?_⟩
           all_goals first | rfl | simp [Heap.new]
        ·clear g1 g2 S
         obtain ⟨L1, hL1, hl1⟩ : ∃ L1 : List Sx, (wordM op :: (if isQ op = true then [listM (paramsW params)] else [])) = L1 ∧ L1.length ≤ 2 := ⟨_, rfl, by split <;> simp⟩
         have hfin : [wordM op] ++ (if isQ op = true then [listM (paramsW params)] else []) ++ fmWs kids = L1 ++ kids.map fmW := by rw [← hL1, fmWs_map]; try rfl
         rw [hfin, hL1]
         clear hL1 hfin
         rintro S h' ⟨g1, g2, id, g3, hg, hlo, hhi, o1, o2⟩
         simp only [Fm.cells] at g1
         have hrl : ∀ k, (L1 ++ (kids.take k).map fmW).length ≤ 1048578 := fun k => by simp; omega
         repeat' (first | refine a_seq fun K hK => ?_ | (refine a_block ?_) | (refine a_regionS ?_; simp (maxSteps := 2000000) only [Ty.w, simprocAttr, g1, g2, g3, hlK]) | (refine hK _ _ ?_; clear hK; try simp only [pst0, simprocAttr]))
         refine a_loop (fun c S h' => S 1 = .cptr (Fm.mk op name args params exprs kids).cells ∧ S 2 = .ptr h.next 0 0 ∧ ∃ k id : Nat, S 4 = .sc (.int .i64 k) ∧ S 3 = .own id 0 (L1 ++ (kids.take k).map fmW).length ∧ k ≤ kids.length ∧ c = kids.length - k ∧ Grow h h' ∧ h.next < id ∧ id < h'.next ∧ h'.obj h.next = some (.arr 6 [[.sc (.int .i64 0), .sc (.int .i64 0), .sc (.int .i64 0), .sc (.int .i64 0), .sc (.string ⟨#[]⟩), .sc (.slice none 0 0)]]) ∧ h'.obj id = some (.arr 6 (Sx.rows (L1 ++ (kids.take k).map fmW)))) kids.length ?_ ?_
         ·simp only [Ty.w, simprocAttr, g1, g2, g3]
          exact ⟨rfl, 0, id, rfl, by simp, by omega, rfl, hg, hlo, hhi, o1, by simpa using o2⟩
         ·clear g1 g2 g3 o1 o2 hg hlo hhi S
          rintro c S h' ⟨g1, g2, k, id, g4, g3, hk, rfl, hg, hlo, hhi, o1, o2⟩
          simp only [Fm.cells] at g1
          by_cases hlt : k < kids.length
          ·have hdk : decide ((k : Int) < (kids.length : Int)) = true := by simp; omega
           have w7 : IntKind.i64.wrap ((k : Int) + 1) = k + 1 := by rw [wrap64 (by omega) (by omega)]
           obtain ⟨x, hx⟩ : ∃ x, kids[k]? = some x := ⟨_, List.getElem?_eq_getElem hlt⟩
           have hmem := List.mem_of_getElem? hx
           have hr := Fm.rows_get hx
           have hcx := ih x hmem (hks x hmem) (hsk x hmem)
           have hL : L1 ++ (kids.take (k + 1)).map fmW = L1 ++ (kids.take k).map fmW ++ [fmW x] := by rw [List.take_add_one, hx]; simp
           have hrk := hrl k
           generalize L1 ++ (kids.take k).map fmW = L2 at g3 o2 hrk hL
           generalize fmW x = X at hcx hL
           obtain ⟨xo, xn, xa, xp, xe, xk⟩ := x
           obtain ⟨ki, va, li, co, te, ks⟩ := X
           simp only [Fm.cells, Sx.cells] at hr hcx
           have hR : Sx.rows (L2 ++ [.mk ki va li co te ks]) = Sx.rows L2 ++ [[.sc (.int .i64 ki), .sc (.int .i64 va), .sc (.int .i64 li), .sc (.int .i64 co), sPV te, .imm 6 (Sx.rows ks)]] := by simp [Sx.rows_map, Sx.cells]
           have hpr := Sx.rows_len L2
           generalize Sx.rows L2 = R at o2 hpr hR
           have htk : List.take L2.length R = R := List.take_of_length_le (by omega)
           have hb : (L2.length + 1) * 72 ≤ 140737488355328 := by omega
           have W := And.intro g1 (And.intro g2 (And.intro g3 (And.intro g4 (And.intro hpr (And.intro htk (And.intro o2 hb))))))
           repeat' (first | refine a_seq fun K hK => ?_ | (refine a_block ?_) | ((first | refine a_regionS ?_ | refine a_region (fun K hK => ?_)); simp (maxSteps := 2000000) only [Ty.w, simprocAttr, W, hlK, hdk, hr]) | (refine a_skip ?_; try simp only [pst0, simprocAttr]) | (refine a_cond _ (by (try simp (maxSteps := 2000000) only [Ty.w, simprocAttr, W, hlK, hdk, hr]); rfl) (fun hb => ?_) (fun hb => ?_) <;> (try simp only [hb0, decide_eq_true_eq, decide_eq_false_iff_not, simprocAttr] at hb) <;> (try (exfalso; omega))) | (refine hK _ _ ?_; clear hK; try simp only [pst0, simprocAttr]))
           refine owp_useQ (hcx _) (by (try simp only [Ty.w, simprocAttr, W]); try rfl) ?_; simp (maxSteps := 2000000) only [Ty.w, simprocAttr, W]
           repeat' (first | (refine a_regionS ?_; simp (maxSteps := 2000000) only [Ty.w, simprocAttr, W, w7]) | (refine hK _ _ ?_; clear hK; try simp only [pst0, simprocAttr]) | (rw [if_pos]; rotate_left 1; omega; simp (maxSteps := 2000000) only [Ty.w, simprocAttr, W, w7]))
           refine ⟨kids.length - (k + 1), by omega, rfl, k + 1, h'.next, by simp, ?_, by omega, rfl, (hg.kill (by omega)).new _, by omega, by simp [Heap.new, Heap.kill], ?_, ?_⟩
           ·rw [hL]; simp
           ·rw [if_neg (by omega), if_neg (by omega)]
            exact o1
           ·rw [hL, hR]; simp [Heap.new, Heap.kill]
          ·have hdk : decide ((k : Int) < (kids.length : Int)) = false := by simp; omega
           have hke : k = kids.length := by omega
           subst hke
           rw [List.take_length] at o2 g3
           repeat' (first | refine a_seq fun K hK => ?_ | ((first | refine a_regionS ?_ | refine a_ret ?_); simp (maxSteps := 2000000) only [Ty.w, simprocAttr, g1, g2, g3, g4, hlK, hdk, o1, o2]) | (refine a_exit ?_; try simp only [pst0, simprocAttr]) | (refine a_cond _ (by (try simp (maxSteps := 2000000) only [Ty.w, simprocAttr, g1, g2, g3, g4, hlK, hdk, o1, o2]); rfl) (fun hb => ?_) (fun hb => ?_) <;> (try simp only [hb0, decide_eq_true_eq, decide_eq_false_iff_not, simprocAttr] at hb) <;> (try (exfalso; omega))) | ((first | refine hK _ _ ?_ | (clear hK; refine hK _ _ ?_)); clear hK; try simp only [pst0, simprocAttr]))
           refine ⟨?_, hg.set (Nat.le_refl _) _⟩
           simp only [listM, Sx.cells, FrzTo, FrzL]
           refine ⟨_, rfl, rfl, rfl, rfl, rfl, rfl, .inr (.inr ⟨id, 0, _, Sx.rows (L1 ++ kids.map fmW), rfl, by omega, ?_, ?_, ?_⟩), trivial⟩
           ·simp only [Heap.set]; rw [if_neg (by omega)]; exact o2
           ·rw [Sx.rows_len]; omega
           ·rw [List.drop_zero, List.take_of_length_le (by rw [Sx.rows_len]; omega)]
            exact sxs_frz _ _ _
end Go.Proofs.Ytjlkapgpjamnkaa
namespace Go.Proofs.Ytjlkapgpjamnkaa
open Go.AM
set_option maxHeartbeats 4000000
set_option maxRecDepth 20000
theorem rvalidF_c {f : Fm} (hok : f.ok) (hsm : f.small) (hd : (fmW f).depth ≤ bigN) (h : Heap) : PCall Try.prog 20 [.agg f.cells] h fun r h' => r = .sc (.bool (shapedF f && rvalidB (fmW f))) ∧ h' = h := by
 have hs := rshapedF_c f hok
 cases hb : shapedF f with
 | false =>
  rw [hb] at hs
  obtain ⟨op, name, args, params, exprs, kids⟩ := f
  simp only [Fm.cells] at hs ⊢
  refine pcall_body (ow := fun _ => false) (wf := fun _ => false) Ty.mixed Try.func20 rfl Ty.hb_20 (by rw [Try.ntmps20]; simp) ?_
  rw [Try.ntmps20, Try.results20]
  repeat' (first | refine a_seq fun K hK => ?_ | (refine a_regionS ?_; simp (maxSteps := 2000000) only [Ty.w, simprocAttr]) | (refine hK _ _ ?_; clear hK; try simp only [pst0, simprocAttr]))
  refine owp_useQ (hs _) (by (try simp only [Ty.w, simprocAttr, ]); try rfl) ?_; simp (maxSteps := 2000000) only [Ty.w, simprocAttr, ]
  repeat' (first | (refine a_ret ?_; simp (maxSteps := 2000000) only [Ty.w, simprocAttr]) | (refine hK _ _ ?_; clear hK; try simp only [pst0, simprocAttr]))
  all_goals rfl
 | true =>
  rw [hb] at hs
  have hx := fmW_ok f hok hsm hb
  have hw := rwriteF_c f hsm hb
  have hv := rvalid_c hx hd
  have hq : rvalidB (fmW f) = (shapedS (fmW f) && decide (((fmW f).depth : Int) ≤ 32) && decide ((fmW f).count ≤ 4096)) := rfl
  rw [← hq] at hv
  clear hq
  generalize rvalidB (fmW f) = bb at hv ⊢
  generalize fmW f = X at hw hv
  obtain ⟨op, name, args, params, exprs, kids⟩ := f
  obtain ⟨ki, va, li, co, te, ks⟩ := X
  simp only [Fm.cells, Sx.cells, Bool.true_and] at hs hw hv ⊢
  refine pcall_body (ow := fun _ => false) (wf := fun _ => false) Ty.mixed Try.func20 rfl Ty.hb_20 (by rw [Try.ntmps20]; simp) ?_
  rw [Try.ntmps20, Try.results20]
  repeat' (first | refine a_seq fun K hK => ?_ | (refine a_regionS ?_; simp (maxSteps := 2000000) only [Ty.w, simprocAttr]) | (refine hK _ _ ?_; clear hK; try simp only [pst0, simprocAttr]))
  refine owp_useQ (hs _) (by (try simp only [Ty.w, simprocAttr, ]); try rfl) ?_; simp (maxSteps := 2000000) only [Ty.w, simprocAttr, ]
  skip
  refine owp_useQ (hw _) (by (try simp only [Ty.w, simprocAttr, ]); try rfl) ?_; simp (maxSteps := 2000000) only [Ty.w, simprocAttr, ]
  skip
  refine owp_useQ (hv _) (by (try simp only [Ty.w, simprocAttr, ]); try rfl) ?_; simp (maxSteps := 2000000) only [Ty.w, simprocAttr, ]
  repeat' (first | (refine a_ret ?_; simp (maxSteps := 2000000) only [Ty.w, simprocAttr]) | (refine hK _ _ ?_; clear hK; try simp only [pst0, simprocAttr]))
end Go.Proofs.Ytjlkapgpjamnkaa
namespace Go.Proofs.Ytjlkapgpjamnkaa
open Go.AM
set_option maxHeartbeats 4000000
set_option maxRecDepth 20000
theorem rsameE_c : ∀ a : Ex, a.ok → ∀ b : Ex, b.ok → ∀ h : Heap, PCall Try.prog 38 [.agg a.cells, .agg b.cells] h fun r h' => r = .sc (.bool (a.same b)) ∧ h' = h := by
 refine Ex.ind ?_
 intro op name n args kids ih hok
 rintro ⟨op3, name3, n3, args3, kids3⟩ hok3 h
 simp only [Ex.ok] at hok hok3
 obtain ⟨_, _, _, ⟨ha, _⟩, hk, hks⟩ := hok
 obtain ⟨_, _, _, ⟨ha3, _⟩, hk3, hks3⟩ := hok3
 rw [Ex.oks_iff] at hks hks3
 have hfk : ∀ a ∈ kids, ∀ b ∈ kids3, ∀ h : Heap, PCall Try.prog 38 [.agg a.cells, .agg b.cells] h fun r h' => r = .sc (.bool (a.same b)) ∧ h' = h := fun a ha b hb => ih a ha (hks a ha) b (hks3 b hb)
 clear ih
 have hl_kids := Ex.rows_len kids
 have hl_kids3 := Ex.rows_len kids3
 have cellsA : (Ex.mk op name n args kids).cells = (Ex.mk op name n args kids).cells := rfl
 have cellsB : (Ex.mk op3 name3 n3 args3 kids3).cells = (Ex.mk op3 name3 n3 args3 kids3).cells := rfl
 conv at cellsA => rhs; simp only [Ex.cells]
 conv at cellsB => rhs; simp only [Ex.cells]
 rw [cellsA, cellsB]
 refine pcall_body (ow := fun _ => false) (wf := fun _ => false) Ty.mixed Try.func38 rfl Ty.hb_38 (by rw [Try.ntmps38]; simp) ?_
 rw [Try.ntmps38, Try.results38]
 cases e0 : (op.data.toList == op3.data.toList) with
 | false =>
  have hs : (Ex.mk op name n args kids).same (.mk op3 name3 n3 args3 kids3) = false := by simp only [Ex.same, bEq, e0, Bool.false_and, Bool.and_false]
  repeat' (first | refine a_seq fun K hK => ?_ | ((first | refine a_regionS ?_ | refine a_ret ?_); simp (maxSteps := 2000000) only [Ty.w, simprocAttr, Bool.not_true, Bool.not_false, e0]) | (refine hK _ _ ?_; clear hK; try simp only [pst0, simprocAttr]))
  rw [hs]
 | true =>
  cases e1 : (name.data.toList == name3.data.toList) with
  | false =>
   have hs : (Ex.mk op name n args kids).same (.mk op3 name3 n3 args3 kids3) = false := by simp only [Ex.same, bEq, e0, e1, Bool.false_and, Bool.and_false]
   repeat' (first | refine a_seq fun K hK => ?_ | ((first | refine a_regionS ?_ | refine a_ret ?_); simp (maxSteps := 2000000) only [Ty.w, simprocAttr, Bool.not_true, Bool.not_false, e0, e1]) | (refine hK _ _ ?_; clear hK; try simp only [pst0, simprocAttr]))
   rw [hs]
  | true =>
   cases e2 : (n != n3) with
   | true =>
    have en : (n == n3) = false := by simpa using e2
    have hs : (Ex.mk op name n args kids).same (.mk op3 name3 n3 args3 kids3) = false := by simp only [Ex.same, bEq, e0, e1, en, Bool.false_and, Bool.and_false]
    repeat' (first | refine a_seq fun K hK => ?_ | ((first | refine a_regionS ?_ | refine a_ret ?_); simp (maxSteps := 2000000) only [Ty.w, simprocAttr, Bool.not_true, Bool.not_false, e0, e1, e2]) | (refine hK _ _ ?_; clear hK; try simp only [pst0, simprocAttr]))
    rw [hs]
   | false =>
    have en : (n == n3) = true := by simpa using e2
    repeat' (first | refine a_seq fun K hK => ?_ | (refine a_regionS ?_; simp (maxSteps := 2000000) only [Ty.w, simprocAttr, Bool.not_true, Bool.not_false, e0, e1, e2]) | (refine hK _ _ ?_; clear hK; try simp only [pst0, simprocAttr]))
    cases e3 : bsEq args args3 with
    | false =>
     have hs : (Ex.mk op name n args kids).same (.mk op3 name3 n3 args3 kids3) = false := by simp only [Ex.same, bEq, e0, e1, en, e3, Bool.false_and, Bool.and_false]
     refine owp_useQ (rtexts_c (l := args) (m := args3) ha ha3) (by (try simp only [Ty.w, simprocAttr, Bool.not_true, Bool.not_false, e0, e1, e2, e3]); try rfl) ?_; simp (maxSteps := 2000000) only [Ty.w, simprocAttr, Bool.not_true, Bool.not_false, e0, e1, e2, e3]
     repeat' (first | refine a_seq fun K hK => ?_ | ((first | refine a_regionS ?_ | refine a_ret ?_); simp (maxSteps := 2000000) only [Ty.w, simprocAttr, Bool.not_true, Bool.not_false, e0, e1, e2, e3]) | (refine hK _ _ ?_; clear hK; try simp only [pst0, simprocAttr]))
     rw [hs]
    | true =>
     cases l_kids : ((kids.length : Int) != kids3.length) with
     | true =>
      have hlen : Ex.sames kids kids3 = false := Ex.sames_len (by simp at l_kids; omega)
      have hs : (Ex.mk op name n args kids).same (.mk op3 name3 n3 args3 kids3) = false := by simp only [Ex.same, bEq, e0, e1, en, e3, hlen, Bool.false_and, Bool.and_false]
      refine owp_useQ (rtexts_c (l := args) (m := args3) ha ha3) (by (try simp only [Ty.w, simprocAttr, Bool.not_true, Bool.not_false, e0, e1, e2, e3, l_kids, hl_kids, hl_kids3]); try rfl) ?_; simp (maxSteps := 2000000) only [Ty.w, simprocAttr, Bool.not_true, Bool.not_false, e0, e1, e2, e3, l_kids, hl_kids, hl_kids3]
      repeat' (first | refine a_seq fun K hK => ?_ | ((first | refine a_regionS ?_ | refine a_ret ?_); simp (maxSteps := 2000000) only [Ty.w, simprocAttr, Bool.not_true, Bool.not_false, e0, e1, e2, e3, l_kids, hl_kids, hl_kids3]) | (refine hK _ _ ?_; clear hK; try simp only [pst0, simprocAttr]))
      rw [hs]
     | false =>
      have hn_kids : kids.length = kids3.length := by simp at l_kids; omega
      refine owp_useQ (rtexts_c (l := args) (m := args3) ha ha3) (by (try simp only [Ty.w, simprocAttr, Bool.not_true, Bool.not_false, e0, e1, e2, e3, l_kids, hl_kids, hl_kids3]); try rfl) ?_; simp (maxSteps := 2000000) only [Ty.w, simprocAttr, Bool.not_true, Bool.not_false, e0, e1, e2, e3, l_kids, hl_kids, hl_kids3]
      repeat' (first | refine a_seq fun K hK => ?_ | (refine a_block ?_) | (refine a_regionS ?_; simp (maxSteps := 2000000) only [Ty.w, simprocAttr, Bool.not_true, Bool.not_false, e0, e1, e2, e3, l_kids, hl_kids, hl_kids3]) | (refine a_skip ?_; try simp only [pst0, simprocAttr]) | (refine a_cond _ (by (try simp (maxSteps := 2000000) only [Ty.w, simprocAttr, Bool.not_true, Bool.not_false, e0, e1, e2, e3, l_kids, hl_kids, hl_kids3]); rfl) (fun hb => ?_) (fun hb => ?_) <;> (try simp only [hb0, decide_eq_true_eq, decide_eq_false_iff_not, simprocAttr] at hb) <;> (try (exfalso; omega))) | (refine hK _ _ ?_; clear hK; try simp only [pst0, simprocAttr]))
      refine a_loop (fun c S h7 => h7 = h ∧ S 2 = .cptr (Ex.mk op name n args kids).cells ∧ S 3 = .cptr (Ex.mk op3 name3 n3 args3 kids3).cells ∧ ∃ k : Nat, S 5 = .sc (.int .i64 k) ∧ k ≤ kids.length ∧ c = kids.length - k ∧ Ex.sames kids kids3 = Ex.sames (kids.drop k) (kids3.drop k)) kids.length ?_ ?_
      ·simp only [Ty.w, simprocAttr, cellsA, cellsB]
       exact ⟨0, rfl, by omega, rfl, by simp⟩
      ·rintro c S h7 ⟨rfl, g2, g3, k, gk, hkl, rfl, hinv⟩
       rw [cellsA] at g2
       rw [cellsB] at g3
       by_cases hlt : k < kids.length
       ·have hd : decide ((k : Int) < (kids.length : Int)) = true := by simp; omega
        have w7 : IntKind.i64.wrap ((k : Int) + 1) = k + 1 := by unfold bigN at hk; rw [wrap64 (by omega) (by omega)]
        obtain ⟨a, hx⟩ : ∃ a, kids[k]? = some a := ⟨_, List.getElem?_eq_getElem hlt⟩
        obtain ⟨b, hy⟩ : ∃ b, kids3[k]? = some b := ⟨_, List.getElem?_eq_getElem (by omega)⟩
        have hc := hfk a (List.mem_of_getElem? hx) b (List.mem_of_getElem? hy)
        rw [drop_of_get hx, drop_of_get hy] at hinv
        simp only [Ex.sames] at hinv
        have hr := Ex.rows_get hx
        have hr2 := Ex.rows_get hy
        generalize he : a.same b = e at hc hinv
        clear he
        obtain ⟨op2, name2, n2, args2, kids2⟩ := a
        obtain ⟨op4, name4, n4, args4, kids4⟩ := b
        simp only [Ex.cells] at hr hr2 hc
        cases e with
        | false =>
         have hs : (Ex.mk op name n args kids).same (.mk op3 name3 n3 args3 kids3) = false := by simp only [Ex.same, bEq, hinv, e0, e1, en, e3, Bool.false_and, Bool.and_false]
         have W := And.intro g2 (And.intro g3 (And.intro gk (And.intro hd (And.intro hr (And.intro hr2 w7)))))
         repeat' (first | refine a_seq fun K hK => ?_ | ((first | refine a_regionS ?_ | refine a_drawS (by decide +kernel) ?_); simp (maxSteps := 2000000) only [Ty.w, simprocAttr, W, hl_kids, hl_kids3, Bool.not_false]) | (refine a_skip ?_; try simp only [pst0, simprocAttr]) | (refine a_cond _ (by (try simp (maxSteps := 2000000) only [Ty.w, simprocAttr, W, hl_kids, hl_kids3, Bool.not_false]); rfl) (fun hb => ?_) (fun hb => ?_) <;> (try simp only [hb0, decide_eq_true_eq, decide_eq_false_iff_not, simprocAttr] at hb) <;> (try (exfalso; omega))) | (refine hK _ _ ?_; clear hK; try simp only [pst0, simprocAttr]))
         (first | refine a_dcall0 (hc _) (by (try simp only [Ty.w, simprocAttr, W, hl_kids, hl_kids3]); try rfl) ?_ | refine a_dcallA (hc _) (by (try simp only [Ty.w, simprocAttr, W, hl_kids, hl_kids3]); try rfl) (by simp only [Ty.w, simprocAttr, W, hl_kids, hl_kids3]; try trivial) ?_); simp (maxSteps := 2000000) only [Ty.w, simprocAttr, W, Option.getD_some, hl_kids, hl_kids3]
         repeat' (first | refine a_seq fun K hK => ?_ | ((first | refine a_regionS ?_ | refine a_ret ?_); simp (maxSteps := 2000000) only [Ty.w, simprocAttr, W, Bool.not_false]) | (refine hK _ _ ?_; clear hK; try simp only [pst0, simprocAttr]))
         rw [hs]
        | true =>
         rw [Bool.true_and] at hinv
         have W := And.intro g2 (And.intro g3 (And.intro gk (And.intro hd (And.intro hr (And.intro hr2 w7)))))
         repeat' (first | refine a_seq fun K hK => ?_ | ((first | refine a_regionS ?_ | refine a_drawS (by decide +kernel) ?_); simp (maxSteps := 2000000) only [Ty.w, simprocAttr, W, hl_kids, hl_kids3, Bool.not_true]) | (refine a_skip ?_; try simp only [pst0, simprocAttr]) | (refine a_cond _ (by (try simp (maxSteps := 2000000) only [Ty.w, simprocAttr, W, hl_kids, hl_kids3, Bool.not_true]); rfl) (fun hb => ?_) (fun hb => ?_) <;> (try simp only [hb0, decide_eq_true_eq, decide_eq_false_iff_not, simprocAttr] at hb) <;> (try (exfalso; omega))) | (refine hK _ _ ?_; clear hK; try simp only [pst0, simprocAttr]))
         (first | refine a_dcall0 (hc _) (by (try simp only [Ty.w, simprocAttr, W, hl_kids, hl_kids3]); try rfl) ?_ | refine a_dcallA (hc _) (by (try simp only [Ty.w, simprocAttr, W, hl_kids, hl_kids3]); try rfl) (by simp only [Ty.w, simprocAttr, W, hl_kids, hl_kids3]; try trivial) ?_); simp (maxSteps := 2000000) only [Ty.w, simprocAttr, W, Option.getD_some, hl_kids, hl_kids3]
         repeat' (first | (refine a_block ?_) | (refine a_regionS ?_; simp (maxSteps := 2000000) only [Ty.w, simprocAttr, W, Bool.not_true]) | (refine a_skip ?_; try simp only [pst0, simprocAttr]) | (refine hK _ _ ?_; clear hK; try simp only [pst0, simprocAttr]))
         exact ⟨kids.length - (k + 1), by omega, by rw [cellsA], by rw [cellsB], k + 1, by simp, by omega, rfl, hinv⟩
       ·have hd : decide ((k : Int) < (kids.length : Int)) = false := by simp; omega
        rw [List.drop_eq_nil_of_le (by omega), List.drop_eq_nil_of_le (by omega)] at hinv
        have hq0 := hinv
        simp only [Ex.sames] at hq0
        clear hinv
        have hs : (Ex.mk op name n args kids).same (.mk op3 name3 n3 args3 kids3) = true := by simp only [Ex.same, bEq, e0, e1, en, e3, hq0, Bool.true_and]
        repeat' (first | refine a_seq fun K hK => ?_ | ((first | refine a_regionS ?_ | refine a_ret ?_); simp (maxSteps := 2000000) only [Ty.w, simprocAttr, g2, g3, gk, hl_kids, hl_kids3, hd]) | (refine a_exit ?_; try simp only [pst0, simprocAttr]) | (refine a_cond _ (by (try simp (maxSteps := 2000000) only [Ty.w, simprocAttr, g2, g3, gk, hl_kids, hl_kids3, hd]); rfl) (fun hb => ?_) (fun hb => ?_) <;> (try simp only [hb0, decide_eq_true_eq, decide_eq_false_iff_not, simprocAttr] at hb) <;> (try (exfalso; omega))) | ((first | refine hK _ _ ?_ | (clear hK; refine hK _ _ ?_)); clear hK; try simp only [pst0, simprocAttr]))
        rw [hs]
theorem rsame_c : ∀ a : Fm, a.ok → ∀ b : Fm, b.ok → ∀ h : Heap, PCall Try.prog 21 [.agg a.cells, .agg b.cells] h fun r h' => r = .sc (.bool (a.same b)) ∧ h' = h := by
 refine Fm.ind ?_
 intro op name args params exprs kids ih hok
 rintro ⟨op3, name3, args3, params3, exprs3, kids3⟩ hok3 h
 simp only [Fm.ok] at hok hok3
 obtain ⟨_, _, ⟨ha, _⟩, ⟨hp, _⟩, ⟨he, hes⟩, hk, hks⟩ := hok
 obtain ⟨_, _, ⟨ha3, _⟩, ⟨hp3, _⟩, ⟨he3, hes3⟩, hk3, hks3⟩ := hok3
 rw [Fm.oks_iff] at hks hks3
 have hfk : ∀ a ∈ kids, ∀ b ∈ kids3, ∀ h : Heap, PCall Try.prog 21 [.agg a.cells, .agg b.cells] h fun r h' => r = .sc (.bool (a.same b)) ∧ h' = h := fun a ha b hb => ih a ha (hks a ha) b (hks3 b hb)
 rw [Ex.oks_iff] at hes hes3
 have hfe : ∀ a ∈ exprs, ∀ b ∈ exprs3, ∀ h : Heap, PCall Try.prog 38 [.agg a.cells, .agg b.cells] h fun r h' => r = .sc (.bool (a.same b)) ∧ h' = h := fun a ha b hb => rsameE_c a (hes a ha) b (hes3 b hb)
 clear ih
 have hl_exprs := Ex.rows_len exprs
 have hl_exprs3 := Ex.rows_len exprs3
 have hl_kids := Fm.rows_len kids
 have hl_kids3 := Fm.rows_len kids3
 have cellsA : (Fm.mk op name args params exprs kids).cells = (Fm.mk op name args params exprs kids).cells := rfl
 have cellsB : (Fm.mk op3 name3 args3 params3 exprs3 kids3).cells = (Fm.mk op3 name3 args3 params3 exprs3 kids3).cells := rfl
 conv at cellsA => rhs; simp only [Fm.cells]
 conv at cellsB => rhs; simp only [Fm.cells]
 rw [cellsA, cellsB]
 refine pcall_body (ow := fun _ => false) (wf := fun _ => false) Ty.mixed Try.func21 rfl Ty.hb_21 (by rw [Try.ntmps21]; simp) ?_
 rw [Try.ntmps21, Try.results21]
 cases e0 : (op.data.toList == op3.data.toList) with
 | false =>
  have hs : (Fm.mk op name args params exprs kids).same (.mk op3 name3 args3 params3 exprs3 kids3) = false := by simp only [Fm.same, bEq, e0, Bool.false_and, Bool.and_false]
  repeat' (first | refine a_seq fun K hK => ?_ | ((first | refine a_regionS ?_ | refine a_ret ?_); simp (maxSteps := 2000000) only [Ty.w, simprocAttr, Bool.not_true, Bool.not_false, e0]) | (refine hK _ _ ?_; clear hK; try simp only [pst0, simprocAttr]))
  rw [hs]
 | true =>
  cases e1 : (name.data.toList == name3.data.toList) with
  | false =>
   have hs : (Fm.mk op name args params exprs kids).same (.mk op3 name3 args3 params3 exprs3 kids3) = false := by simp only [Fm.same, bEq, e0, e1, Bool.false_and, Bool.and_false]
   repeat' (first | refine a_seq fun K hK => ?_ | ((first | refine a_regionS ?_ | refine a_ret ?_); simp (maxSteps := 2000000) only [Ty.w, simprocAttr, Bool.not_true, Bool.not_false, e0, e1]) | (refine hK _ _ ?_; clear hK; try simp only [pst0, simprocAttr]))
   rw [hs]
  | true =>
   repeat' (first | refine a_seq fun K hK => ?_ | (refine a_regionS ?_; simp (maxSteps := 2000000) only [Ty.w, simprocAttr, Bool.not_true, Bool.not_false, e0, e1]) | (refine hK _ _ ?_; clear hK; try simp only [pst0, simprocAttr]))
   cases e2 : bsEq args args3 with
   | false =>
    have hs : (Fm.mk op name args params exprs kids).same (.mk op3 name3 args3 params3 exprs3 kids3) = false := by simp only [Fm.same, bEq, e0, e1, e2, Bool.false_and, Bool.and_false]
    refine owp_useQ (rtexts_c (l := args) (m := args3) ha ha3) (by (try simp only [Ty.w, simprocAttr, Bool.not_true, Bool.not_false, e0, e1, e2]); try rfl) ?_; simp (maxSteps := 2000000) only [Ty.w, simprocAttr, Bool.not_true, Bool.not_false, e0, e1, e2]
    repeat' (first | refine a_seq fun K hK => ?_ | ((first | refine a_regionS ?_ | refine a_ret ?_); simp (maxSteps := 2000000) only [Ty.w, simprocAttr, Bool.not_true, Bool.not_false, e0, e1, e2]) | (refine hK _ _ ?_; clear hK; try simp only [pst0, simprocAttr]))
    rw [hs]
   | true =>
    refine owp_useQ (rtexts_c (l := args) (m := args3) ha ha3) (by (try simp only [Ty.w, simprocAttr, Bool.not_true, Bool.not_false, e0, e1, e2, hl_exprs, hl_exprs3, hl_kids, hl_kids3]); try rfl) ?_; simp (maxSteps := 2000000) only [Ty.w, simprocAttr, Bool.not_true, Bool.not_false, e0, e1, e2, hl_exprs, hl_exprs3, hl_kids, hl_kids3]
    skip
    cases e3 : pmsEq params params3 with
    | false =>
     have hs : (Fm.mk op name args params exprs kids).same (.mk op3 name3 args3 params3 exprs3 kids3) = false := by simp only [Fm.same, bEq, e0, e1, e2, e3, Bool.false_and, Bool.and_false]
     refine owp_useQ (rparams_c (l := params) (m := params3) hp hp3) (by (try simp only [Ty.w, simprocAttr, Bool.not_true, Bool.not_false, e0, e1, e2, e3]); try rfl) ?_; simp (maxSteps := 2000000) only [Ty.w, simprocAttr, Bool.not_true, Bool.not_false, e0, e1, e2, e3]
     repeat' (first | refine a_seq fun K hK => ?_ | ((first | refine a_regionS ?_ | refine a_ret ?_); simp (maxSteps := 2000000) only [Ty.w, simprocAttr, Bool.not_true, Bool.not_false, e0, e1, e2, e3]) | (refine hK _ _ ?_; clear hK; try simp only [pst0, simprocAttr]))
     rw [hs]
    | true =>
     cases l_exprs : ((exprs.length : Int) != exprs3.length) with
     | true =>
      have hlen : Ex.sames exprs exprs3 = false := Ex.sames_len (by simp at l_exprs; omega)
      have hs : (Fm.mk op name args params exprs kids).same (.mk op3 name3 args3 params3 exprs3 kids3) = false := by simp only [Fm.same, bEq, e0, e1, e2, e3, hlen, Bool.false_and, Bool.and_false]
      refine owp_useQ (rparams_c (l := params) (m := params3) hp hp3) (by (try simp only [Ty.w, simprocAttr, Bool.not_true, Bool.not_false, e0, e1, e2, e3, l_exprs, hl_exprs, hl_exprs3, hl_kids, hl_kids3]); try rfl) ?_; simp (maxSteps := 2000000) only [Ty.w, simprocAttr, Bool.not_true, Bool.not_false, e0, e1, e2, e3, l_exprs, hl_exprs, hl_exprs3, hl_kids, hl_kids3]
      repeat' (first | refine a_seq fun K hK => ?_ | ((first | refine a_regionS ?_ | refine a_ret ?_); simp (maxSteps := 2000000) only [Ty.w, simprocAttr, Bool.not_true, Bool.not_false, e0, e1, e2, e3, l_exprs, hl_exprs, hl_exprs3, hl_kids, hl_kids3]) | (refine hK _ _ ?_; clear hK; try simp only [pst0, simprocAttr]))
      rw [hs]
     | false =>
      have hn_exprs : exprs.length = exprs3.length := by simp at l_exprs; omega
      cases l_kids : ((kids.length : Int) != kids3.length) with
      | true =>
       have hlen : Fm.sames kids kids3 = false := Fm.sames_len (by simp at l_kids; omega)
       have hs : (Fm.mk op name args params exprs kids).same (.mk op3 name3 args3 params3 exprs3 kids3) = false := by simp only [Fm.same, bEq, e0, e1, e2, e3, hlen, Bool.false_and, Bool.and_false]
       refine owp_useQ (rparams_c (l := params) (m := params3) hp hp3) (by (try simp only [Ty.w, simprocAttr, Bool.not_true, Bool.not_false, e0, e1, e2, e3, l_exprs, l_kids, hl_exprs, hl_exprs3, hl_kids, hl_kids3]); try rfl) ?_; simp (maxSteps := 2000000) only [Ty.w, simprocAttr, Bool.not_true, Bool.not_false, e0, e1, e2, e3, l_exprs, l_kids, hl_exprs, hl_exprs3, hl_kids, hl_kids3]
       repeat' (first | refine a_seq fun K hK => ?_ | ((first | refine a_regionS ?_ | refine a_ret ?_); simp (maxSteps := 2000000) only [Ty.w, simprocAttr, Bool.not_true, Bool.not_false, e0, e1, e2, e3, l_exprs, l_kids, hl_exprs, hl_exprs3, hl_kids, hl_kids3]) | (refine hK _ _ ?_; clear hK; try simp only [pst0, simprocAttr]))
       rw [hs]
      | false =>
       have hn_kids : kids.length = kids3.length := by simp at l_kids; omega
       refine owp_useQ (rparams_c (l := params) (m := params3) hp hp3) (by (try simp only [Ty.w, simprocAttr, Bool.not_true, Bool.not_false, e0, e1, e2, e3, l_exprs, l_kids, hl_exprs, hl_exprs3, hl_kids, hl_kids3]); try rfl) ?_; simp (maxSteps := 2000000) only [Ty.w, simprocAttr, Bool.not_true, Bool.not_false, e0, e1, e2, e3, l_exprs, l_kids, hl_exprs, hl_exprs3, hl_kids, hl_kids3]
       repeat' (first | refine a_seq fun K hK => ?_ | (refine a_block ?_) | (refine a_regionS ?_; simp (maxSteps := 2000000) only [Ty.w, simprocAttr, Bool.not_true, Bool.not_false, e0, e1, e2, e3, l_exprs, l_kids, hl_exprs, hl_exprs3, hl_kids, hl_kids3]) | (refine a_skip ?_; try simp only [pst0, simprocAttr]) | (refine a_cond _ (by (try simp (maxSteps := 2000000) only [Ty.w, simprocAttr, Bool.not_true, Bool.not_false, e0, e1, e2, e3, l_exprs, l_kids, hl_exprs, hl_exprs3, hl_kids, hl_kids3]); rfl) (fun hb => ?_) (fun hb => ?_) <;> (try simp only [hb0, decide_eq_true_eq, decide_eq_false_iff_not, simprocAttr] at hb) <;> (try (exfalso; omega))) | (refine hK _ _ ?_; clear hK; try simp only [pst0, simprocAttr]))
       refine a_loop (fun c S h7 => h7 = h ∧ S 2 = .cptr (Fm.mk op name args params exprs kids).cells ∧ S 3 = .cptr (Fm.mk op3 name3 args3 params3 exprs3 kids3).cells ∧ ∃ k : Nat, S 5 = .sc (.int .i64 k) ∧ k ≤ exprs.length ∧ c = exprs.length - k ∧ Ex.sames exprs exprs3 = Ex.sames (exprs.drop k) (exprs3.drop k)) exprs.length ?_ ?_
       ·simp only [Ty.w, simprocAttr, cellsA, cellsB]
        exact ⟨0, rfl, by omega, rfl, by simp⟩
       ·rintro c S h7 ⟨rfl, g2, g3, k, gk, hkl, rfl, hinv⟩
        rw [cellsA] at g2
        rw [cellsB] at g3
        by_cases hlt : k < exprs.length
        ·have hd : decide ((k : Int) < (exprs.length : Int)) = true := by simp; omega
         have w7 : IntKind.i64.wrap ((k : Int) + 1) = k + 1 := by unfold bigN at he; rw [wrap64 (by omega) (by omega)]
         obtain ⟨a, hx⟩ : ∃ a, exprs[k]? = some a := ⟨_, List.getElem?_eq_getElem hlt⟩
         obtain ⟨b, hy⟩ : ∃ b, exprs3[k]? = some b := ⟨_, List.getElem?_eq_getElem (by omega)⟩
         have hc := hfe a (List.mem_of_getElem? hx) b (List.mem_of_getElem? hy)
         rw [drop_of_get hx, drop_of_get hy] at hinv
         simp only [Ex.sames] at hinv
         have hr := Ex.rows_get hx
         have hr2 := Ex.rows_get hy
         generalize he : a.same b = e at hc hinv
         clear he
         obtain ⟨op2, name2, n2, args2, kids2⟩ := a
         obtain ⟨op4, name4, n4, args4, kids4⟩ := b
         simp only [Ex.cells] at hr hr2 hc
         cases e with
         | false =>
          have hs : (Fm.mk op name args params exprs kids).same (.mk op3 name3 args3 params3 exprs3 kids3) = false := by simp only [Fm.same, bEq, hinv, e0, e1, e2, e3, Bool.false_and, Bool.and_false]
          have W := And.intro g2 (And.intro g3 (And.intro gk (And.intro hd (And.intro hr (And.intro hr2 w7)))))
          repeat' (first | refine a_seq fun K hK => ?_ | ((first | refine a_regionS ?_ | refine a_drawS (by decide +kernel) ?_); simp (maxSteps := 2000000) only [Ty.w, simprocAttr, W, hl_exprs, hl_exprs3, hl_kids, hl_kids3, Bool.not_false]) | (refine a_skip ?_; try simp only [pst0, simprocAttr]) | (refine a_cond _ (by (try simp (maxSteps := 2000000) only [Ty.w, simprocAttr, W, hl_exprs, hl_exprs3, hl_kids, hl_kids3, Bool.not_false]); rfl) (fun hb => ?_) (fun hb => ?_) <;> (try simp only [hb0, decide_eq_true_eq, decide_eq_false_iff_not, simprocAttr] at hb) <;> (try (exfalso; omega))) | (refine hK _ _ ?_; clear hK; try simp only [pst0, simprocAttr]))
          (first | refine a_dcall0 (hc _) (by (try simp only [Ty.w, simprocAttr, W, hl_exprs, hl_exprs3, hl_kids, hl_kids3]); try rfl) ?_ | refine a_dcallA (hc _) (by (try simp only [Ty.w, simprocAttr, W, hl_exprs, hl_exprs3, hl_kids, hl_kids3]); try rfl) (by simp only [Ty.w, simprocAttr, W, hl_exprs, hl_exprs3, hl_kids, hl_kids3]; try trivial) ?_); simp (maxSteps := 2000000) only [Ty.w, simprocAttr, W, Option.getD_some, hl_exprs, hl_exprs3, hl_kids, hl_kids3]
          repeat' (first | refine a_seq fun K hK => ?_ | ((first | refine a_regionS ?_ | refine a_ret ?_); simp (maxSteps := 2000000) only [Ty.w, simprocAttr, W, Bool.not_false]) | (refine hK _ _ ?_; clear hK; try simp only [pst0, simprocAttr]))
          rw [hs]
         | true =>
          rw [Bool.true_and] at hinv
          have W := And.intro g2 (And.intro g3 (And.intro gk (And.intro hd (And.intro hr (And.intro hr2 w7)))))
          repeat' (first | refine a_seq fun K hK => ?_ | ((first | refine a_regionS ?_ | refine a_drawS (by decide +kernel) ?_); simp (maxSteps := 2000000) only [Ty.w, simprocAttr, W, hl_exprs, hl_exprs3, hl_kids, hl_kids3, Bool.not_true]) | (refine a_skip ?_; try simp only [pst0, simprocAttr]) | (refine a_cond _ (by (try simp (maxSteps := 2000000) only [Ty.w, simprocAttr, W, hl_exprs, hl_exprs3, hl_kids, hl_kids3, Bool.not_true]); rfl) (fun hb => ?_) (fun hb => ?_) <;> (try simp only [hb0, decide_eq_true_eq, decide_eq_false_iff_not, simprocAttr] at hb) <;> (try (exfalso; omega))) | (refine hK _ _ ?_; clear hK; try simp only [pst0, simprocAttr]))
          (first | refine a_dcall0 (hc _) (by (try simp only [Ty.w, simprocAttr, W, hl_exprs, hl_exprs3, hl_kids, hl_kids3]); try rfl) ?_ | refine a_dcallA (hc _) (by (try simp only [Ty.w, simprocAttr, W, hl_exprs, hl_exprs3, hl_kids, hl_kids3]); try rfl) (by simp only [Ty.w, simprocAttr, W, hl_exprs, hl_exprs3, hl_kids, hl_kids3]; try trivial) ?_); simp (maxSteps := 2000000) only [Ty.w, simprocAttr, W, Option.getD_some, hl_exprs, hl_exprs3, hl_kids, hl_kids3]
          repeat' (first | (refine a_block ?_) | (refine a_regionS ?_; simp (maxSteps := 2000000) only [Ty.w, simprocAttr, W, Bool.not_true]) | (refine a_skip ?_; try simp only [pst0, simprocAttr]) | (refine hK _ _ ?_; clear hK; try simp only [pst0, simprocAttr]))
          exact ⟨exprs.length - (k + 1), by omega, by rw [cellsA], by rw [cellsB], k + 1, by simp, by omega, rfl, hinv⟩
        ·have hd : decide ((k : Int) < (exprs.length : Int)) = false := by simp; omega
         rw [List.drop_eq_nil_of_le (by omega), List.drop_eq_nil_of_le (by omega)] at hinv
         have hq0 := hinv
         simp only [Ex.sames] at hq0
         clear hinv
         repeat' (first | refine a_seq fun K hK => ?_ | (refine a_block ?_) | (refine a_regionS ?_; simp (maxSteps := 2000000) only [Ty.w, simprocAttr, g2, g3, gk, hl_exprs, hl_exprs3, hl_kids, hl_kids3, hd]) | (refine a_exit ?_; try simp only [pst0, simprocAttr]) | (refine a_cond _ (by (try simp (maxSteps := 2000000) only [Ty.w, simprocAttr, g2, g3, gk, hl_exprs, hl_exprs3, hl_kids, hl_kids3, hd]); rfl) (fun hb => ?_) (fun hb => ?_) <;> (try simp only [hb0, decide_eq_true_eq, decide_eq_false_iff_not, simprocAttr] at hb) <;> (try (exfalso; omega))) | ((first | refine hK _ _ ?_ | (clear hK; refine hK _ _ ?_)); clear hK; try simp only [pst0, simprocAttr]))
         clear gk
         refine a_loop (fun c S h8 => h8 = h7 ∧ S 2 = .cptr (Fm.mk op name args params exprs kids).cells ∧ S 3 = .cptr (Fm.mk op3 name3 args3 params3 exprs3 kids3).cells ∧ ∃ k : Nat, S 6 = .sc (.int .i64 k) ∧ k ≤ kids.length ∧ c = kids.length - k ∧ Fm.sames kids kids3 = Fm.sames (kids.drop k) (kids3.drop k)) kids.length ?_ ?_
         ·simp only [Ty.w, simprocAttr, cellsA, cellsB, g2, g3]
          exact ⟨0, rfl, by omega, rfl, by simp⟩
         ·clear g2 g3; rintro c S h8 ⟨rfl, g2, g3, k, gk, hkl, rfl, hinv⟩
          rw [cellsA] at g2
          rw [cellsB] at g3
          by_cases hlt : k < kids.length
          ·have hd : decide ((k : Int) < (kids.length : Int)) = true := by simp; omega
           have w7 : IntKind.i64.wrap ((k : Int) + 1) = k + 1 := by unfold bigN at hk; rw [wrap64 (by omega) (by omega)]
           obtain ⟨a, hx⟩ : ∃ a, kids[k]? = some a := ⟨_, List.getElem?_eq_getElem hlt⟩
           obtain ⟨b, hy⟩ : ∃ b, kids3[k]? = some b := ⟨_, List.getElem?_eq_getElem (by omega)⟩
           have hc := hfk a (List.mem_of_getElem? hx) b (List.mem_of_getElem? hy)
           rw [drop_of_get hx, drop_of_get hy] at hinv
           simp only [Fm.sames] at hinv
           have hr := Fm.rows_get hx
           have hr2 := Fm.rows_get hy
           generalize he : a.same b = e at hc hinv
           clear he
           obtain ⟨op2, name2, args2, params2, exprs2, kids2⟩ := a
           obtain ⟨op4, name4, args4, params4, exprs4, kids4⟩ := b
           simp only [Fm.cells] at hr hr2 hc
           cases e with
           | false =>
            have hs : (Fm.mk op name args params exprs kids).same (.mk op3 name3 args3 params3 exprs3 kids3) = false := by simp only [Fm.same, bEq, hinv, e0, e1, e2, e3, hq0, Bool.false_and, Bool.and_false]
            have W := And.intro g2 (And.intro g3 (And.intro gk (And.intro hd (And.intro hr (And.intro hr2 w7)))))
            repeat' (first | refine a_seq fun K hK => ?_ | ((first | refine a_regionS ?_ | refine a_drawS (by decide +kernel) ?_); simp (maxSteps := 2000000) only [Ty.w, simprocAttr, W, hl_exprs, hl_exprs3, hl_kids, hl_kids3, Bool.not_false]) | (refine a_skip ?_; try simp only [pst0, simprocAttr]) | (refine a_cond _ (by (try simp (maxSteps := 2000000) only [Ty.w, simprocAttr, W, hl_exprs, hl_exprs3, hl_kids, hl_kids3, Bool.not_false]); rfl) (fun hb => ?_) (fun hb => ?_) <;> (try simp only [hb0, decide_eq_true_eq, decide_eq_false_iff_not, simprocAttr] at hb) <;> (try (exfalso; omega))) | (refine hK _ _ ?_; clear hK; try simp only [pst0, simprocAttr]))
            (first | refine a_dcall0 (hc _) (by (try simp only [Ty.w, simprocAttr, W, hl_exprs, hl_exprs3, hl_kids, hl_kids3]); try rfl) ?_ | refine a_dcallA (hc _) (by (try simp only [Ty.w, simprocAttr, W, hl_exprs, hl_exprs3, hl_kids, hl_kids3]); try rfl) (by simp only [Ty.w, simprocAttr, W, hl_exprs, hl_exprs3, hl_kids, hl_kids3]; try trivial) ?_); simp (maxSteps := 2000000) only [Ty.w, simprocAttr, W, Option.getD_some, hl_exprs, hl_exprs3, hl_kids, hl_kids3]
            repeat' (first | refine a_seq fun K hK => ?_ | ((first | refine a_regionS ?_ | refine a_ret ?_); simp (maxSteps := 2000000) only [Ty.w, simprocAttr, W, Bool.not_false]) | (refine hK _ _ ?_; clear hK; try simp only [pst0, simprocAttr]))
            rw [hs]
           | true =>
            rw [Bool.true_and] at hinv
            have W := And.intro g2 (And.intro g3 (And.intro gk (And.intro hd (And.intro hr (And.intro hr2 w7)))))
            repeat' (first | refine a_seq fun K hK => ?_ | ((first | refine a_regionS ?_ | refine a_drawS (by decide +kernel) ?_); simp (maxSteps := 2000000) only [Ty.w, simprocAttr, W, hl_exprs, hl_exprs3, hl_kids, hl_kids3, Bool.not_true]) | (refine a_skip ?_; try simp only [pst0, simprocAttr]) | (refine a_cond _ (by (try simp (maxSteps := 2000000) only [Ty.w, simprocAttr, W, hl_exprs, hl_exprs3, hl_kids, hl_kids3, Bool.not_true]); rfl) (fun hb => ?_) (fun hb => ?_) <;> (try simp only [hb0, decide_eq_true_eq, decide_eq_false_iff_not, simprocAttr] at hb) <;> (try (exfalso; omega))) | (refine hK _ _ ?_; clear hK; try simp only [pst0, simprocAttr]))
            (first | refine a_dcall0 (hc _) (by (try simp only [Ty.w, simprocAttr, W, hl_exprs, hl_exprs3, hl_kids, hl_kids3]); try rfl) ?_ | refine a_dcallA (hc _) (by (try simp only [Ty.w, simprocAttr, W, hl_exprs, hl_exprs3, hl_kids, hl_kids3]); try rfl) (by simp only [Ty.w, simprocAttr, W, hl_exprs, hl_exprs3, hl_kids, hl_kids3]; try trivial) ?_); simp (maxSteps := 2000000) only [Ty.w, simprocAttr, W, Option.getD_some, hl_exprs, hl_exprs3, hl_kids, hl_kids3]
            repeat' (first | (refine a_block ?_) | (refine a_regionS ?_; simp (maxSteps := 2000000) only [Ty.w, simprocAttr, W, Bool.not_true]) | (refine a_skip ?_; try simp only [pst0, simprocAttr]) | (refine hK _ _ ?_; clear hK; try simp only [pst0, simprocAttr]))
            exact ⟨kids.length - (k + 1), by omega, by rw [cellsA], by rw [cellsB], k + 1, by simp, by omega, rfl, hinv⟩
          ·have hd : decide ((k : Int) < (kids.length : Int)) = false := by simp; omega
           rw [List.drop_eq_nil_of_le (by omega), List.drop_eq_nil_of_le (by omega)] at hinv
           have hq1 := hinv
           simp only [Fm.sames] at hq1
           clear hinv
           have hs : (Fm.mk op name args params exprs kids).same (.mk op3 name3 args3 params3 exprs3 kids3) = true := by simp only [Fm.same, bEq, e0, e1, e2, e3, hq0, hq1, Bool.true_and]
           repeat' (first | refine a_seq fun K hK => ?_ | ((first | refine a_regionS ?_ | refine a_ret ?_); simp (maxSteps := 2000000) only [Ty.w, simprocAttr, g2, g3, gk, hl_exprs, hl_exprs3, hl_kids, hl_kids3, hd]) | (refine a_exit ?_; try simp only [pst0, simprocAttr]) | (refine a_cond _ (by (try simp (maxSteps := 2000000) only [Ty.w, simprocAttr, g2, g3, gk, hl_exprs, hl_exprs3, hl_kids, hl_kids3, hd]); rfl) (fun hb => ?_) (fun hb => ?_) <;> (try simp only [hb0, decide_eq_true_eq, decide_eq_false_iff_not, simprocAttr] at hb) <;> (try (exfalso; omega))) | ((first | refine hK _ _ ?_ | (clear hK; refine hK _ _ ?_)); clear hK; try simp only [pst0, simprocAttr]))
           rw [hs]
end Go.Proofs.Ytjlkapgpjamnkaa
namespace Go.Proofs.Ytjlkapgpjamnkaa
open Go.AM
set_option maxHeartbeats 4000000
set_option maxRecDepth 20000
theorem zeroFm_fit : zeroFm.ok ∧ zeroFm.small := by
 constructor
 ·simp only [zeroFm, Fm.ok, Ex.oks, Fm.oks]
  exact ⟨by decide, by decide, ⟨by decide, fun a h => by simp at h⟩, ⟨by decide, fun a h => by simp at h⟩, ⟨by decide, trivial⟩, by decide, trivial⟩
 ·simp [zeroFm, Fm.small, Ex.smalls, Fm.smalls]
end Go.Proofs.Ytjlkapgpjamnkaa
namespace Go.Proofs.Ytjlkapgpjamnkaa
open Go.AM
set_option maxHeartbeats 8000000
set_option maxRecDepth 20000
theorem rTerms_c {n a : List ByteArray} (hn : n.length ≤ 1048576) (ha : a.length ≤ 1048576) (hs : ∀ s ∈ a, s.size ≤ bigN) (h : Heap) :
  PCall Try.prog 44 [.imm 1 (strRows n), .imm 1 (strRows a)] h fun r h' => r = .sc (.bool (termsNA n a)) ∧ h' = h := by
 have hl1 := strRows_len n
 have hl2 := strRows_len a
 unfold termsNA
 have hc := fun (l : List ByteArray) (hl : l.length ≤ bigN) (hm : ∀ s ∈ l, s.size ≤ bigN) (H : Heap) => rall_c (h := H) hl hm
 have htk : ∀ k, strRows (a.take k) = (strRows a).take k := fun k => by unfold strRows; rw [List.map_take]
 by_cases q : a.length < n.length
 ·have hd : decide ((a.length : Int) < (n.length : Int)) = true := by simp; omega
  have hm : min n.length a.length = a.length := by omega
  have hp0 : (0 : Int) ≤ (a.length : Int) := by omega
  have hle := Int.le_refl (a.length : Int)
  rw [hm]
  have hc := hc (a.take a.length) (by rw [List.length_take]; unfold bigN; omega) (fun s h => hs s (List.mem_of_mem_take h))
  rw [htk] at hc
  generalize (a.take a.length).all termB = b at hc
  refine pcall_body (ow := fun _ => false) (wf := fun _ => false) Ty.mixed Try.func44 rfl Ty.hb_44 (by rw [Try.ntmps44]; simp) ?_
  rw [Try.ntmps44, Try.results44]
  repeat' (first | refine a_seq fun K hK => ?_ | (refine a_regionS ?_; simp (maxSteps := 2000000) only [Ty.w, simprocAttr, hl1, hl2, hd, Option.getD_none, Option.getD_some, Int.le_refl, hp0, hle, Int.sub_zero, Int.toNat_natCast, Int.toNat_zero, List.drop_zero, and_self]) | (refine a_cond _ (by (try simp (maxSteps := 2000000) only [Ty.w, simprocAttr, hl1, hl2, hd, Option.getD_none, Option.getD_some, Int.le_refl, hp0, hle, Int.sub_zero, Int.toNat_natCast, Int.toNat_zero, List.drop_zero, and_self]); rfl) (fun hb => ?_) (fun hb => ?_) <;> (try simp only [hb0, decide_eq_true_eq, decide_eq_false_iff_not, simprocAttr] at hb) <;> (try (exfalso; omega))) | (refine hK _ _ ?_; clear hK; try simp only [pst0, simprocAttr]))
  refine owp_useQ (hc _) (by (try simp only [Ty.w, simprocAttr, hl1]); try rfl) ?_; simp (maxSteps := 2000000) only [Ty.w, simprocAttr, hl1]
  repeat' (first | (refine a_ret ?_; simp (maxSteps := 2000000) only [Ty.w, simprocAttr]) | (refine hK _ _ ?_; clear hK; try simp only [pst0, simprocAttr]))
 ·have hd : decide ((a.length : Int) < (n.length : Int)) = false := by simp; omega
  have hm : min n.length a.length = n.length := by omega
  rw [hm]
  have hc := hc (a.take n.length) (by rw [List.length_take]; unfold bigN; omega) (fun s h => hs s (List.mem_of_mem_take h))
  rw [htk] at hc
  generalize (a.take n.length).all termB = b at hc
  have hle : ((n.length : Int) ≤ a.length) := by omega
  have hp0 : (0 : Int) ≤ (n.length : Int) := by omega
  refine pcall_body (ow := fun _ => false) (wf := fun _ => false) Ty.mixed Try.func44 rfl Ty.hb_44 (by rw [Try.ntmps44]; simp) ?_
  rw [Try.ntmps44, Try.results44]
  repeat' (first | refine a_seq fun K hK => ?_ | (refine a_regionS ?_; simp (maxSteps := 2000000) only [Ty.w, simprocAttr, hl1, hl2, hd, Option.getD_none, Option.getD_some, Int.le_refl, hp0, hle, Int.sub_zero, Int.toNat_natCast, Int.toNat_zero, List.drop_zero, and_self]) | (refine a_skip ?_; try simp only [pst0, simprocAttr]) | (refine a_cond _ (by (try simp (maxSteps := 2000000) only [Ty.w, simprocAttr, hl1, hl2, hd, Option.getD_none, Option.getD_some, Int.le_refl, hp0, hle, Int.sub_zero, Int.toNat_natCast, Int.toNat_zero, List.drop_zero, and_self]); rfl) (fun hb => ?_) (fun hb => ?_) <;> (try simp only [hb0, decide_eq_true_eq, decide_eq_false_iff_not, simprocAttr] at hb) <;> (try (exfalso; omega))) | (refine hK _ _ ?_; clear hK; try simp only [pst0, simprocAttr]))
  refine owp_useQ (hc _) (by (try simp only [Ty.w, simprocAttr, hl1]); try rfl) ?_; simp (maxSteps := 2000000) only [Ty.w, simprocAttr, hl1]
  repeat' (first | (refine a_ret ?_; simp (maxSteps := 2000000) only [Ty.w, simprocAttr]) | (refine hK _ _ ?_; clear hK; try simp only [pst0, simprocAttr]))
theorem zeroExB_ok : (Ex.mk ⟨#[]⟩ ⟨#[]⟩ 0 [] []).ok := by
 simp only [Ex.ok, Ex.oks]
 exact ⟨by decide, by decide, by decide, ⟨by decide, fun a h => by simp at h⟩, by decide, trivial⟩
theorem formulaBinds_c {f : Fm} {x : Ex} {n a : List ByteArray} (hok : f.ok) (hb : PV.bulkL f.cells ≤ 1048576) (hox : x.ok) (hbx : PV.bulkL x.cells ≤ 1048576)
  (hn : n.length ≤ 1048576) (ha : a.length ≤ 1048576) (hns : ∀ s ∈ n, s.size ≤ bigN) (has : ∀ s ∈ a, s.size ≤ bigN) :
  PCall Try.prog 9 [.agg f.cells, .agg x.cells, .agg [.imm 1 (strRows n), .imm 1 (strRows a)]] Heap.nil fun r _ => r = .sc (.bool true) := by
 have hsm := Fm.small_bulk f hb
 have hsx := Ex.small_bulk x hbx
 have cl := large_c hok
 have csz := rsizeE_c x hox
 have hR := fun h : Heap => rvalidF_c hok hsm (fmW_depth_big hb) h
 rw [← validF_same (fmW_nodes_big hb)] at hR
 have hRx := fun h : Heap => rvalidE_c hox hsx (exW_depth_big hbx) h
 rw [← validE_same (exW_nodes_big hbx)] at hRx
 have cT := rTerms_c hn ha has
 have cB := fun H : Heap => Bind_c (h := H) (Sl.imm (strRows n)) (Sl.imm (strRows a)) hok hsm (by omega) (by omega) (by omega) hns has
 have cE := fun H : Heap => BindExpr_c (h := H) (Sl.imm (strRows n)) (Sl.imm (strRows a)) hox hsx (by omega) (by omega) hns has
 have hts : ∀ s t, toM n a s = some t → t.size ≤ bigN := fun s t h => has t (toM_mem h)
 have cRB0 := fun (hsh : shapedF f = true) (H : Heap) => rbindF_c f hsm hsh hok (by omega) (h := H) (by omega) hns (Sl.imm (strRows n)) (Sl.imm (strRows a))
 have cRE0 := fun (hsh : shapedE x = true) (H : Heap) => RBindExpr_c (h := H) hsx hsh (Sl.imm (strRows n)) (Sl.imm (strRows a)) (by omega) hns
 have hgo := bindFm_okk hts f [] hok
 have hyo := bindEx_okk hts [] x hox
 have hbs := fun hsh : shapedF f = true => bind_same hsh n a
 have hbe := bindEx_same n a x
 have hshF : validF f = true → shapedF f = true := fun h => (validF_iff.1 h).1
 have hshE : validE x = true → shapedE x = true := fun h => formedM_shaped x 0 0 (by unfold validE at h; simp only [Bool.and_eq_true] at h; exact h.1)
 rw [← hbe] at cRE0
 have cRB : validF f = true → ∀ H : Heap, PCall Try.prog 47 [.agg f.cells, .imm 1 (strRows n), .imm 1 (strRows a)] H fun r h' => r = .agg (bindFm (toM n a) f []).cells ∧ h' = H := fun hv H => by
  have := cRB0 (hshF hv) H
  rw [← hbs (hshF hv)] at this
  exact this
 have cRE : validE x = true → ∀ H : Heap, PCall Try.prog 48 [.agg x.cells, .imm 1 (strRows n), .imm 1 (strRows a)] H fun r h' => r = .agg (bindEx (toM n a) [] x).cells ∧ h' = H := fun hv H => cRE0 (hshE hv) H
 clear hbs hbe hshF hshE hts cRB0 cRE0
 have cSg : ∀ g : Fm, g.ok → ∀ H : Heap, PCall Try.prog 21 [.agg g.cells, .agg g.cells] H fun r h' => r = .sc (.bool true) ∧ h' = H := fun g ho H => by
  have := rsame_c g ho g ho H
  rw [same_self] at this
  exact this
 have cSy : ∀ y : Ex, y.ok → ∀ H : Heap, PCall Try.prog 38 [.agg y.cells, .agg y.cells] H fun r h' => r = .sc (.bool true) ∧ h' = H := fun y ho H => by
  have := rsameE_c y ho y ho H
  rw [exB_refl] at this
  exact this
 have cS0 : ∀ H : Heap, PCall Try.prog 21 [.agg zeroFm.cells, .agg [.sc (.string ⟨#[]⟩), .sc (.string ⟨#[]⟩), .sc (.slice none 0 0), .sc (.slice none 0 0), .sc (.slice none 0 0), .sc (.slice none 0 0)]] H fun r h' => r = .sc (.bool true) ∧ h' = H := fun H => by
  refine PCall.nz (cSg zeroFm zeroFm_fit.1 H) ?_
  simp only [zeroFm, Fm.cells, Fm.rows, Ex.rows, sr_nil, pr_nil]
  refine nz_cons (Nz.refl _) (nz_cons (nz_agg ?_) (NzL.refl _))
  exact nz_cons (Nz.refl _) (nz_cons (Nz.refl _) (nz_cons nz_nil (nz_cons nz_nil (nz_cons nz_nil (nz_cons nz_nil (NzL.refl _))))))
 have cS0x : ∀ H : Heap, PCall Try.prog 38 [.agg (Ex.mk ⟨#[]⟩ ⟨#[]⟩ 0 [] []).cells, .agg [.sc (.string ⟨#[]⟩), .sc (.string ⟨#[]⟩), .sc (.int .i64 0), .sc (.slice none 0 0), .sc (.slice none 0 0)]] H fun r h' => r = .sc (.bool true) ∧ h' = H := fun H => by
  refine PCall.nz (cSy _ zeroExB_ok H) ?_
  simp only [Ex.cells, Ex.rows, sr_nil]
  refine nz_cons (Nz.refl _) (nz_cons (nz_agg ?_) (NzL.refl _))
  exact nz_cons (Nz.refl _) (nz_cons (Nz.refl _) (nz_cons (Nz.refl _) (nz_cons nz_nil (nz_cons nz_nil (NzL.refl _)))))
 have cSg := cSg _ hgo
 have cSy := cSy _ hyo
 have hln := strRows_len n
 have hla := strRows_len a
 generalize termsNA n a = T at cT cB cE
 generalize validF f = vF at hR cB cRB
 generalize validE x = vE at hRx cE cRE
 generalize bindFm (toM n a) f [] = G at cB cRB cSg
 generalize bindEx (toM n a) [] x = Y at cE cRE cSy
 generalize f.size = fs at cl
 generalize x.size = xs at csz
 generalize zeroFm = Z at cB cS0
 generalize Ex.mk ⟨#[]⟩ ⟨#[]⟩ 0 [] [] = ZE at cE cS0x
 generalize strRows n = rn at *
 generalize strRows a = ra at *
 generalize n.length = nl at *
 generalize a.length = al at *
 clear hok hb hox hbx hns has hsm hsx hgo hyo n a
 cases l1 : decide (fs > 5000) with
 | true =>
  clear hR hRx cT cB cE cRB cRE cSg cSy cS0 cS0x hln hla
  obtain ⟨op, name, args, params, exprs, kids⟩ := f
  obtain ⟨xo, xn, xv, xa, xk⟩ := x
  simp only [Fm.cells, Ex.cells] at cl csz ⊢
  refine pcall_body (ow := fun _ => false) (wf := fun _ => false) Ty.mixed Try.func9 rfl Ty.hb_9 (by rw [Try.ntmps9]; simp) ?_
  rw [Try.ntmps9, Try.results9]
  repeat' (first | refine a_seq fun K hK => ?_ | (refine a_regionS ?_; simp (maxSteps := 2000000) only [Ty.w, simprocAttr]) | (refine hK _ _ ?_; clear hK; try simp only [pst0, simprocAttr]))
  refine owp_useQ (cl _) (by (try simp only [Ty.w, simprocAttr, l1]); try rfl) ?_; simp (maxSteps := 2000000) only [Ty.w, simprocAttr, l1]
  repeat' (first | refine a_seq fun K hK => ?_ | (refine a_regionS ?_; simp (maxSteps := 2000000) only [Ty.w, simprocAttr, l1]) | (refine hK _ _ ?_; clear hK; try simp only [pst0, simprocAttr]))
  refine owp_useQ (awake_c) (by (try simp only [Ty.w, simprocAttr, ]); try rfl) ?_; simp (maxSteps := 2000000) only [Ty.w, simprocAttr, ]
  repeat' (first | (refine a_ret ?_; simp (maxSteps := 2000000) only [Ty.w, simprocAttr]) | (refine hK _ _ ?_; clear hK; try simp only [pst0, simprocAttr]))
 | false =>
  cases l2 : decide (xs > 5000) with
  | true =>
   clear hR hRx cT cB cE cRB cRE cSg cSy cS0 cS0x hln hla
   obtain ⟨op, name, args, params, exprs, kids⟩ := f
   obtain ⟨xo, xn, xv, xa, xk⟩ := x
   simp only [Fm.cells, Ex.cells] at cl csz ⊢
   refine pcall_body (ow := fun _ => false) (wf := fun _ => false) Ty.mixed Try.func9 rfl Ty.hb_9 (by rw [Try.ntmps9]; simp) ?_
   rw [Try.ntmps9, Try.results9]
   repeat' (first | refine a_seq fun K hK => ?_ | (refine a_regionS ?_; simp (maxSteps := 2000000) only [Ty.w, simprocAttr]) | (refine hK _ _ ?_; clear hK; try simp only [pst0, simprocAttr]))
   refine owp_useQ (cl _) (by (try simp only [Ty.w, simprocAttr, l1]); try rfl) ?_; simp (maxSteps := 2000000) only [Ty.w, simprocAttr, l1]
   skip
   refine owp_useQ (csz _) (by (try simp only [Ty.w, simprocAttr, l1, l2]); try rfl) ?_; simp (maxSteps := 2000000) only [Ty.w, simprocAttr, l1, l2]
   repeat' (first | refine a_seq fun K hK => ?_ | (refine a_regionS ?_; simp (maxSteps := 2000000) only [Ty.w, simprocAttr, l1, l2]) | (refine hK _ _ ?_; clear hK; try simp only [pst0, simprocAttr]))
   refine owp_useQ (awake_c) (by (try simp only [Ty.w, simprocAttr, ]); try rfl) ?_; simp (maxSteps := 2000000) only [Ty.w, simprocAttr, ]
   repeat' (first | (refine a_ret ?_; simp (maxSteps := 2000000) only [Ty.w, simprocAttr]) | (refine hK _ _ ?_; clear hK; try simp only [pst0, simprocAttr]))
  | false =>
   cases l3 : decide ((rn.length : Int) > 20) with
   | true =>
    clear hR hRx cT cB cE cRB cRE cSg cSy cS0 cS0x hln hla
    obtain ⟨op, name, args, params, exprs, kids⟩ := f
    obtain ⟨xo, xn, xv, xa, xk⟩ := x
    simp only [Fm.cells, Ex.cells] at cl csz ⊢
    refine pcall_body (ow := fun _ => false) (wf := fun _ => false) Ty.mixed Try.func9 rfl Ty.hb_9 (by rw [Try.ntmps9]; simp) ?_
    rw [Try.ntmps9, Try.results9]
    repeat' (first | refine a_seq fun K hK => ?_ | (refine a_regionS ?_; simp (maxSteps := 2000000) only [Ty.w, simprocAttr]) | (refine hK _ _ ?_; clear hK; try simp only [pst0, simprocAttr]))
    refine owp_useQ (cl _) (by (try simp only [Ty.w, simprocAttr, l1]); try rfl) ?_; simp (maxSteps := 2000000) only [Ty.w, simprocAttr, l1]
    skip
    refine owp_useQ (csz _) (by (try simp only [Ty.w, simprocAttr, l1, l2, l3]); try rfl) ?_; simp (maxSteps := 2000000) only [Ty.w, simprocAttr, l1, l2, l3]
    repeat' (first | refine a_seq fun K hK => ?_ | (refine a_regionS ?_; simp (maxSteps := 2000000) only [Ty.w, simprocAttr, l1, l2, l3]) | (refine hK _ _ ?_; clear hK; try simp only [pst0, simprocAttr]))
    refine owp_useQ (awake_c) (by (try simp only [Ty.w, simprocAttr, ]); try rfl) ?_; simp (maxSteps := 2000000) only [Ty.w, simprocAttr, ]
    repeat' (first | (refine a_ret ?_; simp (maxSteps := 2000000) only [Ty.w, simprocAttr]) | (refine hK _ _ ?_; clear hK; try simp only [pst0, simprocAttr]))
   | false =>
    cases l4 : decide ((ra.length : Int) > 20) with
    | true =>
     clear hR hRx cT cB cE cRB cRE cSg cSy cS0 cS0x hln hla
     obtain ⟨op, name, args, params, exprs, kids⟩ := f
     obtain ⟨xo, xn, xv, xa, xk⟩ := x
     simp only [Fm.cells, Ex.cells] at cl csz ⊢
     refine pcall_body (ow := fun _ => false) (wf := fun _ => false) Ty.mixed Try.func9 rfl Ty.hb_9 (by rw [Try.ntmps9]; simp) ?_
     rw [Try.ntmps9, Try.results9]
     repeat' (first | refine a_seq fun K hK => ?_ | (refine a_regionS ?_; simp (maxSteps := 2000000) only [Ty.w, simprocAttr]) | (refine hK _ _ ?_; clear hK; try simp only [pst0, simprocAttr]))
     refine owp_useQ (cl _) (by (try simp only [Ty.w, simprocAttr, l1]); try rfl) ?_; simp (maxSteps := 2000000) only [Ty.w, simprocAttr, l1]
     skip
     refine owp_useQ (csz _) (by (try simp only [Ty.w, simprocAttr, l1, l2, l3, l4]); try rfl) ?_; simp (maxSteps := 2000000) only [Ty.w, simprocAttr, l1, l2, l3, l4]
     repeat' (first | refine a_seq fun K hK => ?_ | (refine a_regionS ?_; simp (maxSteps := 2000000) only [Ty.w, simprocAttr, l1, l2, l3, l4]) | (refine hK _ _ ?_; clear hK; try simp only [pst0, simprocAttr]))
     refine owp_useQ (awake_c) (by (try simp only [Ty.w, simprocAttr, ]); try rfl) ?_; simp (maxSteps := 2000000) only [Ty.w, simprocAttr, ]
     repeat' (first | (refine a_ret ?_; simp (maxSteps := 2000000) only [Ty.w, simprocAttr]) | (refine hK _ _ ?_; clear hK; try simp only [pst0, simprocAttr]))
    | false =>
     cases T with
     | false =>
      clear cRB cRE cSg cSy hR hRx
      have cS := cS0
      have cU := cS0x
      simp only [Bool.false_eq_true, false_and, and_false, and_self, if_true, if_false] at cB cE
      obtain ⟨op, name, args, params, exprs, kids⟩ := f
      obtain ⟨xo, xn, xv, xa, xk⟩ := x
      obtain ⟨go, gn, ga, gp, ge, gk⟩ := Z
      obtain ⟨yo, yn, yv, ya, yk⟩ := ZE
      simp only [Fm.cells, Ex.cells] at cl csz cB cE cS cU ⊢
      refine pcall_body (ow := fun _ => false) (wf := fun _ => false) Ty.mixed Try.func9 rfl Ty.hb_9 (by rw [Try.ntmps9]; simp) ?_
      rw [Try.ntmps9, Try.results9]
      repeat' (first | refine a_seq fun K hK => ?_ | (refine a_regionS ?_; simp (maxSteps := 2000000) only [Ty.w, simprocAttr]) | (refine hK _ _ ?_; clear hK; try simp only [pst0, simprocAttr]))
      refine owp_useQ (cl _) (by (try simp only [Ty.w, simprocAttr, l1]); try rfl) ?_; simp (maxSteps := 2000000) only [Ty.w, simprocAttr, l1]
      skip
      refine owp_useQ (csz _) (by (try simp only [Ty.w, simprocAttr, l1, l2, l3, l4]); try rfl) ?_; simp (maxSteps := 2000000) only [Ty.w, simprocAttr, l1, l2, l3, l4]
      skip
      refine owp_useQ (awake_c) (by (try simp only [Ty.w, simprocAttr, Bool.not_true]); try rfl) ?_; simp (maxSteps := 2000000) only [Ty.w, simprocAttr, Bool.not_true]
      repeat' (first | refine a_seq fun K hK => ?_ | (refine a_regionS ?_; simp (maxSteps := 2000000) only [Ty.w, simprocAttr, Bool.not_true]) | (refine a_skip ?_; try simp only [pst0, simprocAttr]) | (refine a_cond _ (by (try simp (maxSteps := 2000000) only [Ty.w, simprocAttr, Bool.not_true]); rfl) (fun hb => ?_) (fun hb => ?_) <;> (try simp only [hb0, decide_eq_true_eq, decide_eq_false_iff_not, simprocAttr] at hb) <;> (try (exfalso; omega))) | (refine hK _ _ ?_; clear hK; try simp only [pst0, simprocAttr]))
      refine owp_useQ (cT _) (by (try simp only [Ty.w, simprocAttr, nsucc]); try rfl) ?_; simp (maxSteps := 2000000) only [Ty.w, simprocAttr, nsucc]
      repeat' (first | refine a_seq fun K hK => ?_ | (refine hK _ _ ?_; clear hK; try simp only [pst0, simprocAttr]))
      refine a_gen (fun S H => S 3 = .cptr [sPV op, sPV name, .imm 1 (strRows args), .imm 2 (pmRows params), .imm 5 (Ex.rows exprs), .imm 6 (Fm.rows kids)] ∧ S 4 = .cptr [sPV xo, sPV xn, .sc (.int .i64 xv), .imm 1 (strRows xa), .imm 5 (Ex.rows xk)] ∧ S 5 = .cptr [.imm 1 rn, .imm 1 ra] ∧ S 7 = .sc (.bool false) ∧ H = Heap.nil) (by simp only [Ty.w, simprocAttr]) ?_
      rintro S _ ⟨g3, g4, g5, g7, rfl⟩
      have hnx : (Heap.nil.next + 1 = Heap.nil.next) = False := eq_false (by omega)
      have hno : ∀ i, Heap.nil.obj i = none := fun _ => rfl
      refine a_draw2S [12, 13] (by decide +kernel) (by decide +kernel) ?_
      simp (maxSteps := 4000000) only [drn2, Ty.w, simprocAttr, Ty.all, List.forall_mem_cons, List.nil_append, g3, g4, g5, g7, nsucc, hnx, hno, if_false]
      first
       | refine a_dcall2 [12, 13] (by decide +kernel) (cB _) (by (try simp only [Ty.w, simprocAttr, g3, g4, g5, g7]); try rfl) ?_
       | refine a_dcall2A [12, 13] (by decide +kernel) (cB _) (by (try simp only [Ty.w, simprocAttr, g3, g4, g5, g7]); try rfl) (by simp only [Ty.w, simprocAttr, Ty.all, g3, g4, g5, g7]; try trivial) ?_
      simp (maxSteps := 4000000) only [drn2, Ty.w, simprocAttr, Ty.all, List.forall_mem_cons, List.nil_append, g3, g4, g5, g7, nsucc, hnx, hno, if_false]
      first
       | refine a_dcall2 [12, 13] (by decide +kernel) (cE _) (by (try simp only [Ty.w, simprocAttr, g3, g4, g5, g7]); try rfl) ?_
       | refine a_dcall2A [12, 13] (by decide +kernel) (cE _) (by (try simp only [Ty.w, simprocAttr, g3, g4, g5, g7]); try rfl) (by simp only [Ty.w, simprocAttr, Ty.all, g3, g4, g5, g7]; try trivial) ?_
      simp (maxSteps := 4000000) only [drn2, Ty.w, simprocAttr, Ty.all, List.forall_mem_cons, List.nil_append, g3, g4, g5, g7, nsucc, hnx, hno, if_false]
      repeat' (refine And.intro ?_ ?_)
      all_goals first
       | exact .inl (by decide +kernel)
       | exact .inr (Does_use (cB _) (by (try simp only [Ty.w, simprocAttr, g3, g4, g5, g7]); try rfl))
       | exact .inr (Does_use (cE _) (by (try simp only [Ty.w, simprocAttr, g3, g4, g5, g7]); try rfl))
       | rfl
       | skip
      refine hK _ _ ?_
      clear hK
      refine a_gen (fun S H => S 3 = .cptr [sPV op, sPV name, .imm 1 (strRows args), .imm 2 (pmRows params), .imm 5 (Ex.rows exprs), .imm 6 (Fm.rows kids)] ∧ S 4 = .cptr [sPV xo, sPV xn, .sc (.int .i64 xv), .imm 1 (strRows xa), .imm 5 (Ex.rows xk)] ∧ S 5 = .cptr [.imm 1 rn, .imm 1 ra] ∧ S 7 = .sc (.bool false) ∧ S 8 = .ptr 12 0 0 ∧ S 9 = .ptr 13 0 0 ∧ H.next = 16 ∧ H.obj 12 = some (.arr 6 [[sPV go, sPV gn, .imm 1 (strRows ga), .imm 2 (pmRows gp), .imm 5 (Ex.rows ge), .imm 6 (Fm.rows gk)]]) ∧ H.obj 13 = some (.arr 5 [[sPV yo, sPV yn, .sc (.int .i64 yv), .imm 1 (strRows ya), .imm 5 (Ex.rows yk)]])) ?_ ?_
      ·simp only [Ty.w, simprocAttr, g3, g4, g5, g7]
       exact ⟨rfl, rfl, rfl, rfl, rfl⟩
      clear g3 g4 g5 g7 cB cE
      rintro S H ⟨g3, g4, g5, g7, g8, g9, hn16, o12, o13⟩
      have e1 : (12 = H.next) = False := eq_false (by omega)
      have e2 : (12 = H.next + 1) = False := eq_false (by omega)
      have e3 : (13 = H.next) = False := eq_false (by omega)
      have e4 : (13 = H.next + 1) = False := eq_false (by omega)
      have e5 : (H.next + 1 = H.next) = False := eq_false (by omega)
      have e6 : (H.next = H.next + 1) = False := eq_false (by omega)
      clear hn16
      have W := And.intro g3 (And.intro g4 (And.intro g5 (And.intro g7 (And.intro g8 (And.intro g9 (And.intro o12 (And.intro o13 (And.intro e1 (And.intro e2 (And.intro e3 (And.intro e4 (And.intro e5 e6))))))))))))
      repeat' (first | refine a_seq fun K hK => ?_ | (refine a_regionS ?_; simp (maxSteps := 2000000) only [Ty.w, simprocAttr, W, nsucc, Bool.not_true, Bool.not_false]) | (refine a_skip ?_; try simp only [pst0, simprocAttr]) | (refine a_cond _ (by (try simp (maxSteps := 2000000) only [Ty.w, simprocAttr, W, nsucc, Bool.not_true, Bool.not_false]); rfl) (fun hb => ?_) (fun hb => ?_) <;> (try simp only [hb0, decide_eq_true_eq, decide_eq_false_iff_not, simprocAttr] at hb) <;> (try (exfalso; omega))) | (refine hK _ _ ?_; clear hK; try simp only [pst0, simprocAttr]))
      refine owp_useQ (cS _) (by (try simp only [Ty.w, simprocAttr, W, nsucc, Bool.not_true, Bool.not_false]); try rfl) ?_; simp (maxSteps := 2000000) only [Ty.w, simprocAttr, W, nsucc, Bool.not_true, Bool.not_false]
      skip
      refine owp_useQ (cU _) (by (try simp only [Ty.w, simprocAttr, W, nsucc, Bool.not_true, Bool.not_false]); try rfl) ?_; simp (maxSteps := 2000000) only [Ty.w, simprocAttr, W, nsucc, Bool.not_true, Bool.not_false]
      repeat' (first | (refine a_ret ?_; simp (maxSteps := 2000000) only [Ty.w, simprocAttr, W, nsucc, Bool.not_true, Bool.not_false]) | (refine hK _ _ ?_; clear hK; try simp only [pst0, simprocAttr]))
     | true =>
      cases vF with
      | false =>
       cases vE with
       | false =>
        clear cRB cSg
        have cS := cS0
        clear cRE cSy
        have cU := cS0x
        simp only [Bool.false_eq_true, false_and, and_false, and_self, if_true, if_false] at cB cE
        obtain ⟨op, name, args, params, exprs, kids⟩ := f
        obtain ⟨xo, xn, xv, xa, xk⟩ := x
        obtain ⟨go, gn, ga, gp, ge, gk⟩ := Z
        obtain ⟨yo, yn, yv, ya, yk⟩ := ZE
        simp only [Fm.cells, Ex.cells] at cl csz cB cE cS cU hR hRx ⊢
        refine pcall_body (ow := fun _ => false) (wf := fun _ => false) Ty.mixed Try.func9 rfl Ty.hb_9 (by rw [Try.ntmps9]; simp) ?_
        rw [Try.ntmps9, Try.results9]
        repeat' (first | refine a_seq fun K hK => ?_ | (refine a_regionS ?_; simp (maxSteps := 2000000) only [Ty.w, simprocAttr]) | (refine hK _ _ ?_; clear hK; try simp only [pst0, simprocAttr]))
        refine owp_useQ (cl _) (by (try simp only [Ty.w, simprocAttr, l1]); try rfl) ?_; simp (maxSteps := 2000000) only [Ty.w, simprocAttr, l1]
        skip
        refine owp_useQ (csz _) (by (try simp only [Ty.w, simprocAttr, l1, l2, l3, l4]); try rfl) ?_; simp (maxSteps := 2000000) only [Ty.w, simprocAttr, l1, l2, l3, l4]
        skip
        refine owp_useQ (awake_c) (by (try simp only [Ty.w, simprocAttr, Bool.not_true]); try rfl) ?_; simp (maxSteps := 2000000) only [Ty.w, simprocAttr, Bool.not_true]
        repeat' (first | refine a_seq fun K hK => ?_ | (refine a_regionS ?_; simp (maxSteps := 2000000) only [Ty.w, simprocAttr, Bool.not_true]) | (refine a_skip ?_; try simp only [pst0, simprocAttr]) | (refine a_cond _ (by (try simp (maxSteps := 2000000) only [Ty.w, simprocAttr, Bool.not_true]); rfl) (fun hb => ?_) (fun hb => ?_) <;> (try simp only [hb0, decide_eq_true_eq, decide_eq_false_iff_not, simprocAttr] at hb) <;> (try (exfalso; omega))) | (refine hK _ _ ?_; clear hK; try simp only [pst0, simprocAttr]))
        refine owp_useQ (cT _) (by (try simp only [Ty.w, simprocAttr, nsucc]); try rfl) ?_; simp (maxSteps := 2000000) only [Ty.w, simprocAttr, nsucc]
        repeat' (first | refine a_seq fun K hK => ?_ | (refine hK _ _ ?_; clear hK; try simp only [pst0, simprocAttr]))
        refine a_gen (fun S H => S 3 = .cptr [sPV op, sPV name, .imm 1 (strRows args), .imm 2 (pmRows params), .imm 5 (Ex.rows exprs), .imm 6 (Fm.rows kids)] ∧ S 4 = .cptr [sPV xo, sPV xn, .sc (.int .i64 xv), .imm 1 (strRows xa), .imm 5 (Ex.rows xk)] ∧ S 5 = .cptr [.imm 1 rn, .imm 1 ra] ∧ S 7 = .sc (.bool true) ∧ H = Heap.nil) (by simp only [Ty.w, simprocAttr]) ?_
        rintro S _ ⟨g3, g4, g5, g7, rfl⟩
        have hnx : (Heap.nil.next + 1 = Heap.nil.next) = False := eq_false (by omega)
        have hno : ∀ i, Heap.nil.obj i = none := fun _ => rfl
        refine a_draw2S [12, 13] (by decide +kernel) (by decide +kernel) ?_
        simp (maxSteps := 4000000) only [drn2, Ty.w, simprocAttr, Ty.all, List.forall_mem_cons, List.nil_append, g3, g4, g5, g7, nsucc, hnx, hno, if_false]
        first
         | refine a_dcall2 [12, 13] (by decide +kernel) (cB _) (by (try simp only [Ty.w, simprocAttr, g3, g4, g5, g7]); try rfl) ?_
         | refine a_dcall2A [12, 13] (by decide +kernel) (cB _) (by (try simp only [Ty.w, simprocAttr, g3, g4, g5, g7]); try rfl) (by simp only [Ty.w, simprocAttr, Ty.all, g3, g4, g5, g7]; try trivial) ?_
        simp (maxSteps := 4000000) only [drn2, Ty.w, simprocAttr, Ty.all, List.forall_mem_cons, List.nil_append, g3, g4, g5, g7, nsucc, hnx, hno, if_false]
        first
         | refine a_dcall2 [12, 13] (by decide +kernel) (cE _) (by (try simp only [Ty.w, simprocAttr, g3, g4, g5, g7]); try rfl) ?_
         | refine a_dcall2A [12, 13] (by decide +kernel) (cE _) (by (try simp only [Ty.w, simprocAttr, g3, g4, g5, g7]); try rfl) (by simp only [Ty.w, simprocAttr, Ty.all, g3, g4, g5, g7]; try trivial) ?_
        simp (maxSteps := 4000000) only [drn2, Ty.w, simprocAttr, Ty.all, List.forall_mem_cons, List.nil_append, g3, g4, g5, g7, nsucc, hnx, hno, if_false]
        repeat' (refine And.intro ?_ ?_)
        all_goals first
         | exact .inl (by decide +kernel)
         | exact .inr (Does_use (cB _) (by (try simp only [Ty.w, simprocAttr, g3, g4, g5, g7]); try rfl))
         | exact .inr (Does_use (cE _) (by (try simp only [Ty.w, simprocAttr, g3, g4, g5, g7]); try rfl))
         | rfl
         | skip
        refine hK _ _ ?_
        clear hK
        refine a_gen (fun S H => S 3 = .cptr [sPV op, sPV name, .imm 1 (strRows args), .imm 2 (pmRows params), .imm 5 (Ex.rows exprs), .imm 6 (Fm.rows kids)] ∧ S 4 = .cptr [sPV xo, sPV xn, .sc (.int .i64 xv), .imm 1 (strRows xa), .imm 5 (Ex.rows xk)] ∧ S 5 = .cptr [.imm 1 rn, .imm 1 ra] ∧ S 7 = .sc (.bool true) ∧ S 8 = .ptr 12 0 0 ∧ S 9 = .ptr 13 0 0 ∧ H.next = 16 ∧ H.obj 12 = some (.arr 6 [[sPV go, sPV gn, .imm 1 (strRows ga), .imm 2 (pmRows gp), .imm 5 (Ex.rows ge), .imm 6 (Fm.rows gk)]]) ∧ H.obj 13 = some (.arr 5 [[sPV yo, sPV yn, .sc (.int .i64 yv), .imm 1 (strRows ya), .imm 5 (Ex.rows yk)]])) ?_ ?_
        ·simp only [Ty.w, simprocAttr, g3, g4, g5, g7]
         exact ⟨rfl, rfl, rfl, rfl, rfl⟩
        clear g3 g4 g5 g7 cB cE
        rintro S H ⟨g3, g4, g5, g7, g8, g9, hn16, o12, o13⟩
        have e1 : (12 = H.next) = False := eq_false (by omega)
        have e2 : (12 = H.next + 1) = False := eq_false (by omega)
        have e3 : (13 = H.next) = False := eq_false (by omega)
        have e4 : (13 = H.next + 1) = False := eq_false (by omega)
        have e5 : (H.next + 1 = H.next) = False := eq_false (by omega)
        have e6 : (H.next = H.next + 1) = False := eq_false (by omega)
        clear hn16
        have W := And.intro g3 (And.intro g4 (And.intro g5 (And.intro g7 (And.intro g8 (And.intro g9 (And.intro o12 (And.intro o13 (And.intro e1 (And.intro e2 (And.intro e3 (And.intro e4 (And.intro e5 e6))))))))))))
        repeat' (first | refine a_seq fun K hK => ?_ | (refine a_regionS ?_; simp (maxSteps := 2000000) only [Ty.w, simprocAttr, W, nsucc, Bool.not_true, Bool.not_false]) | (refine hK _ _ ?_; clear hK; try simp only [pst0, simprocAttr]))
        refine owp_useQ (hR _) (by (try simp only [Ty.w, simprocAttr, W, nsucc, Bool.not_true, Bool.not_false]); try rfl) ?_; simp (maxSteps := 2000000) only [Ty.w, simprocAttr, W, nsucc, Bool.not_true, Bool.not_false]
        repeat' (first | refine a_seq fun K hK => ?_ | (refine a_regionS ?_; simp (maxSteps := 2000000) only [Ty.w, simprocAttr, W, nsucc, Bool.not_true, Bool.not_false]) | (refine a_skip ?_; try simp only [pst0, simprocAttr]) | (refine a_cond _ (by (try simp (maxSteps := 2000000) only [Ty.w, simprocAttr, W, nsucc, Bool.not_true, Bool.not_false]); rfl) (fun hb => ?_) (fun hb => ?_) <;> (try simp only [hb0, decide_eq_true_eq, decide_eq_false_iff_not, simprocAttr] at hb) <;> (try (exfalso; omega))) | (refine hK _ _ ?_; clear hK; try simp only [pst0, simprocAttr]))
        refine owp_useQ (hRx _) (by (try simp only [Ty.w, simprocAttr, W, nsucc, Bool.not_true, Bool.not_false]); try rfl) ?_; simp (maxSteps := 2000000) only [Ty.w, simprocAttr, W, nsucc, Bool.not_true, Bool.not_false]
        repeat' (first | refine a_seq fun K hK => ?_ | (refine a_regionS ?_; simp (maxSteps := 2000000) only [Ty.w, simprocAttr, W, nsucc, Bool.not_true, Bool.not_false]) | (refine a_skip ?_; try simp only [pst0, simprocAttr]) | (refine a_cond _ (by (try simp (maxSteps := 2000000) only [Ty.w, simprocAttr, W, nsucc, Bool.not_true, Bool.not_false]); rfl) (fun hb => ?_) (fun hb => ?_) <;> (try simp only [hb0, decide_eq_true_eq, decide_eq_false_iff_not, simprocAttr] at hb) <;> (try (exfalso; omega))) | (refine hK _ _ ?_; clear hK; try simp only [pst0, simprocAttr]))
        refine owp_useQ (cS _) (by (try simp only [Ty.w, simprocAttr, W, nsucc, Bool.not_true, Bool.not_false]); try rfl) ?_; simp (maxSteps := 2000000) only [Ty.w, simprocAttr, W, nsucc, Bool.not_true, Bool.not_false]
        skip
        refine owp_useQ (cU _) (by (try simp only [Ty.w, simprocAttr, W, nsucc, Bool.not_true, Bool.not_false]); try rfl) ?_; simp (maxSteps := 2000000) only [Ty.w, simprocAttr, W, nsucc, Bool.not_true, Bool.not_false]
        repeat' (first | (refine a_ret ?_; simp (maxSteps := 2000000) only [Ty.w, simprocAttr, W, nsucc, Bool.not_true, Bool.not_false]) | (refine hK _ _ ?_; clear hK; try simp only [pst0, simprocAttr]))
       | true =>
        clear cRB cSg
        have cS := cS0
        clear cS0x
        have cRE := cRE rfl
        have cU := cSy
        simp only [Bool.false_eq_true, false_and, and_false, and_self, if_true, if_false] at cB cE
        obtain ⟨op, name, args, params, exprs, kids⟩ := f
        obtain ⟨xo, xn, xv, xa, xk⟩ := x
        obtain ⟨go, gn, ga, gp, ge, gk⟩ := Z
        obtain ⟨yo, yn, yv, ya, yk⟩ := Y
        simp only [Fm.cells, Ex.cells] at cl csz cB cE cS cU hR hRx cRE ⊢
        refine pcall_body (ow := fun _ => false) (wf := fun _ => false) Ty.mixed Try.func9 rfl Ty.hb_9 (by rw [Try.ntmps9]; simp) ?_
        rw [Try.ntmps9, Try.results9]
        repeat' (first | refine a_seq fun K hK => ?_ | (refine a_regionS ?_; simp (maxSteps := 2000000) only [Ty.w, simprocAttr]) | (refine hK _ _ ?_; clear hK; try simp only [pst0, simprocAttr]))
        refine owp_useQ (cl _) (by (try simp only [Ty.w, simprocAttr, l1]); try rfl) ?_; simp (maxSteps := 2000000) only [Ty.w, simprocAttr, l1]
        skip
        refine owp_useQ (csz _) (by (try simp only [Ty.w, simprocAttr, l1, l2, l3, l4]); try rfl) ?_; simp (maxSteps := 2000000) only [Ty.w, simprocAttr, l1, l2, l3, l4]
        skip
        refine owp_useQ (awake_c) (by (try simp only [Ty.w, simprocAttr, Bool.not_true]); try rfl) ?_; simp (maxSteps := 2000000) only [Ty.w, simprocAttr, Bool.not_true]
        repeat' (first | refine a_seq fun K hK => ?_ | (refine a_regionS ?_; simp (maxSteps := 2000000) only [Ty.w, simprocAttr, Bool.not_true]) | (refine a_skip ?_; try simp only [pst0, simprocAttr]) | (refine a_cond _ (by (try simp (maxSteps := 2000000) only [Ty.w, simprocAttr, Bool.not_true]); rfl) (fun hb => ?_) (fun hb => ?_) <;> (try simp only [hb0, decide_eq_true_eq, decide_eq_false_iff_not, simprocAttr] at hb) <;> (try (exfalso; omega))) | (refine hK _ _ ?_; clear hK; try simp only [pst0, simprocAttr]))
        refine owp_useQ (cT _) (by (try simp only [Ty.w, simprocAttr, nsucc]); try rfl) ?_; simp (maxSteps := 2000000) only [Ty.w, simprocAttr, nsucc]
        repeat' (first | refine a_seq fun K hK => ?_ | (refine hK _ _ ?_; clear hK; try simp only [pst0, simprocAttr]))
        refine a_gen (fun S H => S 3 = .cptr [sPV op, sPV name, .imm 1 (strRows args), .imm 2 (pmRows params), .imm 5 (Ex.rows exprs), .imm 6 (Fm.rows kids)] ∧ S 4 = .cptr [sPV xo, sPV xn, .sc (.int .i64 xv), .imm 1 (strRows xa), .imm 5 (Ex.rows xk)] ∧ S 5 = .cptr [.imm 1 rn, .imm 1 ra] ∧ S 7 = .sc (.bool true) ∧ H = Heap.nil) (by simp only [Ty.w, simprocAttr]) ?_
        rintro S _ ⟨g3, g4, g5, g7, rfl⟩
        have hnx : (Heap.nil.next + 1 = Heap.nil.next) = False := eq_false (by omega)
        have hno : ∀ i, Heap.nil.obj i = none := fun _ => rfl
        refine a_draw2S [12, 13] (by decide +kernel) (by decide +kernel) ?_
        simp (maxSteps := 4000000) only [drn2, Ty.w, simprocAttr, Ty.all, List.forall_mem_cons, List.nil_append, g3, g4, g5, g7, nsucc, hnx, hno, if_false]
        first
         | refine a_dcall2 [12, 13] (by decide +kernel) (cB _) (by (try simp only [Ty.w, simprocAttr, g3, g4, g5, g7]); try rfl) ?_
         | refine a_dcall2A [12, 13] (by decide +kernel) (cB _) (by (try simp only [Ty.w, simprocAttr, g3, g4, g5, g7]); try rfl) (by simp only [Ty.w, simprocAttr, Ty.all, g3, g4, g5, g7]; try trivial) ?_
        simp (maxSteps := 4000000) only [drn2, Ty.w, simprocAttr, Ty.all, List.forall_mem_cons, List.nil_append, g3, g4, g5, g7, nsucc, hnx, hno, if_false]
        first
         | refine a_dcall2 [12, 13] (by decide +kernel) (cE _) (by (try simp only [Ty.w, simprocAttr, g3, g4, g5, g7]); try rfl) ?_
         | refine a_dcall2A [12, 13] (by decide +kernel) (cE _) (by (try simp only [Ty.w, simprocAttr, g3, g4, g5, g7]); try rfl) (by simp only [Ty.w, simprocAttr, Ty.all, g3, g4, g5, g7]; try trivial) ?_
        simp (maxSteps := 4000000) only [drn2, Ty.w, simprocAttr, Ty.all, List.forall_mem_cons, List.nil_append, g3, g4, g5, g7, nsucc, hnx, hno, if_false]
        repeat' (refine And.intro ?_ ?_)
        all_goals first
         | exact .inl (by decide +kernel)
         | exact .inr (Does_use (cB _) (by (try simp only [Ty.w, simprocAttr, g3, g4, g5, g7]); try rfl))
         | exact .inr (Does_use (cE _) (by (try simp only [Ty.w, simprocAttr, g3, g4, g5, g7]); try rfl))
         | rfl
         | skip
        refine hK _ _ ?_
        clear hK
        refine a_gen (fun S H => S 3 = .cptr [sPV op, sPV name, .imm 1 (strRows args), .imm 2 (pmRows params), .imm 5 (Ex.rows exprs), .imm 6 (Fm.rows kids)] ∧ S 4 = .cptr [sPV xo, sPV xn, .sc (.int .i64 xv), .imm 1 (strRows xa), .imm 5 (Ex.rows xk)] ∧ S 5 = .cptr [.imm 1 rn, .imm 1 ra] ∧ S 7 = .sc (.bool true) ∧ S 8 = .ptr 12 0 0 ∧ S 9 = .ptr 13 0 0 ∧ H.next = 16 ∧ H.obj 12 = some (.arr 6 [[sPV go, sPV gn, .imm 1 (strRows ga), .imm 2 (pmRows gp), .imm 5 (Ex.rows ge), .imm 6 (Fm.rows gk)]]) ∧ H.obj 13 = some (.arr 5 [[sPV yo, sPV yn, .sc (.int .i64 yv), .imm 1 (strRows ya), .imm 5 (Ex.rows yk)]])) ?_ ?_
        ·simp only [Ty.w, simprocAttr, g3, g4, g5, g7]
         exact ⟨rfl, rfl, rfl, rfl, rfl⟩
        clear g3 g4 g5 g7 cB cE
        rintro S H ⟨g3, g4, g5, g7, g8, g9, hn16, o12, o13⟩
        have e1 : (12 = H.next) = False := eq_false (by omega)
        have e2 : (12 = H.next + 1) = False := eq_false (by omega)
        have e3 : (13 = H.next) = False := eq_false (by omega)
        have e4 : (13 = H.next + 1) = False := eq_false (by omega)
        have e5 : (H.next + 1 = H.next) = False := eq_false (by omega)
        have e6 : (H.next = H.next + 1) = False := eq_false (by omega)
        clear hn16
        have W := And.intro g3 (And.intro g4 (And.intro g5 (And.intro g7 (And.intro g8 (And.intro g9 (And.intro o12 (And.intro o13 (And.intro e1 (And.intro e2 (And.intro e3 (And.intro e4 (And.intro e5 e6))))))))))))
        repeat' (first | refine a_seq fun K hK => ?_ | (refine a_regionS ?_; simp (maxSteps := 2000000) only [Ty.w, simprocAttr, W, nsucc, Bool.not_true, Bool.not_false]) | (refine hK _ _ ?_; clear hK; try simp only [pst0, simprocAttr]))
        refine owp_useQ (hR _) (by (try simp only [Ty.w, simprocAttr, W, nsucc, Bool.not_true, Bool.not_false]); try rfl) ?_; simp (maxSteps := 2000000) only [Ty.w, simprocAttr, W, nsucc, Bool.not_true, Bool.not_false]
        repeat' (first | refine a_seq fun K hK => ?_ | (refine a_regionS ?_; simp (maxSteps := 2000000) only [Ty.w, simprocAttr, W, nsucc, Bool.not_true, Bool.not_false]) | (refine a_skip ?_; try simp only [pst0, simprocAttr]) | (refine a_cond _ (by (try simp (maxSteps := 2000000) only [Ty.w, simprocAttr, W, nsucc, Bool.not_true, Bool.not_false]); rfl) (fun hb => ?_) (fun hb => ?_) <;> (try simp only [hb0, decide_eq_true_eq, decide_eq_false_iff_not, simprocAttr] at hb) <;> (try (exfalso; omega))) | (refine hK _ _ ?_; clear hK; try simp only [pst0, simprocAttr]))
        refine owp_useQ (hRx _) (by (try simp only [Ty.w, simprocAttr, W, nsucc, Bool.not_true, Bool.not_false]); try rfl) ?_; simp (maxSteps := 2000000) only [Ty.w, simprocAttr, W, nsucc, Bool.not_true, Bool.not_false]
        repeat' (first | (refine a_regionS ?_; simp (maxSteps := 2000000) only [Ty.w, simprocAttr, W, nsucc, Bool.not_true, Bool.not_false]) | (refine a_cond _ (by (try simp (maxSteps := 2000000) only [Ty.w, simprocAttr, W, nsucc, Bool.not_true, Bool.not_false]); rfl) (fun hb => ?_) (fun hb => ?_) <;> (try simp only [hb0, decide_eq_true_eq, decide_eq_false_iff_not, simprocAttr] at hb) <;> (try (exfalso; omega))) | (refine hK _ _ ?_; clear hK; try simp only [pst0, simprocAttr]))
        refine owp_useQ (cRE _) (by (try simp only [Ty.w, simprocAttr, W, nsucc, Bool.not_true, Bool.not_false]); try rfl) ?_; simp (maxSteps := 2000000) only [Ty.w, simprocAttr, W, nsucc, Bool.not_true, Bool.not_false]
        repeat' (first | refine a_seq fun K hK => ?_ | (refine a_regionS ?_; simp (maxSteps := 2000000) only [Ty.w, simprocAttr, W, nsucc, Bool.not_true, Bool.not_false]) | (refine hK _ _ ?_; clear hK; try simp only [pst0, simprocAttr]))
        refine owp_useQ (cS _) (by (try simp only [Ty.w, simprocAttr, W, nsucc, Bool.not_true, Bool.not_false]); try rfl) ?_; simp (maxSteps := 2000000) only [Ty.w, simprocAttr, W, nsucc, Bool.not_true, Bool.not_false]
        skip
        refine owp_useQ (cU _) (by (try simp only [Ty.w, simprocAttr, W, nsucc, Bool.not_true, Bool.not_false]); try rfl) ?_; simp (maxSteps := 2000000) only [Ty.w, simprocAttr, W, nsucc, Bool.not_true, Bool.not_false]
        repeat' (first | (refine a_ret ?_; simp (maxSteps := 2000000) only [Ty.w, simprocAttr, W, nsucc, Bool.not_true, Bool.not_false]) | (refine hK _ _ ?_; clear hK; try simp only [pst0, simprocAttr]))
      | true =>
       cases vE with
       | false =>
        clear cS0
        have cRB := cRB rfl
        have cS := cSg
        clear cRE cSy
        have cU := cS0x
        simp only [Bool.false_eq_true, false_and, and_false, and_self, if_true, if_false] at cB cE
        obtain ⟨op, name, args, params, exprs, kids⟩ := f
        obtain ⟨xo, xn, xv, xa, xk⟩ := x
        obtain ⟨go, gn, ga, gp, ge, gk⟩ := G
        obtain ⟨yo, yn, yv, ya, yk⟩ := ZE
        simp only [Fm.cells, Ex.cells] at cl csz cB cE cS cU hR hRx cRB ⊢
        refine pcall_body (ow := fun _ => false) (wf := fun _ => false) Ty.mixed Try.func9 rfl Ty.hb_9 (by rw [Try.ntmps9]; simp) ?_
        rw [Try.ntmps9, Try.results9]
        repeat' (first | refine a_seq fun K hK => ?_ | (refine a_regionS ?_; simp (maxSteps := 2000000) only [Ty.w, simprocAttr]) | (refine hK _ _ ?_; clear hK; try simp only [pst0, simprocAttr]))
        refine owp_useQ (cl _) (by (try simp only [Ty.w, simprocAttr, l1]); try rfl) ?_; simp (maxSteps := 2000000) only [Ty.w, simprocAttr, l1]
        skip
        refine owp_useQ (csz _) (by (try simp only [Ty.w, simprocAttr, l1, l2, l3, l4]); try rfl) ?_; simp (maxSteps := 2000000) only [Ty.w, simprocAttr, l1, l2, l3, l4]
        skip
        refine owp_useQ (awake_c) (by (try simp only [Ty.w, simprocAttr, Bool.not_true]); try rfl) ?_; simp (maxSteps := 2000000) only [Ty.w, simprocAttr, Bool.not_true]
        repeat' (first | refine a_seq fun K hK => ?_ | (refine a_regionS ?_; simp (maxSteps := 2000000) only [Ty.w, simprocAttr, Bool.not_true]) | (refine a_skip ?_; try simp only [pst0, simprocAttr]) | (refine a_cond _ (by (try simp (maxSteps := 2000000) only [Ty.w, simprocAttr, Bool.not_true]); rfl) (fun hb => ?_) (fun hb => ?_) <;> (try simp only [hb0, decide_eq_true_eq, decide_eq_false_iff_not, simprocAttr] at hb) <;> (try (exfalso; omega))) | (refine hK _ _ ?_; clear hK; try simp only [pst0, simprocAttr]))
        refine owp_useQ (cT _) (by (try simp only [Ty.w, simprocAttr, nsucc]); try rfl) ?_; simp (maxSteps := 2000000) only [Ty.w, simprocAttr, nsucc]
        repeat' (first | refine a_seq fun K hK => ?_ | (refine hK _ _ ?_; clear hK; try simp only [pst0, simprocAttr]))
        refine a_gen (fun S H => S 3 = .cptr [sPV op, sPV name, .imm 1 (strRows args), .imm 2 (pmRows params), .imm 5 (Ex.rows exprs), .imm 6 (Fm.rows kids)] ∧ S 4 = .cptr [sPV xo, sPV xn, .sc (.int .i64 xv), .imm 1 (strRows xa), .imm 5 (Ex.rows xk)] ∧ S 5 = .cptr [.imm 1 rn, .imm 1 ra] ∧ S 7 = .sc (.bool true) ∧ H = Heap.nil) (by simp only [Ty.w, simprocAttr]) ?_
        rintro S _ ⟨g3, g4, g5, g7, rfl⟩
        have hnx : (Heap.nil.next + 1 = Heap.nil.next) = False := eq_false (by omega)
        have hno : ∀ i, Heap.nil.obj i = none := fun _ => rfl
        refine a_draw2S [12, 13] (by decide +kernel) (by decide +kernel) ?_
        simp (maxSteps := 4000000) only [drn2, Ty.w, simprocAttr, Ty.all, List.forall_mem_cons, List.nil_append, g3, g4, g5, g7, nsucc, hnx, hno, if_false]
        first
         | refine a_dcall2 [12, 13] (by decide +kernel) (cB _) (by (try simp only [Ty.w, simprocAttr, g3, g4, g5, g7]); try rfl) ?_
         | refine a_dcall2A [12, 13] (by decide +kernel) (cB _) (by (try simp only [Ty.w, simprocAttr, g3, g4, g5, g7]); try rfl) (by simp only [Ty.w, simprocAttr, Ty.all, g3, g4, g5, g7]; try trivial) ?_
        simp (maxSteps := 4000000) only [drn2, Ty.w, simprocAttr, Ty.all, List.forall_mem_cons, List.nil_append, g3, g4, g5, g7, nsucc, hnx, hno, if_false]
        first
         | refine a_dcall2 [12, 13] (by decide +kernel) (cE _) (by (try simp only [Ty.w, simprocAttr, g3, g4, g5, g7]); try rfl) ?_
         | refine a_dcall2A [12, 13] (by decide +kernel) (cE _) (by (try simp only [Ty.w, simprocAttr, g3, g4, g5, g7]); try rfl) (by simp only [Ty.w, simprocAttr, Ty.all, g3, g4, g5, g7]; try trivial) ?_
        simp (maxSteps := 4000000) only [drn2, Ty.w, simprocAttr, Ty.all, List.forall_mem_cons, List.nil_append, g3, g4, g5, g7, nsucc, hnx, hno, if_false]
        repeat' (refine And.intro ?_ ?_)
        all_goals first
         | exact .inl (by decide +kernel)
         | exact .inr (Does_use (cB _) (by (try simp only [Ty.w, simprocAttr, g3, g4, g5, g7]); try rfl))
         | exact .inr (Does_use (cE _) (by (try simp only [Ty.w, simprocAttr, g3, g4, g5, g7]); try rfl))
         | rfl
         | skip
        refine hK _ _ ?_
        clear hK
        refine a_gen (fun S H => S 3 = .cptr [sPV op, sPV name, .imm 1 (strRows args), .imm 2 (pmRows params), .imm 5 (Ex.rows exprs), .imm 6 (Fm.rows kids)] ∧ S 4 = .cptr [sPV xo, sPV xn, .sc (.int .i64 xv), .imm 1 (strRows xa), .imm 5 (Ex.rows xk)] ∧ S 5 = .cptr [.imm 1 rn, .imm 1 ra] ∧ S 7 = .sc (.bool true) ∧ S 8 = .ptr 12 0 0 ∧ S 9 = .ptr 13 0 0 ∧ H.next = 16 ∧ H.obj 12 = some (.arr 6 [[sPV go, sPV gn, .imm 1 (strRows ga), .imm 2 (pmRows gp), .imm 5 (Ex.rows ge), .imm 6 (Fm.rows gk)]]) ∧ H.obj 13 = some (.arr 5 [[sPV yo, sPV yn, .sc (.int .i64 yv), .imm 1 (strRows ya), .imm 5 (Ex.rows yk)]])) ?_ ?_
        ·simp only [Ty.w, simprocAttr, g3, g4, g5, g7]
         exact ⟨rfl, rfl, rfl, rfl, rfl⟩
        clear g3 g4 g5 g7 cB cE
        rintro S H ⟨g3, g4, g5, g7, g8, g9, hn16, o12, o13⟩
        have e1 : (12 = H.next) = False := eq_false (by omega)
        have e2 : (12 = H.next + 1) = False := eq_false (by omega)
        have e3 : (13 = H.next) = False := eq_false (by omega)
        have e4 : (13 = H.next + 1) = False := eq_false (by omega)
        have e5 : (H.next + 1 = H.next) = False := eq_false (by omega)
        have e6 : (H.next = H.next + 1) = False := eq_false (by omega)
        clear hn16
        have W := And.intro g3 (And.intro g4 (And.intro g5 (And.intro g7 (And.intro g8 (And.intro g9 (And.intro o12 (And.intro o13 (And.intro e1 (And.intro e2 (And.intro e3 (And.intro e4 (And.intro e5 e6))))))))))))
        repeat' (first | refine a_seq fun K hK => ?_ | (refine a_regionS ?_; simp (maxSteps := 2000000) only [Ty.w, simprocAttr, W, nsucc, Bool.not_true, Bool.not_false]) | (refine hK _ _ ?_; clear hK; try simp only [pst0, simprocAttr]))
        refine owp_useQ (hR _) (by (try simp only [Ty.w, simprocAttr, W, nsucc, Bool.not_true, Bool.not_false]); try rfl) ?_; simp (maxSteps := 2000000) only [Ty.w, simprocAttr, W, nsucc, Bool.not_true, Bool.not_false]
        repeat' (first | (refine a_regionS ?_; simp (maxSteps := 2000000) only [Ty.w, simprocAttr, W, nsucc, Bool.not_true, Bool.not_false]) | (refine a_cond _ (by (try simp (maxSteps := 2000000) only [Ty.w, simprocAttr, W, nsucc, Bool.not_true, Bool.not_false]); rfl) (fun hb => ?_) (fun hb => ?_) <;> (try simp only [hb0, decide_eq_true_eq, decide_eq_false_iff_not, simprocAttr] at hb) <;> (try (exfalso; omega))) | (refine hK _ _ ?_; clear hK; try simp only [pst0, simprocAttr]))
        refine owp_useQ (cRB _) (by (try simp only [Ty.w, simprocAttr, W, nsucc, Bool.not_true, Bool.not_false]); try rfl) ?_; simp (maxSteps := 2000000) only [Ty.w, simprocAttr, W, nsucc, Bool.not_true, Bool.not_false]
        repeat' (first | refine a_seq fun K hK => ?_ | (refine a_regionS ?_; simp (maxSteps := 2000000) only [Ty.w, simprocAttr, W, nsucc, Bool.not_true, Bool.not_false]) | (refine hK _ _ ?_; clear hK; try simp only [pst0, simprocAttr]))
        refine owp_useQ (hRx _) (by (try simp only [Ty.w, simprocAttr, W, nsucc, Bool.not_true, Bool.not_false]); try rfl) ?_; simp (maxSteps := 2000000) only [Ty.w, simprocAttr, W, nsucc, Bool.not_true, Bool.not_false]
        repeat' (first | refine a_seq fun K hK => ?_ | (refine a_regionS ?_; simp (maxSteps := 2000000) only [Ty.w, simprocAttr, W, nsucc, Bool.not_true, Bool.not_false]) | (refine a_skip ?_; try simp only [pst0, simprocAttr]) | (refine a_cond _ (by (try simp (maxSteps := 2000000) only [Ty.w, simprocAttr, W, nsucc, Bool.not_true, Bool.not_false]); rfl) (fun hb => ?_) (fun hb => ?_) <;> (try simp only [hb0, decide_eq_true_eq, decide_eq_false_iff_not, simprocAttr] at hb) <;> (try (exfalso; omega))) | (refine hK _ _ ?_; clear hK; try simp only [pst0, simprocAttr]))
        refine owp_useQ (cS _) (by (try simp only [Ty.w, simprocAttr, W, nsucc, Bool.not_true, Bool.not_false]); try rfl) ?_; simp (maxSteps := 2000000) only [Ty.w, simprocAttr, W, nsucc, Bool.not_true, Bool.not_false]
        skip
        refine owp_useQ (cU _) (by (try simp only [Ty.w, simprocAttr, W, nsucc, Bool.not_true, Bool.not_false]); try rfl) ?_; simp (maxSteps := 2000000) only [Ty.w, simprocAttr, W, nsucc, Bool.not_true, Bool.not_false]
        repeat' (first | (refine a_ret ?_; simp (maxSteps := 2000000) only [Ty.w, simprocAttr, W, nsucc, Bool.not_true, Bool.not_false]) | (refine hK _ _ ?_; clear hK; try simp only [pst0, simprocAttr]))
       | true =>
        clear cS0
        have cRB := cRB rfl
        have cS := cSg
        clear cS0x
        have cRE := cRE rfl
        have cU := cSy
        simp only [Bool.false_eq_true, false_and, and_false, and_self, if_true, if_false] at cB cE
        obtain ⟨op, name, args, params, exprs, kids⟩ := f
        obtain ⟨xo, xn, xv, xa, xk⟩ := x
        obtain ⟨go, gn, ga, gp, ge, gk⟩ := G
        obtain ⟨yo, yn, yv, ya, yk⟩ := Y
        simp only [Fm.cells, Ex.cells] at cl csz cB cE cS cU hR hRx cRB cRE ⊢
        refine pcall_body (ow := fun _ => false) (wf := fun _ => false) Ty.mixed Try.func9 rfl Ty.hb_9 (by rw [Try.ntmps9]; simp) ?_
        rw [Try.ntmps9, Try.results9]
        repeat' (first | refine a_seq fun K hK => ?_ | (refine a_regionS ?_; simp (maxSteps := 2000000) only [Ty.w, simprocAttr]) | (refine hK _ _ ?_; clear hK; try simp only [pst0, simprocAttr]))
        refine owp_useQ (cl _) (by (try simp only [Ty.w, simprocAttr, l1]); try rfl) ?_; simp (maxSteps := 2000000) only [Ty.w, simprocAttr, l1]
        skip
        refine owp_useQ (csz _) (by (try simp only [Ty.w, simprocAttr, l1, l2, l3, l4]); try rfl) ?_; simp (maxSteps := 2000000) only [Ty.w, simprocAttr, l1, l2, l3, l4]
        skip
        refine owp_useQ (awake_c) (by (try simp only [Ty.w, simprocAttr, Bool.not_true]); try rfl) ?_; simp (maxSteps := 2000000) only [Ty.w, simprocAttr, Bool.not_true]
        repeat' (first | refine a_seq fun K hK => ?_ | (refine a_regionS ?_; simp (maxSteps := 2000000) only [Ty.w, simprocAttr, Bool.not_true]) | (refine a_skip ?_; try simp only [pst0, simprocAttr]) | (refine a_cond _ (by (try simp (maxSteps := 2000000) only [Ty.w, simprocAttr, Bool.not_true]); rfl) (fun hb => ?_) (fun hb => ?_) <;> (try simp only [hb0, decide_eq_true_eq, decide_eq_false_iff_not, simprocAttr] at hb) <;> (try (exfalso; omega))) | (refine hK _ _ ?_; clear hK; try simp only [pst0, simprocAttr]))
        refine owp_useQ (cT _) (by (try simp only [Ty.w, simprocAttr, nsucc]); try rfl) ?_; simp (maxSteps := 2000000) only [Ty.w, simprocAttr, nsucc]
        repeat' (first | refine a_seq fun K hK => ?_ | (refine hK _ _ ?_; clear hK; try simp only [pst0, simprocAttr]))
        refine a_gen (fun S H => S 3 = .cptr [sPV op, sPV name, .imm 1 (strRows args), .imm 2 (pmRows params), .imm 5 (Ex.rows exprs), .imm 6 (Fm.rows kids)] ∧ S 4 = .cptr [sPV xo, sPV xn, .sc (.int .i64 xv), .imm 1 (strRows xa), .imm 5 (Ex.rows xk)] ∧ S 5 = .cptr [.imm 1 rn, .imm 1 ra] ∧ S 7 = .sc (.bool true) ∧ H = Heap.nil) (by simp only [Ty.w, simprocAttr]) ?_
        rintro S _ ⟨g3, g4, g5, g7, rfl⟩
        have hnx : (Heap.nil.next + 1 = Heap.nil.next) = False := eq_false (by omega)
        have hno : ∀ i, Heap.nil.obj i = none := fun _ => rfl
        refine a_draw2S [12, 13] (by decide +kernel) (by decide +kernel) ?_
        simp (maxSteps := 4000000) only [drn2, Ty.w, simprocAttr, Ty.all, List.forall_mem_cons, List.nil_append, g3, g4, g5, g7, nsucc, hnx, hno, if_false]
        first
         | refine a_dcall2 [12, 13] (by decide +kernel) (cB _) (by (try simp only [Ty.w, simprocAttr, g3, g4, g5, g7]); try rfl) ?_
         | refine a_dcall2A [12, 13] (by decide +kernel) (cB _) (by (try simp only [Ty.w, simprocAttr, g3, g4, g5, g7]); try rfl) (by simp only [Ty.w, simprocAttr, Ty.all, g3, g4, g5, g7]; try trivial) ?_
        simp (maxSteps := 4000000) only [drn2, Ty.w, simprocAttr, Ty.all, List.forall_mem_cons, List.nil_append, g3, g4, g5, g7, nsucc, hnx, hno, if_false]
        first
         | refine a_dcall2 [12, 13] (by decide +kernel) (cE _) (by (try simp only [Ty.w, simprocAttr, g3, g4, g5, g7]); try rfl) ?_
         | refine a_dcall2A [12, 13] (by decide +kernel) (cE _) (by (try simp only [Ty.w, simprocAttr, g3, g4, g5, g7]); try rfl) (by simp only [Ty.w, simprocAttr, Ty.all, g3, g4, g5, g7]; try trivial) ?_
        simp (maxSteps := 4000000) only [drn2, Ty.w, simprocAttr, Ty.all, List.forall_mem_cons, List.nil_append, g3, g4, g5, g7, nsucc, hnx, hno, if_false]
        repeat' (refine And.intro ?_ ?_)
        all_goals first
         | exact .inl (by decide +kernel)
         | exact .inr (Does_use (cB _) (by (try simp only [Ty.w, simprocAttr, g3, g4, g5, g7]); try rfl))
         | exact .inr (Does_use (cE _) (by (try simp only [Ty.w, simprocAttr, g3, g4, g5, g7]); try rfl))
         | rfl
         | skip
        refine hK _ _ ?_
        clear hK
        refine a_gen (fun S H => S 3 = .cptr [sPV op, sPV name, .imm 1 (strRows args), .imm 2 (pmRows params), .imm 5 (Ex.rows exprs), .imm 6 (Fm.rows kids)] ∧ S 4 = .cptr [sPV xo, sPV xn, .sc (.int .i64 xv), .imm 1 (strRows xa), .imm 5 (Ex.rows xk)] ∧ S 5 = .cptr [.imm 1 rn, .imm 1 ra] ∧ S 7 = .sc (.bool true) ∧ S 8 = .ptr 12 0 0 ∧ S 9 = .ptr 13 0 0 ∧ H.next = 16 ∧ H.obj 12 = some (.arr 6 [[sPV go, sPV gn, .imm 1 (strRows ga), .imm 2 (pmRows gp), .imm 5 (Ex.rows ge), .imm 6 (Fm.rows gk)]]) ∧ H.obj 13 = some (.arr 5 [[sPV yo, sPV yn, .sc (.int .i64 yv), .imm 1 (strRows ya), .imm 5 (Ex.rows yk)]])) ?_ ?_
        ·simp only [Ty.w, simprocAttr, g3, g4, g5, g7]
         exact ⟨rfl, rfl, rfl, rfl, rfl⟩
        clear g3 g4 g5 g7 cB cE
        rintro S H ⟨g3, g4, g5, g7, g8, g9, hn16, o12, o13⟩
        have e1 : (12 = H.next) = False := eq_false (by omega)
        have e2 : (12 = H.next + 1) = False := eq_false (by omega)
        have e3 : (13 = H.next) = False := eq_false (by omega)
        have e4 : (13 = H.next + 1) = False := eq_false (by omega)
        have e5 : (H.next + 1 = H.next) = False := eq_false (by omega)
        have e6 : (H.next = H.next + 1) = False := eq_false (by omega)
        clear hn16
        have W := And.intro g3 (And.intro g4 (And.intro g5 (And.intro g7 (And.intro g8 (And.intro g9 (And.intro o12 (And.intro o13 (And.intro e1 (And.intro e2 (And.intro e3 (And.intro e4 (And.intro e5 e6))))))))))))
        repeat' (first | refine a_seq fun K hK => ?_ | (refine a_regionS ?_; simp (maxSteps := 2000000) only [Ty.w, simprocAttr, W, nsucc, Bool.not_true, Bool.not_false]) | (refine hK _ _ ?_; clear hK; try simp only [pst0, simprocAttr]))
        refine owp_useQ (hR _) (by (try simp only [Ty.w, simprocAttr, W, nsucc, Bool.not_true, Bool.not_false]); try rfl) ?_; simp (maxSteps := 2000000) only [Ty.w, simprocAttr, W, nsucc, Bool.not_true, Bool.not_false]
        repeat' (first | (refine a_regionS ?_; simp (maxSteps := 2000000) only [Ty.w, simprocAttr, W, nsucc, Bool.not_true, Bool.not_false]) | (refine a_cond _ (by (try simp (maxSteps := 2000000) only [Ty.w, simprocAttr, W, nsucc, Bool.not_true, Bool.not_false]); rfl) (fun hb => ?_) (fun hb => ?_) <;> (try simp only [hb0, decide_eq_true_eq, decide_eq_false_iff_not, simprocAttr] at hb) <;> (try (exfalso; omega))) | (refine hK _ _ ?_; clear hK; try simp only [pst0, simprocAttr]))
        refine owp_useQ (cRB _) (by (try simp only [Ty.w, simprocAttr, W, nsucc, Bool.not_true, Bool.not_false]); try rfl) ?_; simp (maxSteps := 2000000) only [Ty.w, simprocAttr, W, nsucc, Bool.not_true, Bool.not_false]
        repeat' (first | refine a_seq fun K hK => ?_ | (refine a_regionS ?_; simp (maxSteps := 2000000) only [Ty.w, simprocAttr, W, nsucc, Bool.not_true, Bool.not_false]) | (refine hK _ _ ?_; clear hK; try simp only [pst0, simprocAttr]))
        refine owp_useQ (hRx _) (by (try simp only [Ty.w, simprocAttr, W, nsucc, Bool.not_true, Bool.not_false]); try rfl) ?_; simp (maxSteps := 2000000) only [Ty.w, simprocAttr, W, nsucc, Bool.not_true, Bool.not_false]
        repeat' (first | (refine a_regionS ?_; simp (maxSteps := 2000000) only [Ty.w, simprocAttr, W, nsucc, Bool.not_true, Bool.not_false]) | (refine a_cond _ (by (try simp (maxSteps := 2000000) only [Ty.w, simprocAttr, W, nsucc, Bool.not_true, Bool.not_false]); rfl) (fun hb => ?_) (fun hb => ?_) <;> (try simp only [hb0, decide_eq_true_eq, decide_eq_false_iff_not, simprocAttr] at hb) <;> (try (exfalso; omega))) | (refine hK _ _ ?_; clear hK; try simp only [pst0, simprocAttr]))
        refine owp_useQ (cRE _) (by (try simp only [Ty.w, simprocAttr, W, nsucc, Bool.not_true, Bool.not_false]); try rfl) ?_; simp (maxSteps := 2000000) only [Ty.w, simprocAttr, W, nsucc, Bool.not_true, Bool.not_false]
        repeat' (first | refine a_seq fun K hK => ?_ | (refine a_regionS ?_; simp (maxSteps := 2000000) only [Ty.w, simprocAttr, W, nsucc, Bool.not_true, Bool.not_false]) | (refine hK _ _ ?_; clear hK; try simp only [pst0, simprocAttr]))
        refine owp_useQ (cS _) (by (try simp only [Ty.w, simprocAttr, W, nsucc, Bool.not_true, Bool.not_false]); try rfl) ?_; simp (maxSteps := 2000000) only [Ty.w, simprocAttr, W, nsucc, Bool.not_true, Bool.not_false]
        skip
        refine owp_useQ (cU _) (by (try simp only [Ty.w, simprocAttr, W, nsucc, Bool.not_true, Bool.not_false]); try rfl) ?_; simp (maxSteps := 2000000) only [Ty.w, simprocAttr, W, nsucc, Bool.not_true, Bool.not_false]
        repeat' (first | (refine a_ret ?_; simp (maxSteps := 2000000) only [Ty.w, simprocAttr, W, nsucc, Bool.not_true, Bool.not_false]) | (refine hK _ _ ?_; clear hK; try simp only [pst0, simprocAttr]))
end Go.Proofs.Ytjlkapgpjamnkaa
namespace Go.AM
open Go.ChangeShapes Go.WideShapes
section
variable {P : Program} {c : Nat} {t e : TypeId} {ps : List PV} {a : PV}
theorem Arg_int {k : IntKind} (hu : P.underlying t = some (.int k)) (h : Arg P (c + 1) t ps) : ∃ n, (Lit.int k n).wf = true ∧ ps = [.sc (.int k n)] := by
  unfold Arg at h; rw [hu] at h; exact h
theorem Arg_slice (hu : P.underlying t = some (.slice e)) (h : Arg P (c + 1) t ps) : ∃ rows, ps = [.imm (P.cellsOf e) rows] ∧ rows.length * P.bytesOf e ≤ reachBytes ∧ rows.length ≤ maxLen ∧ ∀ r ∈ rows, r.length = P.cellsOf e ∧ Arg P c e r := by
  unfold Arg at h; rw [hu] at h; exact h
theorem Arg_struct {fs : Array Field} (hu : P.underlying t = some (.struct fs)) (h : Arg P (c + 1) t ps) : ps.length = P.cellsOf t ∧ ∀ p ∈ partsT P t, Arg P c p.2 ((ps.drop p.1).take (P.cellsOf p.2)) := by
  unfold Arg at h; rw [hu] at h; exact h
theorem rows_map {α : Type} {Q : α → Prop} {f : α → List PV} : (rows : List (List PV)) → (∀ r ∈ rows, ∃ x, Q x ∧ r = f x) → ∃ xs : List α, rows = xs.map f ∧ ∀ x ∈ xs, Q x
  | [], _ => ⟨[], rfl, by simp⟩
  | r :: rows, h => by
    obtain ⟨xs, h1, h2⟩ := rows_map rows (fun q hq => h q (by simp [hq]))
    obtain ⟨x, h3, h4⟩ := h r (by simp)
    refine ⟨x :: xs, by simp [h1, h4], fun y hy => ?_⟩
    rcases List.mem_cons.1 hy with rfl | hy
    · exact h3
    · exact h2 y hy
theorem i64_in {n : Int} (h : (Lit.int .i64 n).wf = true) : -9223372036854775808 ≤ n ∧ n ≤ 9223372036854775807 := by
  simp [Lit.wf, IntKind.min, IntKind.max, IntKind.bits, IntKind.signed] at h
  omega
end
end Go.AM
namespace Go.Proofs.Ytjlkapgpjamnkaa
open Go.AM
set_option maxHeartbeats 1000000
set_option maxRecDepth 20000
def recTs : List TypeId := [29, 57, 99, 9, 3, 24, 25, 26, 27]
theorem parts57 : partsT Try.prog 57 = [(0, 9), (1, 9), (2, 3), (3, 24), (4, 26)] := by kernel_rfl
theorem parts29 : partsT Try.prog 29 = [(0, 9), (1, 9), (2, 24), (3, 25), (4, 26), (5, 27)] := by kernel_rfl
theorem parts99 : partsT Try.prog 99 = [(0, 9), (1, 9)] := by kernel_rfl
theorem co9 : Try.prog.cellsOf 9 = 1 := by kernel_rfl
theorem co3 : Try.prog.cellsOf 3 = 1 := by kernel_rfl
theorem co24 : Try.prog.cellsOf 24 = 1 := by kernel_rfl
theorem co25 : Try.prog.cellsOf 25 = 1 := by kernel_rfl
theorem co26 : Try.prog.cellsOf 26 = 1 := by kernel_rfl
theorem co27 : Try.prog.cellsOf 27 = 1 := by kernel_rfl
theorem co57 : Try.prog.cellsOf 57 = 5 := by kernel_rfl
theorem co29 : Try.prog.cellsOf 29 = 6 := by kernel_rfl
theorem co99 : Try.prog.cellsOf 99 = 2 := by kernel_rfl
theorem by9 : 0 < Try.prog.bytesOf 9 := by rw [show Try.prog.bytesOf 9 = 16 by kernel_rfl]; omega
theorem by99 : 0 < Try.prog.bytesOf 99 := by rw [show Try.prog.bytesOf 99 = 32 by kernel_rfl]; omega
theorem by57 : 0 < Try.prog.bytesOf 57 := by rw [show Try.prog.bytesOf 57 = 88 by kernel_rfl]; omega
theorem by29 : 0 < Try.prog.bytesOf 29 := by rw [show Try.prog.bytesOf 29 = 128 by kernel_rfl]; omega
theorem len_le {n b : Nat} (h : n * b ≤ reachBytes) (hb : 0 < b) : n ≤ bigN := by
 have := Nat.le_mul_of_pos_right n hb
 unfold reachBytes at h
 unfold bigN
 omega
theorem arg_str {c : Nat} {ps : List PV} (h : Arg Try.prog c 9 ps) : ∃ s : ByteArray, s.size ≤ bigN ∧ ps = [sPV s] := by
 cases c with
 | zero => simp [Arg] at h
 | succ c =>
  unfold Arg at h
  rw [Try.underlying9] at h
  obtain ⟨s, h1, h2⟩ := h
  exact ⟨s, by unfold reachBytes at h1; unfold bigN; omega, h2⟩
theorem arg_i64 {c : Nat} {ps : List PV} (h : Arg Try.prog c 3 ps) : ∃ n : Int, (-9223372036854775808 ≤ n ∧ n ≤ 9223372036854775807) ∧ ps = [.sc (.int .i64 n)] := by
 cases c with
 | zero => simp [Arg] at h
 | succ c =>
  obtain ⟨n, h1, h2⟩ := Arg_int Try.underlying3 h
  exact ⟨n, i64_in h1, h2⟩
theorem arg_strs {c : Nat} {ps : List PV} (h : Arg Try.prog c 24 ps) : ∃ l : List ByteArray, (l.length ≤ bigN ∧ ∀ a ∈ l, a.size ≤ bigN) ∧ ps = [.imm 1 (strRows l)] := by
 cases c with
 | zero => simp [Arg] at h
 | succ c =>
  obtain ⟨rows, rfl, h1, _, h2⟩ := Arg_slice Try.underlying24 h
  obtain ⟨xs, rfl, h3⟩ := rows_map (Q := fun s : ByteArray => s.size ≤ bigN) (f := fun s => [sPV s]) rows (fun r hr => arg_str (h2 r hr).2)
  refine ⟨xs, ⟨len_le (by simpa using h1) by9, h3⟩, ?_⟩
  rw [co9]; try rfl
theorem arg_pm {c : Nat} {ps : List PV} (h : Arg Try.prog c 99 ps) : ∃ p : Pm, p.ok ∧ ps = pmRow p := by
 cases c with
 | zero => simp [Arg] at h
 | succ c =>
  obtain ⟨h1, h2⟩ := Arg_struct Try.underlying99 h
  rw [co99] at h1
  rw [parts99] at h2
  match ps, h1, h2 with
  | [p0, p1], _, h2 =>
   have a0 := h2 (0, 9) (by simp)
   have a1 := h2 (1, 9) (by simp)
   simp only [co9, List.drop_zero, List.drop_succ_cons, List.take_succ_cons, List.take_zero] at a0 a1
   obtain ⟨s, hs, e1⟩ := arg_str a0
   obtain ⟨t, ht, e2⟩ := arg_str a1
   simp at e1 e2
   exact ⟨⟨s, t⟩, ⟨hs, ht⟩, by simp [pmRow, e1, e2]⟩
theorem arg_pms {c : Nat} {ps : List PV} (h : Arg Try.prog c 25 ps) : ∃ l : List Pm, (l.length ≤ bigN ∧ ∀ a ∈ l, a.ok) ∧ ps = [.imm 2 (pmRows l)] := by
 cases c with
 | zero => simp [Arg] at h
 | succ c =>
  obtain ⟨rows, rfl, h1, _, h2⟩ := Arg_slice Try.underlying25 h
  obtain ⟨xs, rfl, h3⟩ := rows_map (Q := Pm.ok) (f := pmRow) rows (fun r hr => arg_pm (h2 r hr).2)
  refine ⟨xs, ⟨len_le (by simpa using h1) by99, h3⟩, ?_⟩
  rw [co99]; try rfl
theorem arg_ex : ∀ (c : Nat) {ps : List PV}, Arg Try.prog c 57 ps → ∃ e : Ex, e.ok ∧ ps = e.cells := by
 intro c
 induction c using Nat.strongRecOn with
 | _ c ih =>
  intro ps h
  cases c with
  | zero => simp [Arg] at h
  | succ c =>
   obtain ⟨h1, h2⟩ := Arg_struct Try.underlying57 h
   rw [co57] at h1
   rw [parts57] at h2
   match ps, h1, h2 with
   | [p0, p1, p2, p3, p4], _, h2 =>
    have a0 := h2 (0, 9) (by simp)
    have a1 := h2 (1, 9) (by simp)
    have a2 := h2 (2, 3) (by simp)
    have a3 := h2 (3, 24) (by simp)
    have a4 := h2 (4, 26) (by simp)
    simp only [co9, co3, co24, co26, List.drop_zero, List.drop_succ_cons, List.take_succ_cons, List.take_zero] at a0 a1 a2 a3 a4
    obtain ⟨op, hop, e0⟩ := arg_str a0
    obtain ⟨name, hname, e1⟩ := arg_str a1
    obtain ⟨n, hn, e2⟩ := arg_i64 a2
    obtain ⟨args, hargs, e3⟩ := arg_strs a3
    cases c with
    | zero => simp [Arg] at a4
    | succ c =>
     obtain ⟨rows, e4, h3, _, h4⟩ := Arg_slice Try.underlying26 a4
     obtain ⟨xs, rfl, h5⟩ := rows_map (Q := Ex.ok) (f := Ex.cells) rows (fun r hr => ih c (by omega) (h4 r hr).2)
     rw [co57] at e4
     simp at e0 e1 e2 e3 e4
     refine ⟨.mk op name n args xs, ?_, ?_⟩
     ·simp only [Ex.ok]
      exact ⟨hop, hname, hn, hargs, len_le (by simpa using h3) by57, Ex.oks_iff.2 h5⟩
     ·simp only [Ex.cells, e0, e1, e2, e3, e4, Ex.rows_map]
theorem arg_exs {c : Nat} {ps : List PV} (h : Arg Try.prog c 26 ps) : ∃ l : List Ex, (l.length ≤ bigN ∧ Ex.oks l) ∧ ps = [.imm 5 (Ex.rows l)] := by
 cases c with
 | zero => simp [Arg] at h
 | succ c =>
  obtain ⟨rows, rfl, h1, _, h2⟩ := Arg_slice Try.underlying26 h
  obtain ⟨xs, rfl, h3⟩ := rows_map (Q := Ex.ok) (f := Ex.cells) rows (fun r hr => arg_ex c (h2 r hr).2)
  refine ⟨xs, ⟨len_le (by simpa using h1) by57, Ex.oks_iff.2 h3⟩, ?_⟩
  rw [co57, Ex.rows_map]
theorem arg_fm : ∀ (c : Nat) {ps : List PV}, Arg Try.prog c 29 ps → ∃ f : Fm, f.ok ∧ ps = f.cells := by
 intro c
 induction c using Nat.strongRecOn with
 | _ c ih =>
  intro ps h
  cases c with
  | zero => simp [Arg] at h
  | succ c =>
   obtain ⟨h1, h2⟩ := Arg_struct Try.underlying29 h
   rw [co29] at h1
   rw [parts29] at h2
   match ps, h1, h2 with
   | [p0, p1, p2, p3, p4, p5], _, h2 =>
    have a0 := h2 (0, 9) (by simp)
    have a1 := h2 (1, 9) (by simp)
    have a2 := h2 (2, 24) (by simp)
    have a3 := h2 (3, 25) (by simp)
    have a4 := h2 (4, 26) (by simp)
    have a5 := h2 (5, 27) (by simp)
    simp only [co9, co24, co25, co26, co27, List.drop_zero, List.drop_succ_cons, List.take_succ_cons, List.take_zero] at a0 a1 a2 a3 a4 a5
    obtain ⟨op, hop, e0⟩ := arg_str a0
    obtain ⟨name, hname, e1⟩ := arg_str a1
    obtain ⟨args, hargs, e2⟩ := arg_strs a2
    obtain ⟨params, hparams, e3⟩ := arg_pms a3
    obtain ⟨exprs, hexprs, e4⟩ := arg_exs a4
    cases c with
    | zero => simp [Arg] at a5
    | succ c =>
     obtain ⟨rows, e5, h3, _, h4⟩ := Arg_slice Try.underlying27 a5
     obtain ⟨xs, rfl, h5⟩ := rows_map (Q := Fm.ok) (f := Fm.cells) rows (fun r hr => ih c (by omega) (h4 r hr).2)
     rw [co29] at e5
     simp at e0 e1 e2 e3 e4 e5
     refine ⟨.mk op name args params exprs xs, ?_, ?_⟩
     ·simp only [Fm.ok]
      exact ⟨hop, hname, hargs, hparams, hexprs, len_le (by simpa using h3) by29, Fm.oks_iff.2 h5⟩
     ·simp only [Fm.cells, e0, e1, e2, e3, e4, e5, Fm.rows_map]
end Go.Proofs.Ytjlkapgpjamnkaa
namespace Go.Proofs.Ytjlkapgpjamnkaa
open Go.AM
set_option maxHeartbeats 1000000
set_option maxRecDepth 20000
def bdTs : List TypeId := [37, 24, 9]
theorem partsBd : partsT Try.prog 37 = [(0, 24), (1, 24)] := by kernel_rfl
theorem coBd : Try.prog.cellsOf 37 = 2 := by kernel_rfl
theorem arg_bd {c : Nat} {ps : List PV} (h : Arg Try.prog c 37 ps) (hb : PV.bulkL ps ≤ 1048576) : ∃ n a : List ByteArray, n.length ≤ 1048576 ∧ a.length ≤ 1048576 ∧ (∀ s ∈ n, s.size ≤ bigN) ∧ (∀ s ∈ a, s.size ≤ bigN) ∧ ps = [.imm 1 (strRows n), .imm 1 (strRows a)] := by
 cases c with
 | zero => simp [Arg] at h
 | succ c =>
  obtain ⟨h1, h2⟩ := Arg_struct Try.underlying37 h
  rw [coBd] at h1
  rw [partsBd] at h2
  match ps, h1, h2 with
  | [p0, p1], _, h2 =>
   have a0 := h2 (0, 24) (by simp)
   have a1 := h2 (1, 24) (by simp)
   simp only [co24, List.drop_zero, List.drop_succ_cons, List.take_succ_cons, List.take_zero] at a0 a1
   obtain ⟨n, hn, e1⟩ := arg_strs a0
   obtain ⟨a, ha, e2⟩ := arg_strs a1
   simp at e1 e2
   subst e1
   subst e2
   have b1 := bulkR_strs n
   have b2 := bulkR_strs a
   simp only [PV.bulkL, PV.bulk] at hb
   exact ⟨n, a, by omega, by omega, hn.2, ha.2, rfl⟩
end Go.Proofs.Ytjlkapgpjamnkaa
