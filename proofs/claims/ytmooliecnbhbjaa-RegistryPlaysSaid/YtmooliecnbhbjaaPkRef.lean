/- The reference's Check, Proper, Same and the like: what they compute. -/
import Derived.Test.YtmooliecnbhbjaaTy
set_option linter.unusedVariables false
set_option linter.unusedSimpArgs false
set_option linter.unusedSectionVars false
namespace Go.Proofs.Ytmooliecnbhbjaa
open Go.AM
set_option maxHeartbeats 1000000
set_option maxRecDepth 20000

def okSize (x : Int) : Bool := decide (1 ≤ x) && decide (x ≤ 64)
def checkM (xs : List Int) : Int := if 64 < xs.length then 5 else if xs.all okSize then 0 else 1

theorem check_c {h : Heap} {p : PV} {xs : List Int} (hp : Sl h 1 p (rowsI xs)) : PCall Try.prog 18 [p] h fun r h' => r = .sc (.int .i64 (checkM xs)) ∧ h' = h := by
  refine pcall_len hp (by simp) Ty.hb_18 (fun hl => ?_)
  rw [rowsI_len] at hl
  have hlen := hp.len
  rw [rowsI_len] at hlen
  have hlk := hp.lk
  refine pcall_body (ow := fun _ => false) (wf := fun _ => false) Ty.mixed Try.func18 rfl Ty.hb_18 (by rw [Try.ntmps18]; simp) ?_
  rw [Try.ntmps18, Try.results18]
  repeat' (first
    | (refine a_seq (fun K hK => ?_))
    | (refine a_block ?_)
    | ((first | refine a_regionS ?_ | refine a_drawS (by decide +kernel) ?_ | refine a_region (fun K hK => ?_) | refine a_draw (by decide +kernel) (fun K hK => ?_) | refine a_ret ?_); simp (maxSteps := 2000000) only [am0, am1, am2, am3, amb0, amb1, amb2, amb3, amb4, lwn, drn, callee, wantedB, isW, eff, pev, pst0, retPost, resAll, resP, resV, intP, mkV, putC, pbin, peq, pint, pshift, pstr, pun, pconv, isShift, isConstB, app, subS, lay, rowsOf, lkV, keyKind, keyEq, mfind, mput, oInt, isZeroInt, forall_const, exists_eq_left', implies_true, IntKind.bits, ↓reduceIte, Nat.reduceEqDiff, Nat.reduceAdd, Nat.reduceSub, Nat.reduceMul, Nat.reduceLT, Nat.reduceLeDiff, Nat.reduceBEq, Int.reduceLE, Int.reduceLT, Int.reduceToNat, reduceCtorEq, Ty.all, hlen, hlk])
    | (refine a_skip ?_; try simp only [pst0, ↓reduceIte, Nat.reduceEqDiff])
    | (refine a_exit ?_; try simp only [pst0, ↓reduceIte, Nat.reduceEqDiff])
    | (refine a_cond _ (by (try simp (maxSteps := 2000000) only [am0, am1, am2, am3, amb0, amb1, amb2, amb3, amb4, lwn, drn, callee, wantedB, isW, eff, pev, pst0, retPost, resAll, resP, resV, intP, mkV, putC, pbin, peq, pint, pshift, pstr, pun, pconv, isShift, isConstB, app, subS, lay, rowsOf, lkV, keyKind, keyEq, mfind, mput, oInt, isZeroInt, forall_const, exists_eq_left', implies_true, IntKind.bits, ↓reduceIte, Nat.reduceEqDiff, Nat.reduceAdd, Nat.reduceSub, Nat.reduceMul, Nat.reduceLT, Nat.reduceLeDiff, Nat.reduceBEq, Int.reduceLE, Int.reduceLT, Int.reduceToNat, reduceCtorEq, Ty.all, hlen, hlk]); rfl) (fun hb => ?_) (fun hb => ?_) <;> (try simp only [hb0, decide_eq_true_eq, decide_eq_false_iff_not, reduceCtorEq] at hb) <;> (try (exfalso; omega)))
    | (with_reducible refine ite_in (fun hb => ?_) (fun hb => ?_) <;> (try simp only [Decidable.not_not] at hb) <;> (try simp only [hb, if_true, if_false, not_false_eq_true, not_true_eq_false, ↓reduceIte]) <;> (try simp only [hb0, decide_eq_true_eq, decide_eq_false_iff_not, reduceCtorEq] at hb) <;> (try (exfalso; omega)))
    | (refine hK _ _ ?_; clear hK; try simp only [pst0, ↓reduceIte, Nat.reduceEqDiff])
    | (clear hK; refine hK _ _ ?_; clear hK; try simp only [pst0, ↓reduceIte, Nat.reduceEqDiff])
    | (clear hK; clear hK; refine hK _ _ ?_; clear hK; try simp only [pst0, ↓reduceIte, Nat.reduceEqDiff])
    | (clear hK; clear hK; clear hK; refine hK _ _ ?_; clear hK; try simp only [pst0, ↓reduceIte, Nat.reduceEqDiff])
    | ((first | (with_reducible refine a_past _ rfl (by decide +kernel) ?_) | (with_reducible refine a_past2 (by simp only [List.forall_mem_cons, am0, am1, am2, am3, amb0, amb1, amb2, amb3, amb4, lwn, drn, callee, wantedB, isW, eff, pev, pst0, retPost, resAll, resP, resV, intP, mkV, putC, pbin, peq, pint, pshift, pstr, pun, pconv, isShift, isConstB, app, subS, lay, rowsOf, lkV, keyKind, keyEq, mfind, mput, oInt, isZeroInt, forall_const, exists_eq_left', implies_true, IntKind.bits, ↓reduceIte, Nat.reduceEqDiff, Nat.reduceAdd, Nat.reduceSub, Nat.reduceMul, Nat.reduceLT, Nat.reduceLeDiff, Nat.reduceBEq, Int.reduceLE, Int.reduceLT, Int.reduceToNat, reduceCtorEq, Ty.all, hlen, hlk]; (repeat' apply And.intro) <;> first | trivial | exact .inl (by decide +kernel)) ?_)); try simp (maxSteps := 2000000) only [am0, am1, am2, am3, amb0, amb1, amb2, amb3, amb4, lwn, drn, callee, wantedB, isW, eff, pev, pst0, retPost, resAll, resP, resV, intP, mkV, putC, pbin, peq, pint, pshift, pstr, pun, pconv, isShift, isConstB, app, subS, lay, rowsOf, lkV, keyKind, keyEq, mfind, mput, oInt, isZeroInt, forall_const, exists_eq_left', implies_true, IntKind.bits, ↓reduceIte, Nat.reduceEqDiff, Nat.reduceAdd, Nat.reduceSub, Nat.reduceMul, Nat.reduceLT, Nat.reduceLeDiff, Nat.reduceBEq, Int.reduceLE, Int.reduceLT, Int.reduceToNat, reduceCtorEq, Ty.all, hlen, hlk])
    | (rw [if_pos]; rotate_left 1; omega; simp (maxSteps := 2000000) only [am0, am1, am2, am3, amb0, amb1, amb2, amb3, amb4, lwn, drn, callee, wantedB, isW, eff, pev, pst0, retPost, resAll, resP, resV, intP, mkV, putC, pbin, peq, pint, pshift, pstr, pun, pconv, isShift, isConstB, app, subS, lay, rowsOf, lkV, keyKind, keyEq, mfind, mput, oInt, isZeroInt, forall_const, exists_eq_left', implies_true, IntKind.bits, ↓reduceIte, Nat.reduceEqDiff, Nat.reduceAdd, Nat.reduceSub, Nat.reduceMul, Nat.reduceLT, Nat.reduceLeDiff, Nat.reduceBEq, Int.reduceLE, Int.reduceLT, Int.reduceToNat, reduceCtorEq, Ty.all, hlen, hlk]))
  · unfold checkM; rw [if_pos (by omega)]
  refine a_loop (fun m s h' => h' = h ∧ s 8 = p ∧ s 9 = .sc (.int .i64 xs.length) ∧ ∃ k : Nat, s 10 = .sc (.int .i64 k) ∧ k ≤ xs.length ∧ m = xs.length - k ∧ (xs.take k).all okSize = true) xs.length ?_ ?_
  · try simp only [am0, am1, am2, am3, amb0, amb1, amb2, amb3, amb4, lwn, drn, callee, wantedB, isW, eff, pev, pst0, retPost, resAll, resP, resV, intP, mkV, putC, pbin, peq, pint, pshift, pstr, pun, pconv, isShift, isConstB, app, subS, lay, rowsOf, lkV, keyKind, keyEq, mfind, mput, oInt, isZeroInt, forall_const, exists_eq_left', implies_true, IntKind.bits, ↓reduceIte, Nat.reduceEqDiff, Nat.reduceAdd, Nat.reduceSub, Nat.reduceMul, Nat.reduceLT, Nat.reduceLeDiff, Nat.reduceBEq, Int.reduceLE, Int.reduceLT, Int.reduceToNat, reduceCtorEq]
    exact ⟨0, rfl, Nat.zero_le _, rfl, rfl⟩
  · rintro m s h' ⟨rfl, h8, h9, k, h10, hk, rfl, hall⟩
    by_cases hlt : k < xs.length
    · obtain ⟨q, hq, hr⟩ := hp.int hlt
      repeat' (first
        | (refine a_seq (fun K hK => ?_))
        | (refine a_block ?_)
        | ((first | refine a_regionS ?_ | refine a_drawS (by decide +kernel) ?_ | refine a_region (fun K hK => ?_) | refine a_draw (by decide +kernel) (fun K hK => ?_) | refine a_ret ?_); simp (maxSteps := 2000000) only [am0, am1, am2, am3, amb0, amb1, amb2, amb3, amb4, lwn, drn, callee, wantedB, isW, eff, pev, pst0, retPost, resAll, resP, resV, intP, mkV, putC, pbin, peq, pint, pshift, pstr, pun, pconv, isShift, isConstB, app, subS, lay, rowsOf, lkV, keyKind, keyEq, mfind, mput, oInt, isZeroInt, forall_const, exists_eq_left', implies_true, IntKind.bits, ↓reduceIte, Nat.reduceEqDiff, Nat.reduceAdd, Nat.reduceSub, Nat.reduceMul, Nat.reduceLT, Nat.reduceLeDiff, Nat.reduceBEq, Int.reduceLE, Int.reduceLT, Int.reduceToNat, reduceCtorEq, Ty.all, hlen, hlk, h8, h9, h10, hq, hr])
        | (refine a_skip ?_; try simp only [pst0, ↓reduceIte, Nat.reduceEqDiff])
        | (refine a_exit ?_; try simp only [pst0, ↓reduceIte, Nat.reduceEqDiff])
        | (refine a_cond _ (by (try simp (maxSteps := 2000000) only [am0, am1, am2, am3, amb0, amb1, amb2, amb3, amb4, lwn, drn, callee, wantedB, isW, eff, pev, pst0, retPost, resAll, resP, resV, intP, mkV, putC, pbin, peq, pint, pshift, pstr, pun, pconv, isShift, isConstB, app, subS, lay, rowsOf, lkV, keyKind, keyEq, mfind, mput, oInt, isZeroInt, forall_const, exists_eq_left', implies_true, IntKind.bits, ↓reduceIte, Nat.reduceEqDiff, Nat.reduceAdd, Nat.reduceSub, Nat.reduceMul, Nat.reduceLT, Nat.reduceLeDiff, Nat.reduceBEq, Int.reduceLE, Int.reduceLT, Int.reduceToNat, reduceCtorEq, Ty.all, hlen, hlk, h8, h9, h10, hq, hr]); rfl) (fun hb => ?_) (fun hb => ?_) <;> (try simp only [hb0, decide_eq_true_eq, decide_eq_false_iff_not, reduceCtorEq] at hb) <;> (try (exfalso; omega)))
        | (with_reducible refine ite_in (fun hb => ?_) (fun hb => ?_) <;> (try simp only [Decidable.not_not] at hb) <;> (try simp only [hb, if_true, if_false, not_false_eq_true, not_true_eq_false, ↓reduceIte]) <;> (try simp only [hb0, decide_eq_true_eq, decide_eq_false_iff_not, reduceCtorEq] at hb) <;> (try (exfalso; omega)))
        | (refine hK _ _ ?_; clear hK; try simp only [pst0, ↓reduceIte, Nat.reduceEqDiff])
        | (clear hK; refine hK _ _ ?_; clear hK; try simp only [pst0, ↓reduceIte, Nat.reduceEqDiff])
        | (clear hK; clear hK; refine hK _ _ ?_; clear hK; try simp only [pst0, ↓reduceIte, Nat.reduceEqDiff])
        | (clear hK; clear hK; clear hK; refine hK _ _ ?_; clear hK; try simp only [pst0, ↓reduceIte, Nat.reduceEqDiff])
        | ((first | (with_reducible refine a_past _ rfl (by decide +kernel) ?_) | (with_reducible refine a_past2 (by simp only [List.forall_mem_cons, am0, am1, am2, am3, amb0, amb1, amb2, amb3, amb4, lwn, drn, callee, wantedB, isW, eff, pev, pst0, retPost, resAll, resP, resV, intP, mkV, putC, pbin, peq, pint, pshift, pstr, pun, pconv, isShift, isConstB, app, subS, lay, rowsOf, lkV, keyKind, keyEq, mfind, mput, oInt, isZeroInt, forall_const, exists_eq_left', implies_true, IntKind.bits, ↓reduceIte, Nat.reduceEqDiff, Nat.reduceAdd, Nat.reduceSub, Nat.reduceMul, Nat.reduceLT, Nat.reduceLeDiff, Nat.reduceBEq, Int.reduceLE, Int.reduceLT, Int.reduceToNat, reduceCtorEq, Ty.all, hlen, hlk, h8, h9, h10, hq, hr]; (repeat' apply And.intro) <;> first | trivial | exact .inl (by decide +kernel)) ?_)); try simp (maxSteps := 2000000) only [am0, am1, am2, am3, amb0, amb1, amb2, amb3, amb4, lwn, drn, callee, wantedB, isW, eff, pev, pst0, retPost, resAll, resP, resV, intP, mkV, putC, pbin, peq, pint, pshift, pstr, pun, pconv, isShift, isConstB, app, subS, lay, rowsOf, lkV, keyKind, keyEq, mfind, mput, oInt, isZeroInt, forall_const, exists_eq_left', implies_true, IntKind.bits, ↓reduceIte, Nat.reduceEqDiff, Nat.reduceAdd, Nat.reduceSub, Nat.reduceMul, Nat.reduceLT, Nat.reduceLeDiff, Nat.reduceBEq, Int.reduceLE, Int.reduceLT, Int.reduceToNat, reduceCtorEq, Ty.all, hlen, hlk, h8, h9, h10, hq, hr])
        | (rw [if_pos]; rotate_left 1; omega; simp (maxSteps := 2000000) only [am0, am1, am2, am3, amb0, amb1, amb2, amb3, amb4, lwn, drn, callee, wantedB, isW, eff, pev, pst0, retPost, resAll, resP, resV, intP, mkV, putC, pbin, peq, pint, pshift, pstr, pun, pconv, isShift, isConstB, app, subS, lay, rowsOf, lkV, keyKind, keyEq, mfind, mput, oInt, isZeroInt, forall_const, exists_eq_left', implies_true, IntKind.bits, ↓reduceIte, Nat.reduceEqDiff, Nat.reduceAdd, Nat.reduceSub, Nat.reduceMul, Nat.reduceLT, Nat.reduceLeDiff, Nat.reduceBEq, Int.reduceLE, Int.reduceLT, Int.reduceToNat, reduceCtorEq, Ty.all, hlen, hlk, h8, h9, h10, hq, hr]))
      · unfold checkM
        rw [if_neg (by omega), if_neg]
        intro hh
        have := List.all_eq_true.1 hh _ (List.getElem_mem hlt)
        simp [okSize] at this; omega
      · refine ⟨xs.length - (k + 1), by omega, k + 1, by rw [wrap64 (by omega) (by omega)]; rfl, by omega, rfl, ?_⟩
        rw [List.take_succ_eq_append_getElem hlt, List.all_append, hall]
        simp [okSize]; omega
      · unfold checkM
        rw [if_neg (by omega), if_neg]
        intro hh
        have := List.all_eq_true.1 hh _ (List.getElem_mem hlt)
        simp [okSize] at this; omega
    · repeat' (first
        | (refine a_seq (fun K hK => ?_))
        | (refine a_block ?_)
        | ((first | refine a_regionS ?_ | refine a_drawS (by decide +kernel) ?_ | refine a_region (fun K hK => ?_) | refine a_draw (by decide +kernel) (fun K hK => ?_) | refine a_ret ?_); simp (maxSteps := 2000000) only [am0, am1, am2, am3, amb0, amb1, amb2, amb3, amb4, lwn, drn, callee, wantedB, isW, eff, pev, pst0, retPost, resAll, resP, resV, intP, mkV, putC, pbin, peq, pint, pshift, pstr, pun, pconv, isShift, isConstB, app, subS, lay, rowsOf, lkV, keyKind, keyEq, mfind, mput, oInt, isZeroInt, forall_const, exists_eq_left', implies_true, IntKind.bits, ↓reduceIte, Nat.reduceEqDiff, Nat.reduceAdd, Nat.reduceSub, Nat.reduceMul, Nat.reduceLT, Nat.reduceLeDiff, Nat.reduceBEq, Int.reduceLE, Int.reduceLT, Int.reduceToNat, reduceCtorEq, Ty.all, hlen, hlk, h8, h9, h10])
        | (refine a_skip ?_; try simp only [pst0, ↓reduceIte, Nat.reduceEqDiff])
        | (refine a_exit ?_; try simp only [pst0, ↓reduceIte, Nat.reduceEqDiff])
        | (refine a_cond _ (by (try simp (maxSteps := 2000000) only [am0, am1, am2, am3, amb0, amb1, amb2, amb3, amb4, lwn, drn, callee, wantedB, isW, eff, pev, pst0, retPost, resAll, resP, resV, intP, mkV, putC, pbin, peq, pint, pshift, pstr, pun, pconv, isShift, isConstB, app, subS, lay, rowsOf, lkV, keyKind, keyEq, mfind, mput, oInt, isZeroInt, forall_const, exists_eq_left', implies_true, IntKind.bits, ↓reduceIte, Nat.reduceEqDiff, Nat.reduceAdd, Nat.reduceSub, Nat.reduceMul, Nat.reduceLT, Nat.reduceLeDiff, Nat.reduceBEq, Int.reduceLE, Int.reduceLT, Int.reduceToNat, reduceCtorEq, Ty.all, hlen, hlk, h8, h9, h10]); rfl) (fun hb => ?_) (fun hb => ?_) <;> (try simp only [hb0, decide_eq_true_eq, decide_eq_false_iff_not, reduceCtorEq] at hb) <;> (try (exfalso; omega)))
        | (with_reducible refine ite_in (fun hb => ?_) (fun hb => ?_) <;> (try simp only [Decidable.not_not] at hb) <;> (try simp only [hb, if_true, if_false, not_false_eq_true, not_true_eq_false, ↓reduceIte]) <;> (try simp only [hb0, decide_eq_true_eq, decide_eq_false_iff_not, reduceCtorEq] at hb) <;> (try (exfalso; omega)))
        | (refine hK _ _ ?_; clear hK; try simp only [pst0, ↓reduceIte, Nat.reduceEqDiff])
        | (clear hK; refine hK _ _ ?_; clear hK; try simp only [pst0, ↓reduceIte, Nat.reduceEqDiff])
        | (clear hK; clear hK; refine hK _ _ ?_; clear hK; try simp only [pst0, ↓reduceIte, Nat.reduceEqDiff])
        | (clear hK; clear hK; clear hK; refine hK _ _ ?_; clear hK; try simp only [pst0, ↓reduceIte, Nat.reduceEqDiff])
        | ((first | (with_reducible refine a_past _ rfl (by decide +kernel) ?_) | (with_reducible refine a_past2 (by simp only [List.forall_mem_cons, am0, am1, am2, am3, amb0, amb1, amb2, amb3, amb4, lwn, drn, callee, wantedB, isW, eff, pev, pst0, retPost, resAll, resP, resV, intP, mkV, putC, pbin, peq, pint, pshift, pstr, pun, pconv, isShift, isConstB, app, subS, lay, rowsOf, lkV, keyKind, keyEq, mfind, mput, oInt, isZeroInt, forall_const, exists_eq_left', implies_true, IntKind.bits, ↓reduceIte, Nat.reduceEqDiff, Nat.reduceAdd, Nat.reduceSub, Nat.reduceMul, Nat.reduceLT, Nat.reduceLeDiff, Nat.reduceBEq, Int.reduceLE, Int.reduceLT, Int.reduceToNat, reduceCtorEq, Ty.all, hlen, hlk, h8, h9, h10]; (repeat' apply And.intro) <;> first | trivial | exact .inl (by decide +kernel)) ?_)); try simp (maxSteps := 2000000) only [am0, am1, am2, am3, amb0, amb1, amb2, amb3, amb4, lwn, drn, callee, wantedB, isW, eff, pev, pst0, retPost, resAll, resP, resV, intP, mkV, putC, pbin, peq, pint, pshift, pstr, pun, pconv, isShift, isConstB, app, subS, lay, rowsOf, lkV, keyKind, keyEq, mfind, mput, oInt, isZeroInt, forall_const, exists_eq_left', implies_true, IntKind.bits, ↓reduceIte, Nat.reduceEqDiff, Nat.reduceAdd, Nat.reduceSub, Nat.reduceMul, Nat.reduceLT, Nat.reduceLeDiff, Nat.reduceBEq, Int.reduceLE, Int.reduceLT, Int.reduceToNat, reduceCtorEq, Ty.all, hlen, hlk, h8, h9, h10])
        | (rw [if_pos]; rotate_left 1; omega; simp (maxSteps := 2000000) only [am0, am1, am2, am3, amb0, amb1, amb2, amb3, amb4, lwn, drn, callee, wantedB, isW, eff, pev, pst0, retPost, resAll, resP, resV, intP, mkV, putC, pbin, peq, pint, pshift, pstr, pun, pconv, isShift, isConstB, app, subS, lay, rowsOf, lkV, keyKind, keyEq, mfind, mput, oInt, isZeroInt, forall_const, exists_eq_left', implies_true, IntKind.bits, ↓reduceIte, Nat.reduceEqDiff, Nat.reduceAdd, Nat.reduceSub, Nat.reduceMul, Nat.reduceLT, Nat.reduceLeDiff, Nat.reduceBEq, Int.reduceLE, Int.reduceLT, Int.reduceToNat, reduceCtorEq, Ty.all, hlen, hlk, h8, h9, h10]))
      unfold checkM
      rw [if_neg (by omega), if_pos]
      rw [List.take_of_length_le (by omega)] at hall; exact hall
end Go.Proofs.Ytmooliecnbhbjaa
