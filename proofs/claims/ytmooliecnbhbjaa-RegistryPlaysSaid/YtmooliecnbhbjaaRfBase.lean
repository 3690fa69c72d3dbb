/- stratagemref23: Find, Add, SetLink: the walks. -/
import Derived.Test.YtmooliecnbhbjaaPkProper
import Derived.Test.YtmooliecnbhbjaaRgPath
set_option linter.unusedVariables false
set_option linter.unusedSimpArgs false
set_option linter.unusedSectionVars false
namespace Go.Proofs.Ytmooliecnbhbjaa
open Go.AM
set_option maxHeartbeats 4000000
set_option maxRecDepth 20000

structure RE where
  st : List Int
  par : Int
  op : Int
  cost : Int
def refRow (x : RE) : List PV := [.imm 1 (rowsI x.st), .sc (.int .i64 x.par), .sc (.int .i64 x.op), .sc (.int .i64 x.cost)]
/-- the reference's list, as a value -/
def lPV : List RE → PV
  | [] => nilS
  | x :: L => .imm 4 ((x :: L).map refRow)
theorem lPV_sl (G : Heap) (L : List RE) : Sl G 4 (lPV L) (L.map refRow) := by
  cases L with
  | nil => exact Sl.nil
  | cons x L => exact Sl.imm _
theorem lPV_imm {L : List RE} (h : L ≠ []) : lPV L = .imm 4 (L.map refRow) := by
  cases L with
  | nil => exact absurd rfl h
  | cons x L => rfl
theorem refRow_get {L : List RE} {i : Nat} {x : RE} (h : L[i]? = some x) : (L.map refRow)[i]? = some (refRow x) := by
  rw [List.getElem?_map, h]; rfl
def rfFindM (xs : List Int) (L : List RE) (ss : List Int) : Int × Int := if properM xs ss = true then (match L.findIdx? (fun x => decide (x.st = ss)) with | some i => ((i : Int), 0) | none => (0, 3)) else (0, 2)
theorem rfFind_c {G : Heap} {xs ss : List Int} {L : List RE} {p : PV} (hp : Sl G 1 p (rowsI ss)) : PCall Try.prog 44 [.imm 1 (rowsI xs), lPV L, p] G fun v h' => v = .tup [iPV (rfFindM xs L ss).1, iPV (rfFindM xs L ss).2] ∧ h' = G := by
  have sl := lPV_sl G L
  refine pcall_len sl (by simp) Ty.hb_44 (fun hL => ?_)
  rw [List.length_map] at hL
  have hlen := lenP_sl sl
  rw [List.length_map] at hlen
  have hlk := sl.lk
  refine pcall_body (ow := fun _ => false) (wf := fun _ => false) Ty.mixed Try.func44 rfl Ty.hb_44 (by rw [Try.ntmps44]; simp) ?_
  rw [Try.ntmps44, Try.results44]
  repeat' (first
    | (refine a_seq (fun K hK => ?_))
    | (refine a_block ?_)
    | ((first | refine a_regionS ?_ | refine a_region (fun K hK => ?_) | refine a_ret ?_); simp (maxSteps := 2000000) only [am0, am1, am2, am3, amb0, amb1, amb2, amb3, amb4, lwn, drn, callee, wantedB, isW, eff, pev, pst0, retPost, resAll, resP, resV, intP, mkV, putC, pbin, peq, pint, pshift, pstr, pun, pconv, isShift, isConstB, app, subS, lay, rowsOf, lkV, keyKind, keyEq, mfind, mput, oInt, isZeroInt, forall_const, exists_eq_left', implies_true, IntKind.bits, ↓reduceIte, Nat.reduceEqDiff, Nat.reduceAdd, Nat.reduceSub, Nat.reduceMul, Nat.reduceLT, Nat.reduceLeDiff, Nat.reduceBEq, Int.reduceLE, Int.reduceLT, Int.reduceToNat, reduceCtorEq, Ty.all])
    | (refine a_skip ?_; try simp only [pst0, ↓reduceIte, Nat.reduceEqDiff])
    | (refine a_exit ?_; try simp only [pst0, ↓reduceIte, Nat.reduceEqDiff])
    | (refine a_cond _ (by (try simp (maxSteps := 2000000) only [am0, am1, am2, am3, amb0, amb1, amb2, amb3, amb4, lwn, drn, callee, wantedB, isW, eff, pev, pst0, retPost, resAll, resP, resV, intP, mkV, putC, pbin, peq, pint, pshift, pstr, pun, pconv, isShift, isConstB, app, subS, lay, rowsOf, lkV, keyKind, keyEq, mfind, mput, oInt, isZeroInt, forall_const, exists_eq_left', implies_true, IntKind.bits, ↓reduceIte, Nat.reduceEqDiff, Nat.reduceAdd, Nat.reduceSub, Nat.reduceMul, Nat.reduceLT, Nat.reduceLeDiff, Nat.reduceBEq, Int.reduceLE, Int.reduceLT, Int.reduceToNat, reduceCtorEq, Ty.all]); rfl) (fun hb => ?_) (fun hb => ?_) <;> (try simp only [hb0, decide_eq_true_eq, decide_eq_false_iff_not, reduceCtorEq] at hb) <;> (try (exfalso; omega)))
    | (with_reducible refine ite_in (fun hb => ?_) (fun hb => ?_) <;> (try simp only [Decidable.not_not] at hb) <;> (try simp only [hb, if_true, if_false, not_false_eq_true, not_true_eq_false, ↓reduceIte]) <;> (try simp only [hb0, decide_eq_true_eq, decide_eq_false_iff_not, reduceCtorEq] at hb) <;> (try (exfalso; omega)))
    | (refine hK _ _ ?_; clear hK; try simp only [pst0, ↓reduceIte, Nat.reduceEqDiff])
    | (clear hK; refine hK _ _ ?_; clear hK; try simp only [pst0, ↓reduceIte, Nat.reduceEqDiff])
    | (clear hK; clear hK; refine hK _ _ ?_; clear hK; try simp only [pst0, ↓reduceIte, Nat.reduceEqDiff])
    | (clear hK; clear hK; clear hK; refine hK _ _ ?_; clear hK; try simp only [pst0, ↓reduceIte, Nat.reduceEqDiff])
    | (rw [if_pos]; rotate_left 1; omega; simp (maxSteps := 2000000) only [am0, am1, am2, am3, amb0, amb1, amb2, amb3, amb4, lwn, drn, callee, wantedB, isW, eff, pev, pst0, retPost, resAll, resP, resV, intP, mkV, putC, pbin, peq, pint, pshift, pstr, pun, pconv, isShift, isConstB, app, subS, lay, rowsOf, lkV, keyKind, keyEq, mfind, mput, oInt, isZeroInt, forall_const, exists_eq_left', implies_true, IntKind.bits, ↓reduceIte, Nat.reduceEqDiff, Nat.reduceAdd, Nat.reduceSub, Nat.reduceMul, Nat.reduceLT, Nat.reduceLeDiff, Nat.reduceBEq, Int.reduceLE, Int.reduceLT, Int.reduceToNat, reduceCtorEq, Ty.all]))
  by_cases hs : properM xs ss = true
  rotate_left
  · have hs' : properM xs ss = false := by simpa using hs
    have hM : rfFindM xs L ss = (0, 2) := by unfold rfFindM; rw [if_neg hs]
    refine owp_useQ (proper_c (xs := xs) (ss := ss) (Sl.imm _) hp) (by (try simp only [am0, am1, am2, am3, amb0, amb1, amb2, amb3, amb4, lwn, drn, callee, wantedB, isW, eff, pev, pst0, retPost, resAll, resP, resV, intP, mkV, putC, pbin, peq, pint, pshift, pstr, pun, pconv, isShift, isConstB, app, subS, lay, rowsOf, lkV, keyKind, keyEq, mfind, mput, oInt, isZeroInt, forall_const, exists_eq_left', implies_true, IntKind.bits, ↓reduceIte, Nat.reduceEqDiff, Nat.reduceAdd, Nat.reduceSub, Nat.reduceMul, Nat.reduceLT, Nat.reduceLeDiff, Nat.reduceBEq, Int.reduceLE, Int.reduceLT, Int.reduceToNat, reduceCtorEq, hs']); try rfl) ?_
    simp (maxSteps := 2000000) only [am0, am1, am2, am3, amb0, amb1, amb2, amb3, amb4, lwn, drn, callee, wantedB, isW, eff, pev, pst0, retPost, resAll, resP, resV, intP, mkV, putC, pbin, peq, pint, pshift, pstr, pun, pconv, isShift, isConstB, app, subS, lay, rowsOf, lkV, keyKind, keyEq, mfind, mput, oInt, isZeroInt, forall_const, exists_eq_left', implies_true, IntKind.bits, ↓reduceIte, Nat.reduceEqDiff, Nat.reduceAdd, Nat.reduceSub, Nat.reduceMul, Nat.reduceLT, Nat.reduceLeDiff, Nat.reduceBEq, Int.reduceLE, Int.reduceLT, Int.reduceToNat, reduceCtorEq, Ty.all, hs']
    repeat' (first
      | (refine a_seq (fun K hK => ?_))
      | (refine a_block ?_)
      | ((first | refine a_regionS ?_ | refine a_region (fun K hK => ?_) | refine a_ret ?_); simp (maxSteps := 2000000) only [am0, am1, am2, am3, amb0, amb1, amb2, amb3, amb4, lwn, drn, callee, wantedB, isW, eff, pev, pst0, retPost, resAll, resP, resV, intP, mkV, putC, pbin, peq, pint, pshift, pstr, pun, pconv, isShift, isConstB, app, subS, lay, rowsOf, lkV, keyKind, keyEq, mfind, mput, oInt, isZeroInt, forall_const, exists_eq_left', implies_true, IntKind.bits, ↓reduceIte, Nat.reduceEqDiff, Nat.reduceAdd, Nat.reduceSub, Nat.reduceMul, Nat.reduceLT, Nat.reduceLeDiff, Nat.reduceBEq, Int.reduceLE, Int.reduceLT, Int.reduceToNat, reduceCtorEq, Ty.all, hs'])
      | (refine a_skip ?_; try simp only [pst0, ↓reduceIte, Nat.reduceEqDiff])
      | (refine a_exit ?_; try simp only [pst0, ↓reduceIte, Nat.reduceEqDiff])
      | (refine a_cond _ (by (try simp (maxSteps := 2000000) only [am0, am1, am2, am3, amb0, amb1, amb2, amb3, amb4, lwn, drn, callee, wantedB, isW, eff, pev, pst0, retPost, resAll, resP, resV, intP, mkV, putC, pbin, peq, pint, pshift, pstr, pun, pconv, isShift, isConstB, app, subS, lay, rowsOf, lkV, keyKind, keyEq, mfind, mput, oInt, isZeroInt, forall_const, exists_eq_left', implies_true, IntKind.bits, ↓reduceIte, Nat.reduceEqDiff, Nat.reduceAdd, Nat.reduceSub, Nat.reduceMul, Nat.reduceLT, Nat.reduceLeDiff, Nat.reduceBEq, Int.reduceLE, Int.reduceLT, Int.reduceToNat, reduceCtorEq, Ty.all, hs']); rfl) (fun hb => ?_) (fun hb => ?_) <;> (try simp only [hb0, decide_eq_true_eq, decide_eq_false_iff_not, reduceCtorEq] at hb) <;> (try (exfalso; omega)))
      | (with_reducible refine ite_in (fun hb => ?_) (fun hb => ?_) <;> (try simp only [Decidable.not_not] at hb) <;> (try simp only [hb, if_true, if_false, not_false_eq_true, not_true_eq_false, ↓reduceIte]) <;> (try simp only [hb0, decide_eq_true_eq, decide_eq_false_iff_not, reduceCtorEq] at hb) <;> (try (exfalso; omega)))
      | (refine hK _ _ ?_; clear hK; try simp only [pst0, ↓reduceIte, Nat.reduceEqDiff])
      | (clear hK; refine hK _ _ ?_; clear hK; try simp only [pst0, ↓reduceIte, Nat.reduceEqDiff])
      | (clear hK; clear hK; refine hK _ _ ?_; clear hK; try simp only [pst0, ↓reduceIte, Nat.reduceEqDiff])
      | (clear hK; clear hK; clear hK; refine hK _ _ ?_; clear hK; try simp only [pst0, ↓reduceIte, Nat.reduceEqDiff])
      | (rw [if_pos]; rotate_left 1; omega; simp (maxSteps := 2000000) only [am0, am1, am2, am3, amb0, amb1, amb2, amb3, amb4, lwn, drn, callee, wantedB, isW, eff, pev, pst0, retPost, resAll, resP, resV, intP, mkV, putC, pbin, peq, pint, pshift, pstr, pun, pconv, isShift, isConstB, app, subS, lay, rowsOf, lkV, keyKind, keyEq, mfind, mput, oInt, isZeroInt, forall_const, exists_eq_left', implies_true, IntKind.bits, ↓reduceIte, Nat.reduceEqDiff, Nat.reduceAdd, Nat.reduceSub, Nat.reduceMul, Nat.reduceLT, Nat.reduceLeDiff, Nat.reduceBEq, Int.reduceLE, Int.reduceLT, Int.reduceToNat, reduceCtorEq, Ty.all, hs']))
    rw [hM]; rfl
  refine owp_useQ (proper_c (xs := xs) (ss := ss) (Sl.imm _) hp) (by (try simp only [am0, am1, am2, am3, amb0, amb1, amb2, amb3, amb4, lwn, drn, callee, wantedB, isW, eff, pev, pst0, retPost, resAll, resP, resV, intP, mkV, putC, pbin, peq, pint, pshift, pstr, pun, pconv, isShift, isConstB, app, subS, lay, rowsOf, lkV, keyKind, keyEq, mfind, mput, oInt, isZeroInt, forall_const, exists_eq_left', implies_true, IntKind.bits, ↓reduceIte, Nat.reduceEqDiff, Nat.reduceAdd, Nat.reduceSub, Nat.reduceMul, Nat.reduceLT, Nat.reduceLeDiff, Nat.reduceBEq, Int.reduceLE, Int.reduceLT, Int.reduceToNat, reduceCtorEq, hs]); try rfl) ?_
  simp (maxSteps := 2000000) only [am0, am1, am2, am3, amb0, amb1, amb2, amb3, amb4, lwn, drn, callee, wantedB, isW, eff, pev, pst0, retPost, resAll, resP, resV, intP, mkV, putC, pbin, peq, pint, pshift, pstr, pun, pconv, isShift, isConstB, app, subS, lay, rowsOf, lkV, keyKind, keyEq, mfind, mput, oInt, isZeroInt, forall_const, exists_eq_left', implies_true, IntKind.bits, ↓reduceIte, Nat.reduceEqDiff, Nat.reduceAdd, Nat.reduceSub, Nat.reduceMul, Nat.reduceLT, Nat.reduceLeDiff, Nat.reduceBEq, Int.reduceLE, Int.reduceLT, Int.reduceToNat, reduceCtorEq, Ty.all, hs]
  repeat' (first
    | (refine a_seq (fun K hK => ?_))
    | (refine a_block ?_)
    | ((first | refine a_regionS ?_ | refine a_region (fun K hK => ?_) | refine a_ret ?_); simp (maxSteps := 2000000) only [am0, am1, am2, am3, amb0, amb1, amb2, amb3, amb4, lwn, drn, callee, wantedB, isW, eff, pev, pst0, retPost, resAll, resP, resV, intP, mkV, putC, pbin, peq, pint, pshift, pstr, pun, pconv, isShift, isConstB, app, subS, lay, rowsOf, lkV, keyKind, keyEq, mfind, mput, oInt, isZeroInt, forall_const, exists_eq_left', implies_true, IntKind.bits, ↓reduceIte, Nat.reduceEqDiff, Nat.reduceAdd, Nat.reduceSub, Nat.reduceMul, Nat.reduceLT, Nat.reduceLeDiff, Nat.reduceBEq, Int.reduceLE, Int.reduceLT, Int.reduceToNat, reduceCtorEq, Ty.all, hs, hlen, hlk])
    | (refine a_skip ?_; try simp only [pst0, ↓reduceIte, Nat.reduceEqDiff])
    | (refine a_exit ?_; try simp only [pst0, ↓reduceIte, Nat.reduceEqDiff])
    | (refine a_cond _ (by (try simp (maxSteps := 2000000) only [am0, am1, am2, am3, amb0, amb1, amb2, amb3, amb4, lwn, drn, callee, wantedB, isW, eff, pev, pst0, retPost, resAll, resP, resV, intP, mkV, putC, pbin, peq, pint, pshift, pstr, pun, pconv, isShift, isConstB, app, subS, lay, rowsOf, lkV, keyKind, keyEq, mfind, mput, oInt, isZeroInt, forall_const, exists_eq_left', implies_true, IntKind.bits, ↓reduceIte, Nat.reduceEqDiff, Nat.reduceAdd, Nat.reduceSub, Nat.reduceMul, Nat.reduceLT, Nat.reduceLeDiff, Nat.reduceBEq, Int.reduceLE, Int.reduceLT, Int.reduceToNat, reduceCtorEq, Ty.all, hs, hlen, hlk]); rfl) (fun hb => ?_) (fun hb => ?_) <;> (try simp only [hb0, decide_eq_true_eq, decide_eq_false_iff_not, reduceCtorEq] at hb) <;> (try (exfalso; omega)))
    | (with_reducible refine ite_in (fun hb => ?_) (fun hb => ?_) <;> (try simp only [Decidable.not_not] at hb) <;> (try simp only [hb, if_true, if_false, not_false_eq_true, not_true_eq_false, ↓reduceIte]) <;> (try simp only [hb0, decide_eq_true_eq, decide_eq_false_iff_not, reduceCtorEq] at hb) <;> (try (exfalso; omega)))
    | (refine hK _ _ ?_; clear hK; try simp only [pst0, ↓reduceIte, Nat.reduceEqDiff])
    | (clear hK; refine hK _ _ ?_; clear hK; try simp only [pst0, ↓reduceIte, Nat.reduceEqDiff])
    | (clear hK; clear hK; refine hK _ _ ?_; clear hK; try simp only [pst0, ↓reduceIte, Nat.reduceEqDiff])
    | (clear hK; clear hK; clear hK; refine hK _ _ ?_; clear hK; try simp only [pst0, ↓reduceIte, Nat.reduceEqDiff])
    | (rw [if_pos]; rotate_left 1; omega; simp (maxSteps := 2000000) only [am0, am1, am2, am3, amb0, amb1, amb2, amb3, amb4, lwn, drn, callee, wantedB, isW, eff, pev, pst0, retPost, resAll, resP, resV, intP, mkV, putC, pbin, peq, pint, pshift, pstr, pun, pconv, isShift, isConstB, app, subS, lay, rowsOf, lkV, keyKind, keyEq, mfind, mput, oInt, isZeroInt, forall_const, exists_eq_left', implies_true, IntKind.bits, ↓reduceIte, Nat.reduceEqDiff, Nat.reduceAdd, Nat.reduceSub, Nat.reduceMul, Nat.reduceLT, Nat.reduceLeDiff, Nat.reduceBEq, Int.reduceLE, Int.reduceLT, Int.reduceToNat, reduceCtorEq, Ty.all, hs, hlen, hlk]))
  refine a_loop (fun m s h' => h' = G ∧ s 1 = lPV L ∧ s 2 = p ∧ s 14 = .sc (.int .i64 L.length) ∧ ∃ k : Nat, s 15 = .sc (.int .i64 k) ∧ k ≤ L.length ∧ m = L.length - k ∧ ∀ (i : Nat) (x : RE), i < k → L[i]? = some x → x.st ≠ ss) L.length ?_ ?_
  · simp only [am0, am1, am2, am3, amb0, amb1, amb2, amb3, amb4, lwn, drn, callee, wantedB, isW, eff, pev, pst0, retPost, resAll, resP, resV, intP, mkV, putC, pbin, peq, pint, pshift, pstr, pun, pconv, isShift, isConstB, app, subS, lay, rowsOf, lkV, keyKind, keyEq, mfind, mput, oInt, isZeroInt, forall_const, exists_eq_left', implies_true, IntKind.bits, ↓reduceIte, Nat.reduceEqDiff, Nat.reduceAdd, Nat.reduceSub, Nat.reduceMul, Nat.reduceLT, Nat.reduceLeDiff, Nat.reduceBEq, Int.reduceLE, Int.reduceLT, Int.reduceToNat, reduceCtorEq]
    exact ⟨0, rfl, by omega, rfl, by omega⟩
  · rintro m s h' ⟨rfl, g1, g2, g14, k, g15, hk, rfl, hall⟩
    by_cases hlt : k < L.length
    · have hd : decide ((k : Int) < (L.length : Int)) = true := by simp; omega
      have w7 : IntKind.i64.wrap ((k : Int) + 1) = k + 1 := by rw [wrap64 (by omega) (by omega)]
      obtain ⟨x, hx⟩ : ∃ x, L[k]? = some x := ⟨L[k], List.getElem?_eq_getElem hlt⟩
      have hli : lPV L = .imm 4 (L.map refRow) := lPV_imm (by intro e; rw [e] at hlt; simp at hlt)
      repeat' (first
        | (refine a_seq (fun K hK => ?_))
        | (refine a_block ?_)
        | ((first | refine a_regionS ?_ | refine a_region (fun K hK => ?_) | refine a_ret ?_); simp (maxSteps := 2000000) only [am0, am1, am2, am3, amb0, amb1, amb2, amb3, amb4, lwn, drn, callee, wantedB, isW, eff, pev, pst0, retPost, resAll, resP, resV, intP, mkV, putC, pbin, peq, pint, pshift, pstr, pun, pconv, isShift, isConstB, app, subS, lay, rowsOf, lkV, keyKind, keyEq, mfind, mput, oInt, isZeroInt, forall_const, exists_eq_left', implies_true, IntKind.bits, ↓reduceIte, Nat.reduceEqDiff, Nat.reduceAdd, Nat.reduceSub, Nat.reduceMul, Nat.reduceLT, Nat.reduceLeDiff, Nat.reduceBEq, Int.reduceLE, Int.reduceLT, Int.reduceToNat, reduceCtorEq, Ty.all, g1, g2, g14, g15, hd, hli, hx, refRow])
        | (refine a_skip ?_; try simp only [pst0, ↓reduceIte, Nat.reduceEqDiff])
        | (refine a_exit ?_; try simp only [pst0, ↓reduceIte, Nat.reduceEqDiff])
        | (refine a_cond _ (by (try simp (maxSteps := 2000000) only [am0, am1, am2, am3, amb0, amb1, amb2, amb3, amb4, lwn, drn, callee, wantedB, isW, eff, pev, pst0, retPost, resAll, resP, resV, intP, mkV, putC, pbin, peq, pint, pshift, pstr, pun, pconv, isShift, isConstB, app, subS, lay, rowsOf, lkV, keyKind, keyEq, mfind, mput, oInt, isZeroInt, forall_const, exists_eq_left', implies_true, IntKind.bits, ↓reduceIte, Nat.reduceEqDiff, Nat.reduceAdd, Nat.reduceSub, Nat.reduceMul, Nat.reduceLT, Nat.reduceLeDiff, Nat.reduceBEq, Int.reduceLE, Int.reduceLT, Int.reduceToNat, reduceCtorEq, Ty.all, g1, g2, g14, g15, hd, hli, hx, refRow]); rfl) (fun hb => ?_) (fun hb => ?_) <;> (try simp only [hb0, decide_eq_true_eq, decide_eq_false_iff_not, reduceCtorEq] at hb) <;> (try (exfalso; omega)))
        | (with_reducible refine ite_in (fun hb => ?_) (fun hb => ?_) <;> (try simp only [Decidable.not_not] at hb) <;> (try simp only [hb, if_true, if_false, not_false_eq_true, not_true_eq_false, ↓reduceIte]) <;> (try simp only [hb0, decide_eq_true_eq, decide_eq_false_iff_not, reduceCtorEq] at hb) <;> (try (exfalso; omega)))
        | (refine hK _ _ ?_; clear hK; try simp only [pst0, ↓reduceIte, Nat.reduceEqDiff])
        | (clear hK; refine hK _ _ ?_; clear hK; try simp only [pst0, ↓reduceIte, Nat.reduceEqDiff])
        | (clear hK; clear hK; refine hK _ _ ?_; clear hK; try simp only [pst0, ↓reduceIte, Nat.reduceEqDiff])
        | (clear hK; clear hK; clear hK; refine hK _ _ ?_; clear hK; try simp only [pst0, ↓reduceIte, Nat.reduceEqDiff])
        | (rw [if_pos]; rotate_left 1; omega; simp (maxSteps := 2000000) only [am0, am1, am2, am3, amb0, amb1, amb2, amb3, amb4, lwn, drn, callee, wantedB, isW, eff, pev, pst0, retPost, resAll, resP, resV, intP, mkV, putC, pbin, peq, pint, pshift, pstr, pun, pconv, isShift, isConstB, app, subS, lay, rowsOf, lkV, keyKind, keyEq, mfind, mput, oInt, isZeroInt, forall_const, exists_eq_left', implies_true, IntKind.bits, ↓reduceIte, Nat.reduceEqDiff, Nat.reduceAdd, Nat.reduceSub, Nat.reduceMul, Nat.reduceLT, Nat.reduceLeDiff, Nat.reduceBEq, Int.reduceLE, Int.reduceLT, Int.reduceToNat, reduceCtorEq, Ty.all, g1, g2, g14, g15, hd, hli, hx, refRow]))
      by_cases he : x.st = ss
      · have hed : decide (x.st = ss) = true := by simpa using he
        refine owp_useQ (ints_c (xs := x.st) (ss := ss) (Sl.imm _) hp) (by (try simp only [am0, am1, am2, am3, amb0, amb1, amb2, amb3, amb4, lwn, drn, callee, wantedB, isW, eff, pev, pst0, retPost, resAll, resP, resV, intP, mkV, putC, pbin, peq, pint, pshift, pstr, pun, pconv, isShift, isConstB, app, subS, lay, rowsOf, lkV, keyKind, keyEq, mfind, mput, oInt, isZeroInt, forall_const, exists_eq_left', implies_true, IntKind.bits, ↓reduceIte, Nat.reduceEqDiff, Nat.reduceAdd, Nat.reduceSub, Nat.reduceMul, Nat.reduceLT, Nat.reduceLeDiff, Nat.reduceBEq, Int.reduceLE, Int.reduceLT, Int.reduceToNat, reduceCtorEq, hed, g1, g2, g14, g15]); try rfl) ?_
        simp (maxSteps := 2000000) only [am0, am1, am2, am3, amb0, amb1, amb2, amb3, amb4, lwn, drn, callee, wantedB, isW, eff, pev, pst0, retPost, resAll, resP, resV, intP, mkV, putC, pbin, peq, pint, pshift, pstr, pun, pconv, isShift, isConstB, app, subS, lay, rowsOf, lkV, keyKind, keyEq, mfind, mput, oInt, isZeroInt, forall_const, exists_eq_left', implies_true, IntKind.bits, ↓reduceIte, Nat.reduceEqDiff, Nat.reduceAdd, Nat.reduceSub, Nat.reduceMul, Nat.reduceLT, Nat.reduceLeDiff, Nat.reduceBEq, Int.reduceLE, Int.reduceLT, Int.reduceToNat, reduceCtorEq, Ty.all, hed, g1, g2, g14, g15]
        repeat' (first
          | (refine a_seq (fun K hK => ?_))
          | (refine a_block ?_)
          | ((first | refine a_regionS ?_ | refine a_region (fun K hK => ?_) | refine a_ret ?_); simp (maxSteps := 2000000) only [am0, am1, am2, am3, amb0, amb1, amb2, amb3, amb4, lwn, drn, callee, wantedB, isW, eff, pev, pst0, retPost, resAll, resP, resV, intP, mkV, putC, pbin, peq, pint, pshift, pstr, pun, pconv, isShift, isConstB, app, subS, lay, rowsOf, lkV, keyKind, keyEq, mfind, mput, oInt, isZeroInt, forall_const, exists_eq_left', implies_true, IntKind.bits, ↓reduceIte, Nat.reduceEqDiff, Nat.reduceAdd, Nat.reduceSub, Nat.reduceMul, Nat.reduceLT, Nat.reduceLeDiff, Nat.reduceBEq, Int.reduceLE, Int.reduceLT, Int.reduceToNat, reduceCtorEq, Ty.all, hed, g1, g2, g14, g15])
          | (refine a_skip ?_; try simp only [pst0, ↓reduceIte, Nat.reduceEqDiff])
          | (refine a_exit ?_; try simp only [pst0, ↓reduceIte, Nat.reduceEqDiff])
          | (refine a_cond _ (by (try simp (maxSteps := 2000000) only [am0, am1, am2, am3, amb0, amb1, amb2, amb3, amb4, lwn, drn, callee, wantedB, isW, eff, pev, pst0, retPost, resAll, resP, resV, intP, mkV, putC, pbin, peq, pint, pshift, pstr, pun, pconv, isShift, isConstB, app, subS, lay, rowsOf, lkV, keyKind, keyEq, mfind, mput, oInt, isZeroInt, forall_const, exists_eq_left', implies_true, IntKind.bits, ↓reduceIte, Nat.reduceEqDiff, Nat.reduceAdd, Nat.reduceSub, Nat.reduceMul, Nat.reduceLT, Nat.reduceLeDiff, Nat.reduceBEq, Int.reduceLE, Int.reduceLT, Int.reduceToNat, reduceCtorEq, Ty.all, hed, g1, g2, g14, g15]); rfl) (fun hb => ?_) (fun hb => ?_) <;> (try simp only [hb0, decide_eq_true_eq, decide_eq_false_iff_not, reduceCtorEq] at hb) <;> (try (exfalso; omega)))
          | (with_reducible refine ite_in (fun hb => ?_) (fun hb => ?_) <;> (try simp only [Decidable.not_not] at hb) <;> (try simp only [hb, if_true, if_false, not_false_eq_true, not_true_eq_false, ↓reduceIte]) <;> (try simp only [hb0, decide_eq_true_eq, decide_eq_false_iff_not, reduceCtorEq] at hb) <;> (try (exfalso; omega)))
          | (refine hK _ _ ?_; clear hK; try simp only [pst0, ↓reduceIte, Nat.reduceEqDiff])
          | (clear hK; refine hK _ _ ?_; clear hK; try simp only [pst0, ↓reduceIte, Nat.reduceEqDiff])
          | (clear hK; clear hK; refine hK _ _ ?_; clear hK; try simp only [pst0, ↓reduceIte, Nat.reduceEqDiff])
          | (clear hK; clear hK; clear hK; refine hK _ _ ?_; clear hK; try simp only [pst0, ↓reduceIte, Nat.reduceEqDiff])
          | (rw [if_pos]; rotate_left 1; omega; simp (maxSteps := 2000000) only [am0, am1, am2, am3, amb0, amb1, amb2, amb3, amb4, lwn, drn, callee, wantedB, isW, eff, pev, pst0, retPost, resAll, resP, resV, intP, mkV, putC, pbin, peq, pint, pshift, pstr, pun, pconv, isShift, isConstB, app, subS, lay, rowsOf, lkV, keyKind, keyEq, mfind, mput, oInt, isZeroInt, forall_const, exists_eq_left', implies_true, IntKind.bits, ↓reduceIte, Nat.reduceEqDiff, Nat.reduceAdd, Nat.reduceSub, Nat.reduceMul, Nat.reduceLT, Nat.reduceLeDiff, Nat.reduceBEq, Int.reduceLE, Int.reduceLT, Int.reduceToNat, reduceCtorEq, Ty.all, hed, g1, g2, g14, g15]))
        have hM : rfFindM xs L ss = ((k : Int), 0) := by
          unfold rfFindM
          rw [if_pos hs]
          have : L.findIdx? (fun x => decide (x.st = ss)) = some k := by
            rw [List.findIdx?_eq_some_iff_getElem]
            refine ⟨hlt, ?_, fun j hj => ?_⟩
            · rw [List.getElem?_eq_getElem hlt] at hx
              simp only [Option.some.injEq] at hx
              rw [hx]; simpa using he
            · have := hall j L[j] hj (List.getElem?_eq_getElem (by omega))
              simpa using this
          rw [this]
        rw [hM]; rfl
      · have hed : decide (x.st = ss) = false := by simpa using he
        refine owp_useQ (ints_c (xs := x.st) (ss := ss) (Sl.imm _) hp) (by (try simp only [am0, am1, am2, am3, amb0, amb1, amb2, amb3, amb4, lwn, drn, callee, wantedB, isW, eff, pev, pst0, retPost, resAll, resP, resV, intP, mkV, putC, pbin, peq, pint, pshift, pstr, pun, pconv, isShift, isConstB, app, subS, lay, rowsOf, lkV, keyKind, keyEq, mfind, mput, oInt, isZeroInt, forall_const, exists_eq_left', implies_true, IntKind.bits, ↓reduceIte, Nat.reduceEqDiff, Nat.reduceAdd, Nat.reduceSub, Nat.reduceMul, Nat.reduceLT, Nat.reduceLeDiff, Nat.reduceBEq, Int.reduceLE, Int.reduceLT, Int.reduceToNat, reduceCtorEq, hed, g1, g2, g14, g15]); try rfl) ?_
        simp (maxSteps := 2000000) only [am0, am1, am2, am3, amb0, amb1, amb2, amb3, amb4, lwn, drn, callee, wantedB, isW, eff, pev, pst0, retPost, resAll, resP, resV, intP, mkV, putC, pbin, peq, pint, pshift, pstr, pun, pconv, isShift, isConstB, app, subS, lay, rowsOf, lkV, keyKind, keyEq, mfind, mput, oInt, isZeroInt, forall_const, exists_eq_left', implies_true, IntKind.bits, ↓reduceIte, Nat.reduceEqDiff, Nat.reduceAdd, Nat.reduceSub, Nat.reduceMul, Nat.reduceLT, Nat.reduceLeDiff, Nat.reduceBEq, Int.reduceLE, Int.reduceLT, Int.reduceToNat, reduceCtorEq, Ty.all, hed, g1, g2, g14, g15]
        repeat' (first
          | (refine a_seq (fun K hK => ?_))
          | (refine a_block ?_)
          | ((first | refine a_regionS ?_ | refine a_region (fun K hK => ?_) | refine a_ret ?_); simp (maxSteps := 2000000) only [am0, am1, am2, am3, amb0, amb1, amb2, amb3, amb4, lwn, drn, callee, wantedB, isW, eff, pev, pst0, retPost, resAll, resP, resV, intP, mkV, putC, pbin, peq, pint, pshift, pstr, pun, pconv, isShift, isConstB, app, subS, lay, rowsOf, lkV, keyKind, keyEq, mfind, mput, oInt, isZeroInt, forall_const, exists_eq_left', implies_true, IntKind.bits, ↓reduceIte, Nat.reduceEqDiff, Nat.reduceAdd, Nat.reduceSub, Nat.reduceMul, Nat.reduceLT, Nat.reduceLeDiff, Nat.reduceBEq, Int.reduceLE, Int.reduceLT, Int.reduceToNat, reduceCtorEq, Ty.all, hed, g1, g2, g14, g15, w7])
          | (refine a_skip ?_; try simp only [pst0, ↓reduceIte, Nat.reduceEqDiff])
          | (refine a_exit ?_; try simp only [pst0, ↓reduceIte, Nat.reduceEqDiff])
          | (refine a_cond _ (by (try simp (maxSteps := 2000000) only [am0, am1, am2, am3, amb0, amb1, amb2, amb3, amb4, lwn, drn, callee, wantedB, isW, eff, pev, pst0, retPost, resAll, resP, resV, intP, mkV, putC, pbin, peq, pint, pshift, pstr, pun, pconv, isShift, isConstB, app, subS, lay, rowsOf, lkV, keyKind, keyEq, mfind, mput, oInt, isZeroInt, forall_const, exists_eq_left', implies_true, IntKind.bits, ↓reduceIte, Nat.reduceEqDiff, Nat.reduceAdd, Nat.reduceSub, Nat.reduceMul, Nat.reduceLT, Nat.reduceLeDiff, Nat.reduceBEq, Int.reduceLE, Int.reduceLT, Int.reduceToNat, reduceCtorEq, Ty.all, hed, g1, g2, g14, g15, w7]); rfl) (fun hb => ?_) (fun hb => ?_) <;> (try simp only [hb0, decide_eq_true_eq, decide_eq_false_iff_not, reduceCtorEq] at hb) <;> (try (exfalso; omega)))
          | (with_reducible refine ite_in (fun hb => ?_) (fun hb => ?_) <;> (try simp only [Decidable.not_not] at hb) <;> (try simp only [hb, if_true, if_false, not_false_eq_true, not_true_eq_false, ↓reduceIte]) <;> (try simp only [hb0, decide_eq_true_eq, decide_eq_false_iff_not, reduceCtorEq] at hb) <;> (try (exfalso; omega)))
          | (refine hK _ _ ?_; clear hK; try simp only [pst0, ↓reduceIte, Nat.reduceEqDiff])
          | (clear hK; refine hK _ _ ?_; clear hK; try simp only [pst0, ↓reduceIte, Nat.reduceEqDiff])
          | (clear hK; clear hK; refine hK _ _ ?_; clear hK; try simp only [pst0, ↓reduceIte, Nat.reduceEqDiff])
          | (clear hK; clear hK; clear hK; refine hK _ _ ?_; clear hK; try simp only [pst0, ↓reduceIte, Nat.reduceEqDiff])
          | (rw [if_pos]; rotate_left 1; omega; simp (maxSteps := 2000000) only [am0, am1, am2, am3, amb0, amb1, amb2, amb3, amb4, lwn, drn, callee, wantedB, isW, eff, pev, pst0, retPost, resAll, resP, resV, intP, mkV, putC, pbin, peq, pint, pshift, pstr, pun, pconv, isShift, isConstB, app, subS, lay, rowsOf, lkV, keyKind, keyEq, mfind, mput, oInt, isZeroInt, forall_const, exists_eq_left', implies_true, IntKind.bits, ↓reduceIte, Nat.reduceEqDiff, Nat.reduceAdd, Nat.reduceSub, Nat.reduceMul, Nat.reduceLT, Nat.reduceLeDiff, Nat.reduceBEq, Int.reduceLE, Int.reduceLT, Int.reduceToNat, reduceCtorEq, Ty.all, hed, g1, g2, g14, g15, w7]))
        refine ⟨L.length - (k + 1), by omega, k + 1, by rw [show ((k + 1 : Nat) : Int) = k + 1 by omega], by omega, rfl, fun i y hi hy => ?_⟩
        rcases Nat.lt_or_ge i k with h1 | h1
        · exact hall i y h1 hy
        · have : i = k := by omega
          subst this
          rw [hx] at hy
          simp only [Option.some.injEq] at hy
          rw [← hy]; exact he
    · have hd : decide ((k : Int) < (L.length : Int)) = false := by simp; omega
      repeat' (first
        | (refine a_seq (fun K hK => ?_))
        | (refine a_block ?_)
        | ((first | refine a_regionS ?_ | refine a_region (fun K hK => ?_) | refine a_ret ?_); simp (maxSteps := 2000000) only [am0, am1, am2, am3, amb0, amb1, amb2, amb3, amb4, lwn, drn, callee, wantedB, isW, eff, pev, pst0, retPost, resAll, resP, resV, intP, mkV, putC, pbin, peq, pint, pshift, pstr, pun, pconv, isShift, isConstB, app, subS, lay, rowsOf, lkV, keyKind, keyEq, mfind, mput, oInt, isZeroInt, forall_const, exists_eq_left', implies_true, IntKind.bits, ↓reduceIte, Nat.reduceEqDiff, Nat.reduceAdd, Nat.reduceSub, Nat.reduceMul, Nat.reduceLT, Nat.reduceLeDiff, Nat.reduceBEq, Int.reduceLE, Int.reduceLT, Int.reduceToNat, reduceCtorEq, Ty.all, g1, g2, g14, g15, hd])
        | (refine a_skip ?_; try simp only [pst0, ↓reduceIte, Nat.reduceEqDiff])
        | (refine a_exit ?_; try simp only [pst0, ↓reduceIte, Nat.reduceEqDiff])
        | (refine a_cond _ (by (try simp (maxSteps := 2000000) only [am0, am1, am2, am3, amb0, amb1, amb2, amb3, amb4, lwn, drn, callee, wantedB, isW, eff, pev, pst0, retPost, resAll, resP, resV, intP, mkV, putC, pbin, peq, pint, pshift, pstr, pun, pconv, isShift, isConstB, app, subS, lay, rowsOf, lkV, keyKind, keyEq, mfind, mput, oInt, isZeroInt, forall_const, exists_eq_left', implies_true, IntKind.bits, ↓reduceIte, Nat.reduceEqDiff, Nat.reduceAdd, Nat.reduceSub, Nat.reduceMul, Nat.reduceLT, Nat.reduceLeDiff, Nat.reduceBEq, Int.reduceLE, Int.reduceLT, Int.reduceToNat, reduceCtorEq, Ty.all, g1, g2, g14, g15, hd]); rfl) (fun hb => ?_) (fun hb => ?_) <;> (try simp only [hb0, decide_eq_true_eq, decide_eq_false_iff_not, reduceCtorEq] at hb) <;> (try (exfalso; omega)))
        | (with_reducible refine ite_in (fun hb => ?_) (fun hb => ?_) <;> (try simp only [Decidable.not_not] at hb) <;> (try simp only [hb, if_true, if_false, not_false_eq_true, not_true_eq_false, ↓reduceIte]) <;> (try simp only [hb0, decide_eq_true_eq, decide_eq_false_iff_not, reduceCtorEq] at hb) <;> (try (exfalso; omega)))
        | (refine hK _ _ ?_; clear hK; try simp only [pst0, ↓reduceIte, Nat.reduceEqDiff])
        | (clear hK; refine hK _ _ ?_; clear hK; try simp only [pst0, ↓reduceIte, Nat.reduceEqDiff])
        | (clear hK; clear hK; refine hK _ _ ?_; clear hK; try simp only [pst0, ↓reduceIte, Nat.reduceEqDiff])
        | (clear hK; clear hK; clear hK; refine hK _ _ ?_; clear hK; try simp only [pst0, ↓reduceIte, Nat.reduceEqDiff])
        | (rw [if_pos]; rotate_left 1; omega; simp (maxSteps := 2000000) only [am0, am1, am2, am3, amb0, amb1, amb2, amb3, amb4, lwn, drn, callee, wantedB, isW, eff, pev, pst0, retPost, resAll, resP, resV, intP, mkV, putC, pbin, peq, pint, pshift, pstr, pun, pconv, isShift, isConstB, app, subS, lay, rowsOf, lkV, keyKind, keyEq, mfind, mput, oInt, isZeroInt, forall_const, exists_eq_left', implies_true, IntKind.bits, ↓reduceIte, Nat.reduceEqDiff, Nat.reduceAdd, Nat.reduceSub, Nat.reduceMul, Nat.reduceLT, Nat.reduceLeDiff, Nat.reduceBEq, Int.reduceLE, Int.reduceLT, Int.reduceToNat, reduceCtorEq, Ty.all, g1, g2, g14, g15, hd]))
      have hM : rfFindM xs L ss = (0, 3) := by
        unfold rfFindM
        rw [if_pos hs]
        have : L.findIdx? (fun x => decide (x.st = ss)) = none := by
          rw [List.findIdx?_eq_none_iff]
          intro x hx
          obtain ⟨i, hi⟩ := List.getElem?_of_mem hx
          have := hall i x (by have := (List.getElem?_eq_some_iff.1 hi).1; omega) hi
          simpa using this
        rw [this]
      rw [hM]; rfl

theorem frz_row {n : Nat} {h : Heap} (x : RE) : FrzL n h (refRow x) (refRow x) := by
  simp only [refRow, FrzL, FrzTo]
  refine ⟨.inl ⟨trivial, ?_⟩, trivial, trivial, trivial, trivial⟩
  have : ∀ l : List Int, inNR n (rowsI l) := by
    intro l
    induction l with
    | nil => simp [rowsI, inNR]
    | cons a l ih => simpa [rowsI, inNR, inNL, inN] using ih
  exact this _
theorem frz_rows {n : Nat} {h : Heap} : (L : List RE) → FrzR n h (L.map refRow) (L.map refRow)
  | [] => by simp only [List.map_nil, FrzR]
  | x :: L => by simp only [List.map_cons, FrzR]; exact ⟨frz_row x, frz_rows L⟩
theorem frz_app {n : Nat} {h : Heap} {a b : List PV} (hab : FrzL n h a b) : (L : List RE) → FrzR n h (L.map refRow ++ [a]) (L.map refRow ++ [b])
  | [] => by simp only [List.map_nil, List.nil_append, FrzR]; exact ⟨hab, trivial⟩
  | x :: L => by simp only [List.map_cons, List.cons_append, FrzR]; exact ⟨frz_row x, frz_app hab L⟩
theorem frz_lPV {n : Nat} {h : Heap} (L : List RE) : FrzTo n h (lPV L) (lPV L) := by
  cases L with
  | nil => simp only [lPV, nilS, FrzTo]
  | cons x L =>
    simp only [lPV, FrzTo]
    left
    refine ⟨trivial, ?_⟩
    have h1 : ∀ l : List Int, inNR n (rowsI l) := by
      intro l
      induction l with
      | nil => simp [rowsI, inNR]
      | cons a l ih => simpa [rowsI, inNR, inNL, inN] using ih
    have h2 : ∀ L : List RE, inNR n (L.map refRow) := by
      intro L
      induction L with
      | nil => simp only [List.map_nil, inNR]
      | cons x L ih => simp only [List.map_cons, inNR, refRow, inNL, inN]; exact ⟨⟨h1 _, trivial, trivial, trivial, trivial⟩, ih⟩
    exact h2 _
end Go.Proofs.Ytmooliecnbhbjaa
