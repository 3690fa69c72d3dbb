/- pack.Unpack: its state in memory of its own: the walk. -/
import Derived.Test.YtmooliecnbhbjaaPkClone
set_option linter.unusedVariables false
set_option linter.unusedSimpArgs false
set_option linter.unusedSectionVars false
namespace Go.Proofs.Ytmooliecnbhbjaa
open Go.AM
set_option maxHeartbeats 1000000
set_option maxRecDepth 20000

def okU (xs : List Int) (W : List (BitVec 64)) : Prop := W.length = wordsM xs ∧ properM xs (valsM xs W) = true ∧ zeros (restL (fieldsM xs) W) = true
/-- the state, in memory of its own -/
theorem unpack_o {h : Heap} {xs : List Int} {W : List (BitVec 64)} {p : PV} (hp : Sl h 1 p (rowsU W)) (hx : xs.length ≤ 64) : PCall Try.prog 30 [packerPV xs, p] h fun r h' => Keep h h' ∧ ((okU xs W ∧ r = .tup [.own h.next 0 xs.length, nilE] ∧ h'.obj h.next = some (.arr 1 (rowsI (valsM xs W))) ∧ h.next < h'.next) ∨ (¬ okU xs W ∧ r = .tup [nilS, errPV 2])) := by
  refine pcall_wf Ty.hb_30 (fun hwf => ?_)
  have hlen := lenP_sl hp
  have hlk := hp.lk
  have hfl := fieldsM_len xs
  have hw := wordsM_le xs
  rw [rowsU_len] at hlen
  unfold packerPV
  refine pcall_body (ow := fun _ => false) (wf := fun _ => false) Ty.mixed Try.func30 rfl Ty.hb_30 (by rw [Try.ntmps30]; simp) ?_
  rw [Try.ntmps30, Try.results30]
  by_cases hWl : W.length = wordsM xs
  rotate_left
  · have hWl' : ((W.length : Int) != (wordsM xs : Int)) = true := by simp; omega
    repeat' (first
      | (refine a_seq (fun K hK => ?_))
      | (refine a_block ?_)
      | (first | refine a_regionS ?_ | refine a_drawS (by decide +kernel) ?_ | refine a_region (fun K hK => ?_) | refine a_draw (by decide +kernel) (fun K hK => ?_) | refine a_ret ?_)
      | (refine a_skip ?_; try simp only [pst0, ↓reduceIte, Nat.reduceEqDiff])
      | (refine a_exit ?_; try simp only [pst0, ↓reduceIte, Nat.reduceEqDiff])
      | (refine a_cond _ (by (try simp (maxSteps := 2000000) only [am0, am1, am2, am3, amb0, amb1, amb2, amb3, amb4, lwn, drn, callee, wantedB, isW, eff, pev, pst0, retPost, resAll, resP, resV, intP, mkV, putC, pbin, peq, pint, pshift, pstr, pun, pconv, isShift, isConstB, app, subS, lay, rowsOf, lkV, keyKind, keyEq, mfind, mput, oInt, isZeroInt, forall_const, exists_eq_left', implies_true, IntKind.bits, ↓reduceIte, Nat.reduceEqDiff, Nat.reduceAdd, Nat.reduceSub, Nat.reduceMul, Nat.reduceLT, Nat.reduceLeDiff, Nat.reduceBEq, Int.reduceLE, Int.reduceLT, Int.reduceToNat, reduceCtorEq, Ty.all, hlen, hlk, hfl, iPV, hWl']); rfl) (fun hb => ?_) (fun hb => ?_) <;> (try simp only [hb0, decide_eq_true_eq, decide_eq_false_iff_not, reduceCtorEq] at hb) <;> (try (exfalso; omega)))
      | (with_reducible refine ite_in (fun hb => ?_) (fun hb => ?_) <;> (try simp only [Decidable.not_not] at hb) <;> (try simp only [hb, if_true, if_false, not_false_eq_true, not_true_eq_false, ↓reduceIte]) <;> (try simp only [hb0, decide_eq_true_eq, decide_eq_false_iff_not, reduceCtorEq] at hb) <;> (try (exfalso; omega)))
      | (refine hK _ _ ?_; clear hK; try simp only [pst0, ↓reduceIte, Nat.reduceEqDiff])
      | (clear hK; refine hK _ _ ?_; clear hK; try simp only [pst0, ↓reduceIte, Nat.reduceEqDiff])
      | (clear hK; clear hK; refine hK _ _ ?_; clear hK; try simp only [pst0, ↓reduceIte, Nat.reduceEqDiff])
      | (clear hK; clear hK; clear hK; refine hK _ _ ?_; clear hK; try simp only [pst0, ↓reduceIte, Nat.reduceEqDiff])
      | (with_reducible refine a_past _ rfl (by decide +kernel) ?_)
      | (with_reducible refine a_past2 (by simp only [List.forall_mem_cons, am0, am1, am2, am3, amb0, amb1, amb2, amb3, amb4, lwn, drn, callee, wantedB, isW, eff, pev, pst0, retPost, resAll, resP, resV, intP, mkV, putC, pbin, peq, pint, pshift, pstr, pun, pconv, isShift, isConstB, app, subS, lay, rowsOf, lkV, keyKind, keyEq, mfind, mput, oInt, isZeroInt, forall_const, exists_eq_left', implies_true, IntKind.bits, ↓reduceIte, Nat.reduceEqDiff, Nat.reduceAdd, Nat.reduceSub, Nat.reduceMul, Nat.reduceLT, Nat.reduceLeDiff, Nat.reduceBEq, Int.reduceLE, Int.reduceLT, Int.reduceToNat, reduceCtorEq, Ty.all, hlen, hlk, hfl, iPV, hWl']; (repeat' apply And.intro) <;> first | trivial | exact .inl (by decide +kernel)) ?_)
      | (rw [if_pos]; rotate_left 1; omega)
      | (simp (maxSteps := 2000000) only [am0, am1, am2, am3, amb0, amb1, amb2, amb3, amb4, lwn, drn, callee, wantedB, isW, eff, pev, pst0, retPost, resAll, resP, resV, intP, mkV, putC, pbin, peq, pint, pshift, pstr, pun, pconv, isShift, isConstB, app, subS, lay, rowsOf, lkV, keyKind, keyEq, mfind, mput, oInt, isZeroInt, forall_const, exists_eq_left', implies_true, IntKind.bits, ↓reduceIte, Nat.reduceEqDiff, Nat.reduceAdd, Nat.reduceSub, Nat.reduceMul, Nat.reduceLT, Nat.reduceLeDiff, Nat.reduceBEq, Int.reduceLE, Int.reduceLT, Int.reduceToNat, reduceCtorEq, Ty.all, hlen, hlk, hfl, iPV, hWl']))
    exact ⟨Keep.refl h, .inr ⟨fun hh => hWl hh.1, rfl⟩⟩
  have x0 : ¬ ((xs.length : Int) < 0) := by omega
  have hWl' : ((W.length : Int) != (wordsM xs : Int)) = false := by simp; omega
  repeat' (first
    | (refine a_seq (fun K hK => ?_))
    | (refine a_block ?_)
    | (first | refine a_regionS ?_ | refine a_drawS (by decide +kernel) ?_ | refine a_region (fun K hK => ?_) | refine a_draw (by decide +kernel) (fun K hK => ?_) | refine a_ret ?_)
    | (refine a_skip ?_; try simp only [pst0, ↓reduceIte, Nat.reduceEqDiff])
    | (refine a_exit ?_; try simp only [pst0, ↓reduceIte, Nat.reduceEqDiff])
    | (refine a_cond _ (by (try simp (maxSteps := 2000000) only [am0, am1, am2, am3, amb0, amb1, amb2, amb3, amb4, lwn, drn, callee, wantedB, isW, eff, pev, pst0, retPost, resAll, resP, resV, intP, mkV, putC, pbin, peq, pint, pshift, pstr, pun, pconv, isShift, isConstB, app, subS, lay, rowsOf, lkV, keyKind, keyEq, mfind, mput, oInt, isZeroInt, forall_const, exists_eq_left', implies_true, IntKind.bits, ↓reduceIte, Nat.reduceEqDiff, Nat.reduceAdd, Nat.reduceSub, Nat.reduceMul, Nat.reduceLT, Nat.reduceLeDiff, Nat.reduceBEq, Int.reduceLE, Int.reduceLT, Int.reduceToNat, reduceCtorEq, Ty.all, hlen, hlk, hfl, iPV, hWl', x0]); rfl) (fun hb => ?_) (fun hb => ?_) <;> (try simp only [hb0, decide_eq_true_eq, decide_eq_false_iff_not, reduceCtorEq] at hb) <;> (try (exfalso; omega)))
    | (with_reducible refine ite_in (fun hb => ?_) (fun hb => ?_) <;> (try simp only [Decidable.not_not] at hb) <;> (try simp only [hb, if_true, if_false, not_false_eq_true, not_true_eq_false, ↓reduceIte]) <;> (try simp only [hb0, decide_eq_true_eq, decide_eq_false_iff_not, reduceCtorEq] at hb) <;> (try (exfalso; omega)))
    | (refine hK _ _ ?_; clear hK; try simp only [pst0, ↓reduceIte, Nat.reduceEqDiff])
    | (clear hK; refine hK _ _ ?_; clear hK; try simp only [pst0, ↓reduceIte, Nat.reduceEqDiff])
    | (clear hK; clear hK; refine hK _ _ ?_; clear hK; try simp only [pst0, ↓reduceIte, Nat.reduceEqDiff])
    | (clear hK; clear hK; clear hK; refine hK _ _ ?_; clear hK; try simp only [pst0, ↓reduceIte, Nat.reduceEqDiff])
    | (with_reducible refine a_past _ rfl (by decide +kernel) ?_)
    | (with_reducible refine a_past2 (by simp only [List.forall_mem_cons, am0, am1, am2, am3, amb0, amb1, amb2, amb3, amb4, lwn, drn, callee, wantedB, isW, eff, pev, pst0, retPost, resAll, resP, resV, intP, mkV, putC, pbin, peq, pint, pshift, pstr, pun, pconv, isShift, isConstB, app, subS, lay, rowsOf, lkV, keyKind, keyEq, mfind, mput, oInt, isZeroInt, forall_const, exists_eq_left', implies_true, IntKind.bits, ↓reduceIte, Nat.reduceEqDiff, Nat.reduceAdd, Nat.reduceSub, Nat.reduceMul, Nat.reduceLT, Nat.reduceLeDiff, Nat.reduceBEq, Int.reduceLE, Int.reduceLT, Int.reduceToNat, reduceCtorEq, Ty.all, hlen, hlk, hfl, iPV, hWl', x0]; (repeat' apply And.intro) <;> first | trivial | exact .inl (by decide +kernel)) ?_)
    | (rw [if_pos]; rotate_left 1; omega)
    | (simp (maxSteps := 2000000) only [am0, am1, am2, am3, amb0, amb1, amb2, amb3, amb4, lwn, drn, callee, wantedB, isW, eff, pev, pst0, retPost, resAll, resP, resV, intP, mkV, putC, pbin, peq, pint, pshift, pstr, pun, pconv, isShift, isConstB, app, subS, lay, rowsOf, lkV, keyKind, keyEq, mfind, mput, oInt, isZeroInt, forall_const, exists_eq_left', implies_true, IntKind.bits, ↓reduceIte, Nat.reduceEqDiff, Nat.reduceAdd, Nat.reduceSub, Nat.reduceMul, Nat.reduceLT, Nat.reduceLeDiff, Nat.reduceBEq, Int.reduceLE, Int.reduceLT, Int.reduceToNat, reduceCtorEq, Ty.all, hlen, hlk, hfl, iPV, hWl', x0]))
  obtain ⟨H0, hH0⟩ : ∃ H0, H0 = h.new (.arr 1 (List.replicate xs.length [.sc (.int .i64 0)])) := ⟨_, rfl⟩
  have HK0 : Keep h H0 := by rw [hH0]; exact keep_new (Keep.refl h)
  have Hn0 : H0.next = h.next + 1 := by rw [hH0]; rfl
  have Ho0 : H0.obj h.next = some (.arr 1 (List.replicate xs.length [.sc (.int .i64 0)])) := by rw [hH0, new_obj, if_pos rfl]
  rw [← hH0]; clear hH0
  refine owp_useH (clone_c (hp.up hwf HK0) (by omega) (by omega)) (by (try simp only [am0, am1, am2, am3, amb0, amb1, amb2, amb3, amb4, lwn, drn, callee, wantedB, isW, eff, pev, pst0, retPost, resAll, resP, resV, intP, mkV, putC, pbin, peq, pint, pshift, pstr, pun, pconv, isShift, isConstB, app, subS, lay, rowsOf, lkV, keyKind, keyEq, mfind, mput, oInt, isZeroInt, forall_const, exists_eq_left', implies_true, IntKind.bits, ↓reduceIte, Nat.reduceEqDiff, Nat.reduceAdd, Nat.reduceSub, Nat.reduceMul, Nat.reduceLT, Nat.reduceLeDiff, Nat.reduceBEq, Int.reduceLE, Int.reduceLT, Int.reduceToNat, reduceCtorEq, eq_self]); try rfl) ?_
  simp (maxSteps := 2000000) only [am0, am1, am2, am3, amb0, amb1, amb2, amb3, amb4, lwn, drn, callee, wantedB, isW, eff, pev, pst0, retPost, resAll, resP, resV, intP, mkV, putC, pbin, peq, pint, pshift, pstr, pun, pconv, isShift, isConstB, app, subS, lay, rowsOf, lkV, keyKind, keyEq, mfind, mput, oInt, isZeroInt, forall_const, exists_eq_left', implies_true, IntKind.bits, ↓reduceIte, Nat.reduceEqDiff, Nat.reduceAdd, Nat.reduceSub, Nat.reduceMul, Nat.reduceLT, Nat.reduceLeDiff, Nat.reduceBEq, Int.reduceLE, Int.reduceLT, Int.reduceToNat, reduceCtorEq, Ty.all, eq_self]
  repeat' (first
    | (refine a_seq (fun K hK => ?_))
    | (refine a_block ?_)
    | (first | refine a_regionS ?_ | refine a_drawS (by decide +kernel) ?_ | refine a_region (fun K hK => ?_) | refine a_draw (by decide +kernel) (fun K hK => ?_) | refine a_ret ?_)
    | (refine a_skip ?_; try simp only [pst0, ↓reduceIte, Nat.reduceEqDiff])
    | (refine a_exit ?_; try simp only [pst0, ↓reduceIte, Nat.reduceEqDiff])
    | (refine a_cond _ (by (try simp (maxSteps := 2000000) only [am0, am1, am2, am3, amb0, amb1, amb2, amb3, amb4, lwn, drn, callee, wantedB, isW, eff, pev, pst0, retPost, resAll, resP, resV, intP, mkV, putC, pbin, peq, pint, pshift, pstr, pun, pconv, isShift, isConstB, app, subS, lay, rowsOf, lkV, keyKind, keyEq, mfind, mput, oInt, isZeroInt, forall_const, exists_eq_left', implies_true, IntKind.bits, ↓reduceIte, Nat.reduceEqDiff, Nat.reduceAdd, Nat.reduceSub, Nat.reduceMul, Nat.reduceLT, Nat.reduceLeDiff, Nat.reduceBEq, Int.reduceLE, Int.reduceLT, Int.reduceToNat, reduceCtorEq, Ty.all, hfl]); rfl) (fun hb => ?_) (fun hb => ?_) <;> (try simp only [hb0, decide_eq_true_eq, decide_eq_false_iff_not, reduceCtorEq] at hb) <;> (try (exfalso; omega)))
    | (with_reducible refine ite_in (fun hb => ?_) (fun hb => ?_) <;> (try simp only [Decidable.not_not] at hb) <;> (try simp only [hb, if_true, if_false, not_false_eq_true, not_true_eq_false, ↓reduceIte]) <;> (try simp only [hb0, decide_eq_true_eq, decide_eq_false_iff_not, reduceCtorEq] at hb) <;> (try (exfalso; omega)))
    | (refine hK _ _ ?_; clear hK; try simp only [pst0, ↓reduceIte, Nat.reduceEqDiff])
    | (clear hK; refine hK _ _ ?_; clear hK; try simp only [pst0, ↓reduceIte, Nat.reduceEqDiff])
    | (clear hK; clear hK; refine hK _ _ ?_; clear hK; try simp only [pst0, ↓reduceIte, Nat.reduceEqDiff])
    | (clear hK; clear hK; clear hK; refine hK _ _ ?_; clear hK; try simp only [pst0, ↓reduceIte, Nat.reduceEqDiff])
    | (with_reducible refine a_past _ rfl (by decide +kernel) ?_)
    | (with_reducible refine a_past2 (by simp only [List.forall_mem_cons, am0, am1, am2, am3, amb0, amb1, amb2, amb3, amb4, lwn, drn, callee, wantedB, isW, eff, pev, pst0, retPost, resAll, resP, resV, intP, mkV, putC, pbin, peq, pint, pshift, pstr, pun, pconv, isShift, isConstB, app, subS, lay, rowsOf, lkV, keyKind, keyEq, mfind, mput, oInt, isZeroInt, forall_const, exists_eq_left', implies_true, IntKind.bits, ↓reduceIte, Nat.reduceEqDiff, Nat.reduceAdd, Nat.reduceSub, Nat.reduceMul, Nat.reduceLT, Nat.reduceLeDiff, Nat.reduceBEq, Int.reduceLE, Int.reduceLT, Int.reduceToNat, reduceCtorEq, Ty.all, hfl]; (repeat' apply And.intro) <;> first | trivial | exact .inl (by decide +kernel)) ?_)
    | (rw [if_pos]; rotate_left 1; omega)
    | (simp (maxSteps := 2000000) only [am0, am1, am2, am3, amb0, amb1, amb2, amb3, amb4, lwn, drn, callee, wantedB, isW, eff, pev, pst0, retPost, resAll, resP, resV, intP, mkV, putC, pbin, peq, pint, pshift, pstr, pun, pconv, isShift, isConstB, app, subS, lay, rowsOf, lkV, keyKind, keyEq, mfind, mput, oInt, isZeroInt, forall_const, exists_eq_left', implies_true, IntKind.bits, ↓reduceIte, Nat.reduceEqDiff, Nat.reduceAdd, Nat.reduceSub, Nat.reduceMul, Nat.reduceLT, Nat.reduceLeDiff, Nat.reduceBEq, Int.reduceLE, Int.reduceLT, Int.reduceToNat, reduceCtorEq, Ty.all, hfl]))
  refine a_loop (fun m s h' => s 1 = p ∧ s 6 = .own h.next 0 xs.length ∧ s 7 = .own (h.next + 1) 0 (wordsM xs) ∧ s 34 = .imm 4 ((fieldsM xs).map fldCells) ∧ s 35 = .sc (.int .i64 xs.length) ∧ Keep h h' ∧ h.next + 1 < h'.next ∧ ∃ (k : Nat) (S : List Int), s 36 = .sc (.int .i64 k) ∧ k ≤ xs.length ∧ m = xs.length - k ∧ S.length = xs.length ∧ S.take k = (valsM xs W).take k ∧
    (∀ (i : Nat) (F : Fld), (fieldsM xs)[i]? = some F → i < k → (valF W F : Int) < F.size) ∧ h'.obj h.next = some (.arr 1 (rowsI S)) ∧ h'.obj (h.next + 1) = some (.arr 1 (rowsU (restL ((fieldsM xs).take k) W)))) xs.length ?_ ?_
  · try simp only [am0, am1, am2, am3, amb0, amb1, amb2, amb3, amb4, lwn, drn, callee, wantedB, isW, eff, pev, pst0, retPost, resAll, resP, resV, intP, mkV, putC, pbin, peq, pint, pshift, pstr, pun, pconv, isShift, isConstB, app, subS, lay, rowsOf, lkV, keyKind, keyEq, mfind, mput, oInt, isZeroInt, forall_const, exists_eq_left', implies_true, IntKind.bits, ↓reduceIte, Nat.reduceEqDiff, Nat.reduceAdd, Nat.reduceSub, Nat.reduceMul, Nat.reduceLT, Nat.reduceLeDiff, Nat.reduceBEq, Int.reduceLE, Int.reduceLT, Int.reduceToNat, reduceCtorEq]
    refine ⟨by rw [Hn0, hWl], keep_new HK0, by omega, 0, List.replicate xs.length 0, rfl, by omega, rfl, by simp, rfl, by omega, ?_, ?_⟩
    · rw [if_neg (by omega), Ho0]; simp [rowsI]
    · rw [if_pos (by omega)]; rfl
  · rintro m s h' ⟨g1, g6, g7, g34, g35, hkp, hnx, k, S, g36, hk, rfl, hSl, hSt, hall, ho1, ho2⟩
    obtain ⟨R, hR⟩ : ∃ R, R = restL ((fieldsM xs).take k) W := ⟨_, rfl⟩
    have hRl : R.length = wordsM xs := by rw [hR, restL_len]; exact hWl
    rw [← hR] at ho2
    by_cases hlt : k < xs.length
    · obtain ⟨F, hF, hF1, hF2, hF3, hF4⟩ := fieldsM_get hlt
      have hw6 := widthM_le xs[k]
      have hRn : restL ((fieldsM xs).take (k + 1)) W = restF R F := by
        have hkf : k < (fieldsM xs).length := by omega
        rw [List.take_succ_eq_append_getElem hkf]
        have : (fieldsM xs)[k] = F := by
          rw [List.getElem?_eq_getElem hkf] at hF; simpa using hF
        rw [this, hR]
        simp [restL, List.foldl_append]
      have hval : valF W F = getN (W[F.word]'(by omega)) F.bit F.width := by simp [valF, List.getD, hWl, hF4]
      have w7 : IntKind.i64.wrap ((k : Int) + 1) = k + 1 := wrap64 (by omega) (by omega)
      repeat' (first
        | (refine a_seq (fun K hK => ?_))
        | (refine a_block ?_)
        | (first | refine a_regionS ?_ | refine a_drawS (by decide +kernel) ?_ | refine a_region (fun K hK => ?_) | refine a_draw (by decide +kernel) (fun K hK => ?_) | refine a_ret ?_)
        | (refine a_skip ?_; try simp only [pst0, ↓reduceIte, Nat.reduceEqDiff])
        | (refine a_exit ?_; try simp only [pst0, ↓reduceIte, Nat.reduceEqDiff])
        | (refine a_cond _ (by (try simp (maxSteps := 2000000) only [am0, am1, am2, am3, amb0, amb1, amb2, amb3, amb4, lwn, drn, callee, wantedB, isW, eff, pev, pst0, retPost, resAll, resP, resV, intP, mkV, putC, pbin, peq, pint, pshift, pstr, pun, pconv, isShift, isConstB, app, subS, lay, rowsOf, lkV, keyKind, keyEq, mfind, mput, oInt, isZeroInt, forall_const, exists_eq_left', implies_true, IntKind.bits, ↓reduceIte, Nat.reduceEqDiff, Nat.reduceAdd, Nat.reduceSub, Nat.reduceMul, Nat.reduceLT, Nat.reduceLeDiff, Nat.reduceBEq, Int.reduceLE, Int.reduceLT, Int.reduceToNat, reduceCtorEq, Ty.all, g1, g6, g7, g34, g35, g36]); rfl) (fun hb => ?_) (fun hb => ?_) <;> (try simp only [hb0, decide_eq_true_eq, decide_eq_false_iff_not, reduceCtorEq] at hb) <;> (try (exfalso; omega)))
        | (with_reducible refine ite_in (fun hb => ?_) (fun hb => ?_) <;> (try simp only [Decidable.not_not] at hb) <;> (try simp only [hb, if_true, if_false, not_false_eq_true, not_true_eq_false, ↓reduceIte]) <;> (try simp only [hb0, decide_eq_true_eq, decide_eq_false_iff_not, reduceCtorEq] at hb) <;> (try (exfalso; omega)))
        | (refine hK _ _ ?_; clear hK; try simp only [pst0, ↓reduceIte, Nat.reduceEqDiff])
        | (clear hK; refine hK _ _ ?_; clear hK; try simp only [pst0, ↓reduceIte, Nat.reduceEqDiff])
        | (clear hK; clear hK; refine hK _ _ ?_; clear hK; try simp only [pst0, ↓reduceIte, Nat.reduceEqDiff])
        | (clear hK; clear hK; clear hK; refine hK _ _ ?_; clear hK; try simp only [pst0, ↓reduceIte, Nat.reduceEqDiff])
        | (with_reducible refine a_past _ rfl (by decide +kernel) ?_)
        | (with_reducible refine a_past2 (by simp only [List.forall_mem_cons, am0, am1, am2, am3, amb0, amb1, amb2, amb3, amb4, lwn, drn, callee, wantedB, isW, eff, pev, pst0, retPost, resAll, resP, resV, intP, mkV, putC, pbin, peq, pint, pshift, pstr, pun, pconv, isShift, isConstB, app, subS, lay, rowsOf, lkV, keyKind, keyEq, mfind, mput, oInt, isZeroInt, forall_const, exists_eq_left', implies_true, IntKind.bits, ↓reduceIte, Nat.reduceEqDiff, Nat.reduceAdd, Nat.reduceSub, Nat.reduceMul, Nat.reduceLT, Nat.reduceLeDiff, Nat.reduceBEq, Int.reduceLE, Int.reduceLT, Int.reduceToNat, reduceCtorEq, Ty.all, g1, g6, g7, g34, g35, g36]; (repeat' apply And.intro) <;> first | trivial | exact .inl (by decide +kernel)) ?_)
        | (rw [if_pos]; rotate_left 1; omega)
        | (simp (maxSteps := 2000000) only [am0, am1, am2, am3, amb0, amb1, amb2, amb3, amb4, lwn, drn, callee, wantedB, isW, eff, pev, pst0, retPost, resAll, resP, resV, intP, mkV, putC, pbin, peq, pint, pshift, pstr, pun, pconv, isShift, isConstB, app, subS, lay, rowsOf, lkV, keyKind, keyEq, mfind, mput, oInt, isZeroInt, forall_const, exists_eq_left', implies_true, IntKind.bits, ↓reduceIte, Nat.reduceEqDiff, Nat.reduceAdd, Nat.reduceSub, Nat.reduceMul, Nat.reduceLT, Nat.reduceLeDiff, Nat.reduceBEq, Int.reduceLE, Int.reduceLT, Int.reduceToNat, reduceCtorEq, Ty.all, g1, g6, g7, g34, g35, g36]))
      try simp only [am0, am1, am2, am3, amb0, amb1, amb2, amb3, amb4, lwn, drn, callee, wantedB, isW, eff, pev, pst0, retPost, resAll, resP, resV, intP, mkV, putC, pbin, peq, pint, pshift, pstr, pun, pconv, isShift, isConstB, app, subS, lay, rowsOf, lkV, keyKind, keyEq, mfind, mput, oInt, isZeroInt, forall_const, exists_eq_left', implies_true, IntKind.bits, ↓reduceIte, Nat.reduceEqDiff, Nat.reduceAdd, Nat.reduceSub, Nat.reduceMul, Nat.reduceLT, Nat.reduceLeDiff, Nat.reduceBEq, Int.reduceLE, Int.reduceLT, Int.reduceToNat, reduceCtorEq, Ty.all, hF, fldCells, iPV]
      obtain ⟨H, hH⟩ : ∃ H, H = (h'.new (.arr 4 [[.sc (.int .i64 0), .sc (.int .i64 0), .sc (.int .i64 0), .sc (.int .i64 0)]])).set h'.next (.arr 4 [[.sc (.int .i64 F.word), .sc (.int .i64 F.bit), .sc (.int .i64 F.width), .sc (.int .i64 F.size)]]) := ⟨_, rfl⟩
      have HK : Keep h H := by rw [hH]; exact keep_set hkp.1 (keep_new hkp)
      have n1 : ¬ (h.next = h'.next) := by omega
      have n1' : ¬ (h'.next = h.next) := by omega
      have n2 : ¬ (h.next + 1 = h'.next) := by omega
      have n2' : ¬ (h'.next = h.next + 1) := by omega
      have n3 : ¬ (h.next = h.next + 1) := by omega
      have n3' : ¬ (h.next + 1 = h.next) := by omega
      have H1 : H.obj h.next = some (.arr 1 (rowsI S)) := by rw [hH, set_obj, if_neg n1, new_obj, if_neg n1]; exact ho1
      have H2 : H.obj (h.next + 1) = some (.arr 1 (rowsU R)) := by rw [hH, set_obj, if_neg n2, new_obj, if_neg n2]; exact ho2
      have H3 : H.obj h'.next = some (.arr 4 [[.sc (.int .i64 F.word), .sc (.int .i64 F.bit), .sc (.int .i64 F.width), .sc (.int .i64 F.size)]]) := by rw [hH, set_obj, if_pos rfl]
      have H4 : H.next = h'.next + 1 := by rw [hH]; rfl
      rw [← hH]; clear hH
      have hSk : (S.set k (valF W F : Int)).length = xs.length := by rw [List.length_set]; exact hSl
      have hSg : (rowsI (S.set k (valF W F : Int)))[k]? = some [.sc (.int .i64 (valF W F))] := by
        rw [rowsI_get (by omega), List.getElem_set_self]
      have hSg0 := rowsI_get (xs := S) (i := k) (by omega)
      have hWg := rowsU_get (xs := R) (i := F.word) (by omega)
      have hget : R.getD F.word 0 = R[F.word]'(by omega) := by simp [List.getD, hRl, hF4]
      repeat' (first
        | (refine a_seq (fun K hK => ?_))
        | (refine a_block ?_)
        | (first | refine a_regionS ?_ | refine a_drawS (by decide +kernel) ?_ | refine a_region (fun K hK => ?_) | refine a_draw (by decide +kernel) (fun K hK => ?_) | refine a_ret ?_)
        | (refine a_skip ?_; try simp only [pst0, ↓reduceIte, Nat.reduceEqDiff])
        | (refine a_exit ?_; try simp only [pst0, ↓reduceIte, Nat.reduceEqDiff])
        | (refine a_cond _ (by (try simp (maxSteps := 2000000) only [am0, am1, am2, am3, amb0, amb1, amb2, amb3, amb4, lwn, drn, callee, wantedB, isW, eff, pev, pst0, retPost, resAll, resP, resV, intP, mkV, putC, pbin, peq, pint, pshift, pstr, pun, pconv, isShift, isConstB, app, subS, lay, rowsOf, lkV, keyKind, keyEq, mfind, mput, oInt, isZeroInt, forall_const, exists_eq_left', implies_true, IntKind.bits, ↓reduceIte, Nat.reduceEqDiff, Nat.reduceAdd, Nat.reduceSub, Nat.reduceMul, Nat.reduceLT, Nat.reduceLeDiff, Nat.reduceBEq, Int.reduceLE, Int.reduceLT, Int.reduceToNat, reduceCtorEq, Ty.all, g1, g6, g7, g34, g35, g36, H1, H2, H3]); rfl) (fun hb => ?_) (fun hb => ?_) <;> (try simp only [hb0, decide_eq_true_eq, decide_eq_false_iff_not, reduceCtorEq] at hb) <;> (try (exfalso; omega)))
        | (with_reducible refine ite_in (fun hb => ?_) (fun hb => ?_) <;> (try simp only [Decidable.not_not] at hb) <;> (try simp only [hb, if_true, if_false, not_false_eq_true, not_true_eq_false, ↓reduceIte]) <;> (try simp only [hb0, decide_eq_true_eq, decide_eq_false_iff_not, reduceCtorEq] at hb) <;> (try (exfalso; omega)))
        | (refine hK _ _ ?_; clear hK; try simp only [pst0, ↓reduceIte, Nat.reduceEqDiff])
        | (clear hK; refine hK _ _ ?_; clear hK; try simp only [pst0, ↓reduceIte, Nat.reduceEqDiff])
        | (clear hK; clear hK; refine hK _ _ ?_; clear hK; try simp only [pst0, ↓reduceIte, Nat.reduceEqDiff])
        | (clear hK; clear hK; clear hK; refine hK _ _ ?_; clear hK; try simp only [pst0, ↓reduceIte, Nat.reduceEqDiff])
        | (with_reducible refine a_past _ rfl (by decide +kernel) ?_)
        | (with_reducible refine a_past2 (by simp only [List.forall_mem_cons, am0, am1, am2, am3, amb0, amb1, amb2, amb3, amb4, lwn, drn, callee, wantedB, isW, eff, pev, pst0, retPost, resAll, resP, resV, intP, mkV, putC, pbin, peq, pint, pshift, pstr, pun, pconv, isShift, isConstB, app, subS, lay, rowsOf, lkV, keyKind, keyEq, mfind, mput, oInt, isZeroInt, forall_const, exists_eq_left', implies_true, IntKind.bits, ↓reduceIte, Nat.reduceEqDiff, Nat.reduceAdd, Nat.reduceSub, Nat.reduceMul, Nat.reduceLT, Nat.reduceLeDiff, Nat.reduceBEq, Int.reduceLE, Int.reduceLT, Int.reduceToNat, reduceCtorEq, Ty.all, g1, g6, g7, g34, g35, g36, H1, H2, H3]; (repeat' apply And.intro) <;> first | trivial | exact .inl (by decide +kernel)) ?_)
        | (rw [if_pos]; rotate_left 1; omega)
        | (simp (maxSteps := 2000000) only [am0, am1, am2, am3, amb0, amb1, amb2, amb3, amb4, lwn, drn, callee, wantedB, isW, eff, pev, pst0, retPost, resAll, resP, resV, intP, mkV, putC, pbin, peq, pint, pshift, pstr, pun, pconv, isShift, isConstB, app, subS, lay, rowsOf, lkV, keyKind, keyEq, mfind, mput, oInt, isZeroInt, forall_const, exists_eq_left', implies_true, IntKind.bits, ↓reduceIte, Nat.reduceEqDiff, Nat.reduceAdd, Nat.reduceSub, Nat.reduceMul, Nat.reduceLT, Nat.reduceLeDiff, Nat.reduceBEq, Int.reduceLE, Int.reduceLT, Int.reduceToNat, reduceCtorEq, Ty.all, g1, g6, g7, g34, g35, g36, H1, H2, H3]))
      refine owp_useQ (get_c (F := F) (hp.up hwf HK) (by omega) hF3 (by omega)) (by (try simp only [am0, am1, am2, am3, amb0, amb1, amb2, amb3, amb4, lwn, drn, callee, wantedB, isW, eff, pev, pst0, retPost, resAll, resP, resV, intP, mkV, putC, pbin, peq, pint, pshift, pstr, pun, pconv, isShift, isConstB, app, subS, lay, rowsOf, lkV, keyKind, keyEq, mfind, mput, oInt, isZeroInt, forall_const, exists_eq_left', implies_true, IntKind.bits, ↓reduceIte, Nat.reduceEqDiff, Nat.reduceAdd, Nat.reduceSub, Nat.reduceMul, Nat.reduceLT, Nat.reduceLeDiff, Nat.reduceBEq, Int.reduceLE, Int.reduceLT, Int.reduceToNat, reduceCtorEq, g1, g6, g7, g34, g35, g36, H1, H2, H3, fldCells, iPV]); try rfl) ?_
      simp (maxSteps := 2000000) only [am0, am1, am2, am3, amb0, amb1, amb2, amb3, amb4, lwn, drn, callee, wantedB, isW, eff, pev, pst0, retPost, resAll, resP, resV, intP, mkV, putC, pbin, peq, pint, pshift, pstr, pun, pconv, isShift, isConstB, app, subS, lay, rowsOf, lkV, keyKind, keyEq, mfind, mput, oInt, isZeroInt, forall_const, exists_eq_left', implies_true, IntKind.bits, ↓reduceIte, Nat.reduceEqDiff, Nat.reduceAdd, Nat.reduceSub, Nat.reduceMul, Nat.reduceLT, Nat.reduceLeDiff, Nat.reduceBEq, Int.reduceLE, Int.reduceLT, Int.reduceToNat, reduceCtorEq, Ty.all, g1, g6, g7, g34, g35, g36, H1, H2, H3, fldCells, iPV]
      rw [← hval]
      by_cases hv : (valF W F : Int) < F.size
      rotate_left
      · have hv' : decide ((valF W F : Int) ≥ F.size) = true := by simp; omega
        repeat' (first
          | (refine a_seq (fun K hK => ?_))
          | (refine a_block ?_)
          | (first | refine a_regionS ?_ | refine a_drawS (by decide +kernel) ?_ | refine a_region (fun K hK => ?_) | refine a_draw (by decide +kernel) (fun K hK => ?_) | refine a_ret ?_)
          | (refine a_skip ?_; try simp only [pst0, ↓reduceIte, Nat.reduceEqDiff])
          | (refine a_exit ?_; try simp only [pst0, ↓reduceIte, Nat.reduceEqDiff])
          | (refine a_cond _ (by (try simp (maxSteps := 2000000) only [am0, am1, am2, am3, amb0, amb1, amb2, amb3, amb4, lwn, drn, callee, wantedB, isW, eff, pev, pst0, retPost, resAll, resP, resV, intP, mkV, putC, pbin, peq, pint, pshift, pstr, pun, pconv, isShift, isConstB, app, subS, lay, rowsOf, lkV, keyKind, keyEq, mfind, mput, oInt, isZeroInt, forall_const, exists_eq_left', implies_true, IntKind.bits, ↓reduceIte, Nat.reduceEqDiff, Nat.reduceAdd, Nat.reduceSub, Nat.reduceMul, Nat.reduceLT, Nat.reduceLeDiff, Nat.reduceBEq, Int.reduceLE, Int.reduceLT, Int.reduceToNat, reduceCtorEq, Ty.all, g1, g6, g7, g34, g35, g36, H1, H2, H3, hSg0, hSg, rowsI_set, putC, n1, n1', n2, n2', n3, n3', hv', hSl]); rfl) (fun hb => ?_) (fun hb => ?_) <;> (try simp only [hb0, decide_eq_true_eq, decide_eq_false_iff_not, reduceCtorEq] at hb) <;> (try (exfalso; omega)))
          | (with_reducible refine ite_in (fun hb => ?_) (fun hb => ?_) <;> (try simp only [Decidable.not_not] at hb) <;> (try simp only [hb, if_true, if_false, not_false_eq_true, not_true_eq_false, ↓reduceIte]) <;> (try simp only [hb0, decide_eq_true_eq, decide_eq_false_iff_not, reduceCtorEq] at hb) <;> (try (exfalso; omega)))
          | (refine hK _ _ ?_; clear hK; try simp only [pst0, ↓reduceIte, Nat.reduceEqDiff])
          | (clear hK; refine hK _ _ ?_; clear hK; try simp only [pst0, ↓reduceIte, Nat.reduceEqDiff])
          | (clear hK; clear hK; refine hK _ _ ?_; clear hK; try simp only [pst0, ↓reduceIte, Nat.reduceEqDiff])
          | (clear hK; clear hK; clear hK; refine hK _ _ ?_; clear hK; try simp only [pst0, ↓reduceIte, Nat.reduceEqDiff])
          | (with_reducible refine a_past _ rfl (by decide +kernel) ?_)
          | (with_reducible refine a_past2 (by simp only [List.forall_mem_cons, am0, am1, am2, am3, amb0, amb1, amb2, amb3, amb4, lwn, drn, callee, wantedB, isW, eff, pev, pst0, retPost, resAll, resP, resV, intP, mkV, putC, pbin, peq, pint, pshift, pstr, pun, pconv, isShift, isConstB, app, subS, lay, rowsOf, lkV, keyKind, keyEq, mfind, mput, oInt, isZeroInt, forall_const, exists_eq_left', implies_true, IntKind.bits, ↓reduceIte, Nat.reduceEqDiff, Nat.reduceAdd, Nat.reduceSub, Nat.reduceMul, Nat.reduceLT, Nat.reduceLeDiff, Nat.reduceBEq, Int.reduceLE, Int.reduceLT, Int.reduceToNat, reduceCtorEq, Ty.all, g1, g6, g7, g34, g35, g36, H1, H2, H3, hSg0, hSg, rowsI_set, putC, n1, n1', n2, n2', n3, n3', hv', hSl]; (repeat' apply And.intro) <;> first | trivial | exact .inl (by decide +kernel)) ?_)
          | (rw [if_pos]; rotate_left 1; omega)
          | (simp (maxSteps := 2000000) only [am0, am1, am2, am3, amb0, amb1, amb2, amb3, amb4, lwn, drn, callee, wantedB, isW, eff, pev, pst0, retPost, resAll, resP, resV, intP, mkV, putC, pbin, peq, pint, pshift, pstr, pun, pconv, isShift, isConstB, app, subS, lay, rowsOf, lkV, keyKind, keyEq, mfind, mput, oInt, isZeroInt, forall_const, exists_eq_left', implies_true, IntKind.bits, ↓reduceIte, Nat.reduceEqDiff, Nat.reduceAdd, Nat.reduceSub, Nat.reduceMul, Nat.reduceLT, Nat.reduceLeDiff, Nat.reduceBEq, Int.reduceLE, Int.reduceLT, Int.reduceToNat, reduceCtorEq, Ty.all, g1, g6, g7, g34, g35, g36, H1, H2, H3, hSg0, hSg, rowsI_set, putC, n1, n1', n2, n2', n3, n3', hv', hSl]))
        exact ⟨keep_set (Nat.le_refl _) HK, .inr ⟨fun hh => hv (proper_vals.1 hh.2.1 k F hF), rfl⟩⟩
      · have hv' : decide ((valF W F : Int) ≥ F.size) = false := by simp; omega
        repeat' (first
          | (refine a_seq (fun K hK => ?_))
          | (refine a_block ?_)
          | (first | refine a_regionS ?_ | refine a_drawS (by decide +kernel) ?_ | refine a_region (fun K hK => ?_) | refine a_draw (by decide +kernel) (fun K hK => ?_) | refine a_ret ?_)
          | (refine a_skip ?_; try simp only [pst0, ↓reduceIte, Nat.reduceEqDiff])
          | (refine a_exit ?_; try simp only [pst0, ↓reduceIte, Nat.reduceEqDiff])
          | (refine a_cond _ (by (try simp (maxSteps := 2000000) only [am0, am1, am2, am3, amb0, amb1, amb2, amb3, amb4, lwn, drn, callee, wantedB, isW, eff, pev, pst0, retPost, resAll, resP, resV, intP, mkV, putC, pbin, peq, pint, pshift, pstr, pun, pconv, isShift, isConstB, app, subS, lay, rowsOf, lkV, keyKind, keyEq, mfind, mput, oInt, isZeroInt, forall_const, exists_eq_left', implies_true, IntKind.bits, ↓reduceIte, Nat.reduceEqDiff, Nat.reduceAdd, Nat.reduceSub, Nat.reduceMul, Nat.reduceLT, Nat.reduceLeDiff, Nat.reduceBEq, Int.reduceLE, Int.reduceLT, Int.reduceToNat, reduceCtorEq, Ty.all, g1, g6, g7, g34, g35, g36, H1, H2, H3, hSg0, hSg, rowsI_set, putC, n1, n1', n2, n2', n3, n3', hv', hSl, hWg]); rfl) (fun hb => ?_) (fun hb => ?_) <;> (try simp only [hb0, decide_eq_true_eq, decide_eq_false_iff_not, reduceCtorEq] at hb) <;> (try (exfalso; omega)))
          | (with_reducible refine ite_in (fun hb => ?_) (fun hb => ?_) <;> (try simp only [Decidable.not_not] at hb) <;> (try simp only [hb, if_true, if_false, not_false_eq_true, not_true_eq_false, ↓reduceIte]) <;> (try simp only [hb0, decide_eq_true_eq, decide_eq_false_iff_not, reduceCtorEq] at hb) <;> (try (exfalso; omega)))
          | (refine hK _ _ ?_; clear hK; try simp only [pst0, ↓reduceIte, Nat.reduceEqDiff])
          | (clear hK; refine hK _ _ ?_; clear hK; try simp only [pst0, ↓reduceIte, Nat.reduceEqDiff])
          | (clear hK; clear hK; refine hK _ _ ?_; clear hK; try simp only [pst0, ↓reduceIte, Nat.reduceEqDiff])
          | (clear hK; clear hK; clear hK; refine hK _ _ ?_; clear hK; try simp only [pst0, ↓reduceIte, Nat.reduceEqDiff])
          | (with_reducible refine a_past _ rfl (by decide +kernel) ?_)
          | (with_reducible refine a_past2 (by simp only [List.forall_mem_cons, am0, am1, am2, am3, amb0, amb1, amb2, amb3, amb4, lwn, drn, callee, wantedB, isW, eff, pev, pst0, retPost, resAll, resP, resV, intP, mkV, putC, pbin, peq, pint, pshift, pstr, pun, pconv, isShift, isConstB, app, subS, lay, rowsOf, lkV, keyKind, keyEq, mfind, mput, oInt, isZeroInt, forall_const, exists_eq_left', implies_true, IntKind.bits, ↓reduceIte, Nat.reduceEqDiff, Nat.reduceAdd, Nat.reduceSub, Nat.reduceMul, Nat.reduceLT, Nat.reduceLeDiff, Nat.reduceBEq, Int.reduceLE, Int.reduceLT, Int.reduceToNat, reduceCtorEq, Ty.all, g1, g6, g7, g34, g35, g36, H1, H2, H3, hSg0, hSg, rowsI_set, putC, n1, n1', n2, n2', n3, n3', hv', hSl, hWg]; (repeat' apply And.intro) <;> first | trivial | exact .inl (by decide +kernel)) ?_)
          | (rw [if_pos]; rotate_left 1; omega)
          | (simp (maxSteps := 2000000) only [am0, am1, am2, am3, amb0, amb1, amb2, amb3, amb4, lwn, drn, callee, wantedB, isW, eff, pev, pst0, retPost, resAll, resP, resV, intP, mkV, putC, pbin, peq, pint, pshift, pstr, pun, pconv, isShift, isConstB, app, subS, lay, rowsOf, lkV, keyKind, keyEq, mfind, mput, oInt, isZeroInt, forall_const, exists_eq_left', implies_true, IntKind.bits, ↓reduceIte, Nat.reduceEqDiff, Nat.reduceAdd, Nat.reduceSub, Nat.reduceMul, Nat.reduceLT, Nat.reduceLeDiff, Nat.reduceBEq, Int.reduceLE, Int.reduceLT, Int.reduceToNat, reduceCtorEq, Ty.all, g1, g6, g7, g34, g35, g36, H1, H2, H3, hSg0, hSg, rowsI_set, putC, n1, n1', n2, n2', n3, n3', hv', hSl, hWg]))
        first
          | refine a_dcall0 (mask_c (F := F)) (by (try simp only [am0, am1, am2, am3, amb0, amb1, amb2, amb3, amb4, lwn, drn, callee, wantedB, isW, eff, pev, pst0, retPost, resAll, resP, resV, intP, mkV, putC, pbin, peq, pint, pshift, pstr, pun, pconv, isShift, isConstB, app, subS, lay, rowsOf, lkV, keyKind, keyEq, mfind, mput, oInt, isZeroInt, forall_const, exists_eq_left', implies_true, IntKind.bits, ↓reduceIte, Nat.reduceEqDiff, Nat.reduceAdd, Nat.reduceSub, Nat.reduceMul, Nat.reduceLT, Nat.reduceLeDiff, Nat.reduceBEq, Int.reduceLE, Int.reduceLT, Int.reduceToNat, reduceCtorEq, g1, g6, g7, g34, g35, g36, H1, H2, H3, n1, n1', n2, n2', n3, n3', fldCells, iPV, uPV, hWg, putC]); try rfl) ?_
          | refine a_dcallA (mask_c (F := F)) (by (try simp only [am0, am1, am2, am3, amb0, amb1, amb2, amb3, amb4, lwn, drn, callee, wantedB, isW, eff, pev, pst0, retPost, resAll, resP, resV, intP, mkV, putC, pbin, peq, pint, pshift, pstr, pun, pconv, isShift, isConstB, app, subS, lay, rowsOf, lkV, keyKind, keyEq, mfind, mput, oInt, isZeroInt, forall_const, exists_eq_left', implies_true, IntKind.bits, ↓reduceIte, Nat.reduceEqDiff, Nat.reduceAdd, Nat.reduceSub, Nat.reduceMul, Nat.reduceLT, Nat.reduceLeDiff, Nat.reduceBEq, Int.reduceLE, Int.reduceLT, Int.reduceToNat, reduceCtorEq, g1, g6, g7, g34, g35, g36, H1, H2, H3, n1, n1', n2, n2', n3, n3', fldCells, iPV, uPV, hWg, putC]); try rfl) (by simp only [am0, am1, am2, am3, amb0, amb1, amb2, amb3, amb4, lwn, drn, callee, wantedB, isW, eff, pev, pst0, retPost, resAll, resP, resV, intP, mkV, putC, pbin, peq, pint, pshift, pstr, pun, pconv, isShift, isConstB, app, subS, lay, rowsOf, lkV, keyKind, keyEq, mfind, mput, oInt, isZeroInt, forall_const, exists_eq_left', implies_true, IntKind.bits, ↓reduceIte, Nat.reduceEqDiff, Nat.reduceAdd, Nat.reduceSub, Nat.reduceMul, Nat.reduceLT, Nat.reduceLeDiff, Nat.reduceBEq, Int.reduceLE, Int.reduceLT, Int.reduceToNat, reduceCtorEq, Ty.all, g1, g6, g7, g34, g35, g36, H1, H2, H3, n1, n1', n2, n2', n3, n3', fldCells, iPV, uPV, hWg, putC]; try trivial) ?_
        simp (maxSteps := 2000000) only [am0, am1, am2, am3, amb0, amb1, amb2, amb3, amb4, lwn, drn, callee, wantedB, isW, eff, pev, pst0, retPost, resAll, resP, resV, intP, mkV, putC, pbin, peq, pint, pshift, pstr, pun, pconv, isShift, isConstB, app, subS, lay, rowsOf, lkV, keyKind, keyEq, mfind, mput, oInt, isZeroInt, forall_const, exists_eq_left', implies_true, IntKind.bits, ↓reduceIte, Nat.reduceEqDiff, Nat.reduceAdd, Nat.reduceSub, Nat.reduceMul, Nat.reduceLT, Nat.reduceLeDiff, Nat.reduceBEq, Int.reduceLE, Int.reduceLT, Int.reduceToNat, reduceCtorEq, Ty.all, Option.getD_some, g1, g6, g7, g34, g35, g36, H1, H2, H3, n1, n1', n2, n2', n3, n3', fldCells, iPV, uPV, hWg, putC]
        repeat' (first
          | (refine a_seq (fun K hK => ?_))
          | (refine a_block ?_)
          | (first | refine a_regionS ?_ | refine a_drawS (by decide +kernel) ?_ | refine a_region (fun K hK => ?_) | refine a_draw (by decide +kernel) (fun K hK => ?_) | refine a_ret ?_)
          | (refine a_skip ?_; try simp only [pst0, ↓reduceIte, Nat.reduceEqDiff])
          | (refine a_exit ?_; try simp only [pst0, ↓reduceIte, Nat.reduceEqDiff])
          | (refine a_cond _ (by (try simp (maxSteps := 2000000) only [am0, am1, am2, am3, amb0, amb1, amb2, amb3, amb4, lwn, drn, callee, wantedB, isW, eff, pev, pst0, retPost, resAll, resP, resV, intP, mkV, putC, pbin, peq, pint, pshift, pstr, pun, pconv, isShift, isConstB, app, subS, lay, rowsOf, lkV, keyKind, keyEq, mfind, mput, oInt, isZeroInt, forall_const, exists_eq_left', implies_true, IntKind.bits, ↓reduceIte, Nat.reduceEqDiff, Nat.reduceAdd, Nat.reduceSub, Nat.reduceMul, Nat.reduceLT, Nat.reduceLeDiff, Nat.reduceBEq, Int.reduceLE, Int.reduceLT, Int.reduceToNat, reduceCtorEq, Ty.all, g1, g6, g7, g34, g35, g36, H1, H2, H3, n1, n1', n2, n2', n3, n3', putC, hWg, u_of, u_nat, rowsU_set, uPV, w7]); rfl) (fun hb => ?_) (fun hb => ?_) <;> (try simp only [hb0, decide_eq_true_eq, decide_eq_false_iff_not, reduceCtorEq] at hb) <;> (try (exfalso; omega)))
          | (with_reducible refine ite_in (fun hb => ?_) (fun hb => ?_) <;> (try simp only [Decidable.not_not] at hb) <;> (try simp only [hb, if_true, if_false, not_false_eq_true, not_true_eq_false, ↓reduceIte]) <;> (try simp only [hb0, decide_eq_true_eq, decide_eq_false_iff_not, reduceCtorEq] at hb) <;> (try (exfalso; omega)))
          | (refine hK _ _ ?_; clear hK; try simp only [pst0, ↓reduceIte, Nat.reduceEqDiff])
          | (clear hK; refine hK _ _ ?_; clear hK; try simp only [pst0, ↓reduceIte, Nat.reduceEqDiff])
          | (clear hK; clear hK; refine hK _ _ ?_; clear hK; try simp only [pst0, ↓reduceIte, Nat.reduceEqDiff])
          | (clear hK; clear hK; clear hK; refine hK _ _ ?_; clear hK; try simp only [pst0, ↓reduceIte, Nat.reduceEqDiff])
          | (with_reducible refine a_past _ rfl (by decide +kernel) ?_)
          | (with_reducible refine a_past2 (by simp only [List.forall_mem_cons, am0, am1, am2, am3, amb0, amb1, amb2, amb3, amb4, lwn, drn, callee, wantedB, isW, eff, pev, pst0, retPost, resAll, resP, resV, intP, mkV, putC, pbin, peq, pint, pshift, pstr, pun, pconv, isShift, isConstB, app, subS, lay, rowsOf, lkV, keyKind, keyEq, mfind, mput, oInt, isZeroInt, forall_const, exists_eq_left', implies_true, IntKind.bits, ↓reduceIte, Nat.reduceEqDiff, Nat.reduceAdd, Nat.reduceSub, Nat.reduceMul, Nat.reduceLT, Nat.reduceLeDiff, Nat.reduceBEq, Int.reduceLE, Int.reduceLT, Int.reduceToNat, reduceCtorEq, Ty.all, g1, g6, g7, g34, g35, g36, H1, H2, H3, n1, n1', n2, n2', n3, n3', putC, hWg, u_of, u_nat, rowsU_set, uPV, w7]; (repeat' apply And.intro) <;> first | trivial | exact .inl (by decide +kernel)) ?_)
          | (rw [if_pos]; rotate_left 1; omega)
          | (simp (maxSteps := 2000000) only [am0, am1, am2, am3, amb0, amb1, amb2, amb3, amb4, lwn, drn, callee, wantedB, isW, eff, pev, pst0, retPost, resAll, resP, resV, intP, mkV, putC, pbin, peq, pint, pshift, pstr, pun, pconv, isShift, isConstB, app, subS, lay, rowsOf, lkV, keyKind, keyEq, mfind, mput, oInt, isZeroInt, forall_const, exists_eq_left', implies_true, IntKind.bits, ↓reduceIte, Nat.reduceEqDiff, Nat.reduceAdd, Nat.reduceSub, Nat.reduceMul, Nat.reduceLT, Nat.reduceLeDiff, Nat.reduceBEq, Int.reduceLE, Int.reduceLT, Int.reduceToNat, reduceCtorEq, Ty.all, g1, g6, g7, g34, g35, g36, H1, H2, H3, n1, n1', n2, n2', n3, n3', putC, hWg, u_of, u_nat, rowsU_set, uPV, w7]))
        refine ⟨xs.length - (k + 1), by omega, keep_set (by omega) (keep_set (Nat.le_refl _) HK), by omega, k + 1, S.set k (valF W F : Int), by rw [show ((k + 1 : Nat) : Int) = k + 1 by omega], by omega, rfl, hSk, ?_, ?_, rfl, ?_⟩
        · have hkv : k < (valsM xs W).length := by rw [valsM_len]; exact hlt
          have hvg := valsM_get (W := W) hF
          rw [List.getElem?_eq_getElem hkv] at hvg
          simp only [Option.some.injEq] at hvg
          rw [List.take_succ_eq_append_getElem (by omega), List.take_succ_eq_append_getElem hkv, List.getElem_set_self, hvg, ← hSt, List.take_set_of_le (Nat.le_refl _)]
        · intro i G hG hik
          rcases Nat.lt_or_ge i k with h1 | h1
          · exact hall i G hG h1
          · have hik' : i = k := by omega
            subst hik'
            rw [hF] at hG
            simp only [Option.some.injEq] at hG
            subst hG
            exact hv
        · rw [hRn, restF, hget]
    · have hk' : k = xs.length := by omega
      subst hk'
      rw [List.take_of_length_le (by omega)] at hR
      rw [List.take_of_length_le (by omega), List.take_of_length_le (by rw [valsM_len]; omega)] at hSt
      have hpr : properM xs (valsM xs W) = true := proper_vals.2 (fun i F hF => hall i F hF (by
        have := (List.getElem?_eq_some_iff.1 hF).1
        omega))
      have hRl64 : R.length ≤ 65 := by omega
      repeat' (first
        | (refine a_seq (fun K hK => ?_))
        | (refine a_block ?_)
        | (first | refine a_regionS ?_ | refine a_drawS (by decide +kernel) ?_ | refine a_region (fun K hK => ?_) | refine a_draw (by decide +kernel) (fun K hK => ?_) | refine a_ret ?_)
        | (refine a_skip ?_; try simp only [pst0, ↓reduceIte, Nat.reduceEqDiff])
        | (refine a_exit ?_; try simp only [pst0, ↓reduceIte, Nat.reduceEqDiff])
        | (refine a_cond _ (by (try simp (maxSteps := 2000000) only [am0, am1, am2, am3, amb0, amb1, amb2, amb3, amb4, lwn, drn, callee, wantedB, isW, eff, pev, pst0, retPost, resAll, resP, resV, intP, mkV, putC, pbin, peq, pint, pshift, pstr, pun, pconv, isShift, isConstB, app, subS, lay, rowsOf, lkV, keyKind, keyEq, mfind, mput, oInt, isZeroInt, forall_const, exists_eq_left', implies_true, IntKind.bits, ↓reduceIte, Nat.reduceEqDiff, Nat.reduceAdd, Nat.reduceSub, Nat.reduceMul, Nat.reduceLT, Nat.reduceLeDiff, Nat.reduceBEq, Int.reduceLE, Int.reduceLT, Int.reduceToNat, reduceCtorEq, Ty.all, g1, g6, g7, g34, g35, g36]); rfl) (fun hb => ?_) (fun hb => ?_) <;> (try simp only [hb0, decide_eq_true_eq, decide_eq_false_iff_not, reduceCtorEq] at hb) <;> (try (exfalso; omega)))
        | (with_reducible refine ite_in (fun hb => ?_) (fun hb => ?_) <;> (try simp only [Decidable.not_not] at hb) <;> (try simp only [hb, if_true, if_false, not_false_eq_true, not_true_eq_false, ↓reduceIte]) <;> (try simp only [hb0, decide_eq_true_eq, decide_eq_false_iff_not, reduceCtorEq] at hb) <;> (try (exfalso; omega)))
        | (refine hK _ _ ?_; clear hK; try simp only [pst0, ↓reduceIte, Nat.reduceEqDiff])
        | (clear hK; refine hK _ _ ?_; clear hK; try simp only [pst0, ↓reduceIte, Nat.reduceEqDiff])
        | (clear hK; clear hK; refine hK _ _ ?_; clear hK; try simp only [pst0, ↓reduceIte, Nat.reduceEqDiff])
        | (clear hK; clear hK; clear hK; refine hK _ _ ?_; clear hK; try simp only [pst0, ↓reduceIte, Nat.reduceEqDiff])
        | (with_reducible refine a_past _ rfl (by decide +kernel) ?_)
        | (with_reducible refine a_past2 (by simp only [List.forall_mem_cons, am0, am1, am2, am3, amb0, amb1, amb2, amb3, amb4, lwn, drn, callee, wantedB, isW, eff, pev, pst0, retPost, resAll, resP, resV, intP, mkV, putC, pbin, peq, pint, pshift, pstr, pun, pconv, isShift, isConstB, app, subS, lay, rowsOf, lkV, keyKind, keyEq, mfind, mput, oInt, isZeroInt, forall_const, exists_eq_left', implies_true, IntKind.bits, ↓reduceIte, Nat.reduceEqDiff, Nat.reduceAdd, Nat.reduceSub, Nat.reduceMul, Nat.reduceLT, Nat.reduceLeDiff, Nat.reduceBEq, Int.reduceLE, Int.reduceLT, Int.reduceToNat, reduceCtorEq, Ty.all, g1, g6, g7, g34, g35, g36]; (repeat' apply And.intro) <;> first | trivial | exact .inl (by decide +kernel)) ?_)
        | (rw [if_pos]; rotate_left 1; omega)
        | (simp (maxSteps := 2000000) only [am0, am1, am2, am3, amb0, amb1, amb2, amb3, amb4, lwn, drn, callee, wantedB, isW, eff, pev, pst0, retPost, resAll, resP, resV, intP, mkV, putC, pbin, peq, pint, pshift, pstr, pun, pconv, isShift, isConstB, app, subS, lay, rowsOf, lkV, keyKind, keyEq, mfind, mput, oInt, isZeroInt, forall_const, exists_eq_left', implies_true, IntKind.bits, ↓reduceIte, Nat.reduceEqDiff, Nat.reduceAdd, Nat.reduceSub, Nat.reduceMul, Nat.reduceLT, Nat.reduceLeDiff, Nat.reduceBEq, Int.reduceLE, Int.reduceLT, Int.reduceToNat, reduceCtorEq, Ty.all, g1, g6, g7, g34, g35, g36]))
      refine a_loop (fun m s G => G = h' ∧ s 6 = .own h.next 0 xs.length ∧ s 65 = .own (h.next + 1) 0 (wordsM xs) ∧ s 66 = .sc (.int .i64 (wordsM xs)) ∧ ∃ j : Nat, s 67 = .sc (.int .i64 j) ∧ j ≤ wordsM xs ∧ m = wordsM xs - j ∧ ∀ i, i < j → R.getD i 0 = 0) (wordsM xs) ?_ ?_
      · try simp only [am0, am1, am2, am3, amb0, amb1, amb2, amb3, amb4, lwn, drn, callee, wantedB, isW, eff, pev, pst0, retPost, resAll, resP, resV, intP, mkV, putC, pbin, peq, pint, pshift, pstr, pun, pconv, isShift, isConstB, app, subS, lay, rowsOf, lkV, keyKind, keyEq, mfind, mput, oInt, isZeroInt, forall_const, exists_eq_left', implies_true, IntKind.bits, ↓reduceIte, Nat.reduceEqDiff, Nat.reduceAdd, Nat.reduceSub, Nat.reduceMul, Nat.reduceLT, Nat.reduceLeDiff, Nat.reduceBEq, Int.reduceLE, Int.reduceLT, Int.reduceToNat, reduceCtorEq, g1, g6, g7, g34, g35, g36]
        exact ⟨0, rfl, by omega, rfl, by omega⟩
      · rintro m s G ⟨rfl, e6, e65, e66, j, e67, hj, rfl, hz⟩
        by_cases hjl : j < wordsM xs
        · have hRg := rowsU_get (xs := R) (i := j) (by omega)
          have w7 : IntKind.i64.wrap ((j : Int) + 1) = j + 1 := wrap64 (by omega) (by omega)
          have hRj : R.getD j 0 = R[j]'(by omega) := by simp [List.getD, hRl, hjl]
          by_cases h0 : R[j]'(by omega) = 0
          · have h0' : (((R[j]'(by omega)).toNat : Int) != 0) = false := by rw [h0]; rfl
            repeat' (first
              | (refine a_seq (fun K hK => ?_))
              | (refine a_block ?_)
              | (first | refine a_regionS ?_ | refine a_drawS (by decide +kernel) ?_ | refine a_region (fun K hK => ?_) | refine a_draw (by decide +kernel) (fun K hK => ?_) | refine a_ret ?_)
              | (refine a_skip ?_; try simp only [pst0, ↓reduceIte, Nat.reduceEqDiff])
              | (refine a_exit ?_; try simp only [pst0, ↓reduceIte, Nat.reduceEqDiff])
              | (refine a_cond _ (by (try simp (maxSteps := 2000000) only [am0, am1, am2, am3, amb0, amb1, amb2, amb3, amb4, lwn, drn, callee, wantedB, isW, eff, pev, pst0, retPost, resAll, resP, resV, intP, mkV, putC, pbin, peq, pint, pshift, pstr, pun, pconv, isShift, isConstB, app, subS, lay, rowsOf, lkV, keyKind, keyEq, mfind, mput, oInt, isZeroInt, forall_const, exists_eq_left', implies_true, IntKind.bits, ↓reduceIte, Nat.reduceEqDiff, Nat.reduceAdd, Nat.reduceSub, Nat.reduceMul, Nat.reduceLT, Nat.reduceLeDiff, Nat.reduceBEq, Int.reduceLE, Int.reduceLT, Int.reduceToNat, reduceCtorEq, Ty.all, e6, e65, e66, e67, ho2, hRg, h0', w7]); rfl) (fun hb => ?_) (fun hb => ?_) <;> (try simp only [hb0, decide_eq_true_eq, decide_eq_false_iff_not, reduceCtorEq] at hb) <;> (try (exfalso; omega)))
              | (with_reducible refine ite_in (fun hb => ?_) (fun hb => ?_) <;> (try simp only [Decidable.not_not] at hb) <;> (try simp only [hb, if_true, if_false, not_false_eq_true, not_true_eq_false, ↓reduceIte]) <;> (try simp only [hb0, decide_eq_true_eq, decide_eq_false_iff_not, reduceCtorEq] at hb) <;> (try (exfalso; omega)))
              | (refine hK _ _ ?_; clear hK; try simp only [pst0, ↓reduceIte, Nat.reduceEqDiff])
              | (clear hK; refine hK _ _ ?_; clear hK; try simp only [pst0, ↓reduceIte, Nat.reduceEqDiff])
              | (clear hK; clear hK; refine hK _ _ ?_; clear hK; try simp only [pst0, ↓reduceIte, Nat.reduceEqDiff])
              | (clear hK; clear hK; clear hK; refine hK _ _ ?_; clear hK; try simp only [pst0, ↓reduceIte, Nat.reduceEqDiff])
              | (with_reducible refine a_past _ rfl (by decide +kernel) ?_)
              | (with_reducible refine a_past2 (by simp only [List.forall_mem_cons, am0, am1, am2, am3, amb0, amb1, amb2, amb3, amb4, lwn, drn, callee, wantedB, isW, eff, pev, pst0, retPost, resAll, resP, resV, intP, mkV, putC, pbin, peq, pint, pshift, pstr, pun, pconv, isShift, isConstB, app, subS, lay, rowsOf, lkV, keyKind, keyEq, mfind, mput, oInt, isZeroInt, forall_const, exists_eq_left', implies_true, IntKind.bits, ↓reduceIte, Nat.reduceEqDiff, Nat.reduceAdd, Nat.reduceSub, Nat.reduceMul, Nat.reduceLT, Nat.reduceLeDiff, Nat.reduceBEq, Int.reduceLE, Int.reduceLT, Int.reduceToNat, reduceCtorEq, Ty.all, e6, e65, e66, e67, ho2, hRg, h0', w7]; (repeat' apply And.intro) <;> first | trivial | exact .inl (by decide +kernel)) ?_)
              | (rw [if_pos]; rotate_left 1; omega)
              | (simp (maxSteps := 2000000) only [am0, am1, am2, am3, amb0, amb1, amb2, amb3, amb4, lwn, drn, callee, wantedB, isW, eff, pev, pst0, retPost, resAll, resP, resV, intP, mkV, putC, pbin, peq, pint, pshift, pstr, pun, pconv, isShift, isConstB, app, subS, lay, rowsOf, lkV, keyKind, keyEq, mfind, mput, oInt, isZeroInt, forall_const, exists_eq_left', implies_true, IntKind.bits, ↓reduceIte, Nat.reduceEqDiff, Nat.reduceAdd, Nat.reduceSub, Nat.reduceMul, Nat.reduceLT, Nat.reduceLeDiff, Nat.reduceBEq, Int.reduceLE, Int.reduceLT, Int.reduceToNat, reduceCtorEq, Ty.all, e6, e65, e66, e67, ho2, hRg, h0', w7]))
            refine ⟨wordsM xs - (j + 1), by omega, j + 1, by rw [show ((j + 1 : Nat) : Int) = j + 1 by omega], by omega, rfl, fun i hi => ?_⟩
            rcases Nat.lt_or_ge i j with h1 | h1
            · exact hz i h1
            · have : i = j := by omega
              subst this
              rw [hRj, h0]
          · have h0' : (((R[j]'(by omega)).toNat : Int) != 0) = true := by
              simp only [bne_iff_ne, ne_eq]
              intro hh
              apply h0
              apply BitVec.eq_of_toNat_eq
              simpa using hh
            repeat' (first
              | (refine a_seq (fun K hK => ?_))
              | (refine a_block ?_)
              | (first | refine a_regionS ?_ | refine a_drawS (by decide +kernel) ?_ | refine a_region (fun K hK => ?_) | refine a_draw (by decide +kernel) (fun K hK => ?_) | refine a_ret ?_)
              | (refine a_skip ?_; try simp only [pst0, ↓reduceIte, Nat.reduceEqDiff])
              | (refine a_exit ?_; try simp only [pst0, ↓reduceIte, Nat.reduceEqDiff])
              | (refine a_cond _ (by (try simp (maxSteps := 2000000) only [am0, am1, am2, am3, amb0, amb1, amb2, amb3, amb4, lwn, drn, callee, wantedB, isW, eff, pev, pst0, retPost, resAll, resP, resV, intP, mkV, putC, pbin, peq, pint, pshift, pstr, pun, pconv, isShift, isConstB, app, subS, lay, rowsOf, lkV, keyKind, keyEq, mfind, mput, oInt, isZeroInt, forall_const, exists_eq_left', implies_true, IntKind.bits, ↓reduceIte, Nat.reduceEqDiff, Nat.reduceAdd, Nat.reduceSub, Nat.reduceMul, Nat.reduceLT, Nat.reduceLeDiff, Nat.reduceBEq, Int.reduceLE, Int.reduceLT, Int.reduceToNat, reduceCtorEq, Ty.all, e6, e65, e66, e67, ho2, hRg, h0', w7]); rfl) (fun hb => ?_) (fun hb => ?_) <;> (try simp only [hb0, decide_eq_true_eq, decide_eq_false_iff_not, reduceCtorEq] at hb) <;> (try (exfalso; omega)))
              | (with_reducible refine ite_in (fun hb => ?_) (fun hb => ?_) <;> (try simp only [Decidable.not_not] at hb) <;> (try simp only [hb, if_true, if_false, not_false_eq_true, not_true_eq_false, ↓reduceIte]) <;> (try simp only [hb0, decide_eq_true_eq, decide_eq_false_iff_not, reduceCtorEq] at hb) <;> (try (exfalso; omega)))
              | (refine hK _ _ ?_; clear hK; try simp only [pst0, ↓reduceIte, Nat.reduceEqDiff])
              | (clear hK; refine hK _ _ ?_; clear hK; try simp only [pst0, ↓reduceIte, Nat.reduceEqDiff])
              | (clear hK; clear hK; refine hK _ _ ?_; clear hK; try simp only [pst0, ↓reduceIte, Nat.reduceEqDiff])
              | (clear hK; clear hK; clear hK; refine hK _ _ ?_; clear hK; try simp only [pst0, ↓reduceIte, Nat.reduceEqDiff])
              | (with_reducible refine a_past _ rfl (by decide +kernel) ?_)
              | (with_reducible refine a_past2 (by simp only [List.forall_mem_cons, am0, am1, am2, am3, amb0, amb1, amb2, amb3, amb4, lwn, drn, callee, wantedB, isW, eff, pev, pst0, retPost, resAll, resP, resV, intP, mkV, putC, pbin, peq, pint, pshift, pstr, pun, pconv, isShift, isConstB, app, subS, lay, rowsOf, lkV, keyKind, keyEq, mfind, mput, oInt, isZeroInt, forall_const, exists_eq_left', implies_true, IntKind.bits, ↓reduceIte, Nat.reduceEqDiff, Nat.reduceAdd, Nat.reduceSub, Nat.reduceMul, Nat.reduceLT, Nat.reduceLeDiff, Nat.reduceBEq, Int.reduceLE, Int.reduceLT, Int.reduceToNat, reduceCtorEq, Ty.all, e6, e65, e66, e67, ho2, hRg, h0', w7]; (repeat' apply And.intro) <;> first | trivial | exact .inl (by decide +kernel)) ?_)
              | (rw [if_pos]; rotate_left 1; omega)
              | (simp (maxSteps := 2000000) only [am0, am1, am2, am3, amb0, amb1, amb2, amb3, amb4, lwn, drn, callee, wantedB, isW, eff, pev, pst0, retPost, resAll, resP, resV, intP, mkV, putC, pbin, peq, pint, pshift, pstr, pun, pconv, isShift, isConstB, app, subS, lay, rowsOf, lkV, keyKind, keyEq, mfind, mput, oInt, isZeroInt, forall_const, exists_eq_left', implies_true, IntKind.bits, ↓reduceIte, Nat.reduceEqDiff, Nat.reduceAdd, Nat.reduceSub, Nat.reduceMul, Nat.reduceLT, Nat.reduceLeDiff, Nat.reduceBEq, Int.reduceLE, Int.reduceLT, Int.reduceToNat, reduceCtorEq, Ty.all, e6, e65, e66, e67, ho2, hRg, h0', w7]))
            exact ⟨hkp, .inr ⟨fun hh => h0 (by rw [← hRj, hR]; exact (zeros_iff _).1 hh.2.2 j), rfl⟩⟩
        · repeat' (first
            | (refine a_seq (fun K hK => ?_))
            | (refine a_block ?_)
            | (first | refine a_regionS ?_ | refine a_drawS (by decide +kernel) ?_ | refine a_region (fun K hK => ?_) | refine a_draw (by decide +kernel) (fun K hK => ?_) | refine a_ret ?_)
            | (refine a_skip ?_; try simp only [pst0, ↓reduceIte, Nat.reduceEqDiff])
            | (refine a_exit ?_; try simp only [pst0, ↓reduceIte, Nat.reduceEqDiff])
            | (refine a_cond _ (by (try simp (maxSteps := 2000000) only [am0, am1, am2, am3, amb0, amb1, amb2, amb3, amb4, lwn, drn, callee, wantedB, isW, eff, pev, pst0, retPost, resAll, resP, resV, intP, mkV, putC, pbin, peq, pint, pshift, pstr, pun, pconv, isShift, isConstB, app, subS, lay, rowsOf, lkV, keyKind, keyEq, mfind, mput, oInt, isZeroInt, forall_const, exists_eq_left', implies_true, IntKind.bits, ↓reduceIte, Nat.reduceEqDiff, Nat.reduceAdd, Nat.reduceSub, Nat.reduceMul, Nat.reduceLT, Nat.reduceLeDiff, Nat.reduceBEq, Int.reduceLE, Int.reduceLT, Int.reduceToNat, reduceCtorEq, Ty.all, e6, e65, e66, e67]); rfl) (fun hb => ?_) (fun hb => ?_) <;> (try simp only [hb0, decide_eq_true_eq, decide_eq_false_iff_not, reduceCtorEq] at hb) <;> (try (exfalso; omega)))
            | (with_reducible refine ite_in (fun hb => ?_) (fun hb => ?_) <;> (try simp only [Decidable.not_not] at hb) <;> (try simp only [hb, if_true, if_false, not_false_eq_true, not_true_eq_false, ↓reduceIte]) <;> (try simp only [hb0, decide_eq_true_eq, decide_eq_false_iff_not, reduceCtorEq] at hb) <;> (try (exfalso; omega)))
            | (refine hK _ _ ?_; clear hK; try simp only [pst0, ↓reduceIte, Nat.reduceEqDiff])
            | (clear hK; refine hK _ _ ?_; clear hK; try simp only [pst0, ↓reduceIte, Nat.reduceEqDiff])
            | (clear hK; clear hK; refine hK _ _ ?_; clear hK; try simp only [pst0, ↓reduceIte, Nat.reduceEqDiff])
            | (clear hK; clear hK; clear hK; refine hK _ _ ?_; clear hK; try simp only [pst0, ↓reduceIte, Nat.reduceEqDiff])
            | (with_reducible refine a_past _ rfl (by decide +kernel) ?_)
            | (with_reducible refine a_past2 (by simp only [List.forall_mem_cons, am0, am1, am2, am3, amb0, amb1, amb2, amb3, amb4, lwn, drn, callee, wantedB, isW, eff, pev, pst0, retPost, resAll, resP, resV, intP, mkV, putC, pbin, peq, pint, pshift, pstr, pun, pconv, isShift, isConstB, app, subS, lay, rowsOf, lkV, keyKind, keyEq, mfind, mput, oInt, isZeroInt, forall_const, exists_eq_left', implies_true, IntKind.bits, ↓reduceIte, Nat.reduceEqDiff, Nat.reduceAdd, Nat.reduceSub, Nat.reduceMul, Nat.reduceLT, Nat.reduceLeDiff, Nat.reduceBEq, Int.reduceLE, Int.reduceLT, Int.reduceToNat, reduceCtorEq, Ty.all, e6, e65, e66, e67]; (repeat' apply And.intro) <;> first | trivial | exact .inl (by decide +kernel)) ?_)
            | (rw [if_pos]; rotate_left 1; omega)
            | (simp (maxSteps := 2000000) only [am0, am1, am2, am3, amb0, amb1, amb2, amb3, amb4, lwn, drn, callee, wantedB, isW, eff, pev, pst0, retPost, resAll, resP, resV, intP, mkV, putC, pbin, peq, pint, pshift, pstr, pun, pconv, isShift, isConstB, app, subS, lay, rowsOf, lkV, keyKind, keyEq, mfind, mput, oInt, isZeroInt, forall_const, exists_eq_left', implies_true, IntKind.bits, ↓reduceIte, Nat.reduceEqDiff, Nat.reduceAdd, Nat.reduceSub, Nat.reduceMul, Nat.reduceLT, Nat.reduceLeDiff, Nat.reduceBEq, Int.reduceLE, Int.reduceLT, Int.reduceToNat, reduceCtorEq, Ty.all, e6, e65, e66, e67]))
          have hzr : zeros (restL (fieldsM xs) W) = true := by
            rw [zeros_iff, ← hR]
            intro i
            rcases Nat.lt_or_ge i j with h1 | h1
            · exact hz i h1
            · rw [List.getD_eq_getElem?_getD, List.getElem?_eq_none (by omega)]; rfl
          exact ⟨hkp, .inl ⟨⟨hWl, hpr, hzr⟩, rfl, by rw [← hSt]; exact ho1, by omega⟩⟩
theorem unpack_d {h : Heap} {xs : List Int} {W : List (BitVec 64)} {p : PV} (hp : Sl h 1 p (rowsU W)) (hx : xs.length ≤ 64) (hok : okU xs W) : PCall Try.prog 30 [packerPV xs, p] h fun r h' => r = .tup [.own h.next 0 xs.length, nilE] ∧ h' = h.new (.arr 1 (rowsI (valsM xs W))) := by
  refine pcall_wf Ty.hb_30 (fun hwf => ?_)
  refine PCall.drop ((unpack_o hp hx).mono ?_)
  rintro r h' ⟨hk, hr⟩
  rcases hr with ⟨_, rfl, ho, hn⟩ | ⟨h1, _⟩
  · refine ⟨_, h.new (.arr 1 (rowsI (valsM xs W))), ⟨rfl, rfl⟩, ?_, by rw [new_next]; omega, ?_⟩
    · simp only [FrzTo]
      refine ⟨_, rfl, ?_⟩
      simp only [FrzL, nilE, FrzTo, new_next]
      exact ⟨⟨trivial, by omega⟩, trivial, trivial⟩
    · intro id o hid
      rw [new_obj] at hid
      rw [new_next]
      split at hid
      · rename_i he
        simp only [Option.some.injEq] at hid
        subst hid; subst he
        refine ⟨ho, by omega, .inr ?_⟩
        simp only [inNO]
        have : ∀ l : List Int, inNR (h.next + 1) (rowsI l) := by
          intro l
          induction l with
          | nil => simp [rowsI, inNR]
          | cons a l ih => simpa [rowsI, inNR, inNL, inN] using ih
        exact this _
      · have := hwf id (by rw [hid]; rfl)
        exact ⟨by rw [hk.2 id this]; exact hid, by omega, .inl hid⟩
  · exact absurd hok h1
end Go.Proofs.Ytmooliecnbhbjaa
