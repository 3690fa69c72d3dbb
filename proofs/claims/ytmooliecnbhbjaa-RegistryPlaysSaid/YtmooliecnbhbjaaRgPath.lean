/- Registries: Path: the walk. -/
import Derived.Test.YtmooliecnbhbjaaRgMore
import Derived.Test.YtmooliecnbhbjaaRgIx
set_option linter.unusedVariables false
set_option linter.unusedSimpArgs false
set_option linter.unusedSectionVars false
namespace Go.Proofs.Ytmooliecnbhbjaa
open Go.AM
set_option maxHeartbeats 4000000
set_option maxRecDepth 20000

theorem rev_c {G : Heap} {id0 : Nat} {p : PV} {l : List Int} (t : Tl G id0 1 p (rowsI l)) : PCall Try.prog 56 [p] G fun _ G' => Tl G' id0 1 p (rowsI l.reverse) ∧ G'.next = G.next ∧ ∀ j, (∀ len, p ≠ .own j 0 len) → G'.obj j = G.obj j := by
  have w0 : IntKind.i64.wrap (0 - 1) = -1 := by rw [wrap64 (by omega) (by omega)]; rfl
  rcases t with ⟨hl, hp⟩ | ⟨id, h1, h2, rfl, ho⟩
  · have hl0 : l = [] := by cases l with | nil => rfl | cons => simp [rowsI] at hl
    subst hl0
    have w0' : IntKind.i64.wrap (((0 : Nat) : Int) - 1) = -1 := w0
    have tt : Tl G id0 1 p (rowsI ([] : List Int).reverse) := .inl ⟨rfl, hp⟩
    rcases hp with rfl | rfl
    all_goals
      refine pcall_body (ow := fun _ => false) (wf := fun _ => false) Ty.mixed Try.func56 rfl Ty.hb_56 (by rw [Try.ntmps56]; simp) ?_
      rw [Try.ntmps56, Try.results56]
      repeat' (first
        | (refine a_seq (fun K hK => ?_))
        | (refine a_block ?_)
        | ((first | refine a_regionS ?_ | refine a_drawS (by decide +kernel) ?_ | refine a_region (fun K hK => ?_) | refine a_draw (by decide +kernel) (fun K hK => ?_) | refine a_ret ?_); simp (maxSteps := 2000000) only [am0, am1, am2, am3, amb0, amb1, amb2, amb3, amb4, lwn, drn, callee, wantedB, isW, eff, pev, pst0, retPost, resAll, resP, resV, intP, mkV, putC, pbin, peq, pint, pshift, pstr, pun, pconv, isShift, isConstB, app, subS, lay, rowsOf, lkv0, keyKind, keyEq, mfind, mput, oInt, isZeroInt, forall_const, exists_eq_left', implies_true, IntKind.bits, ↓reduceIte, Nat.reduceEqDiff, Nat.reduceAdd, Nat.reduceSub, Nat.reduceMul, Nat.reduceLT, Nat.reduceLeDiff, Nat.reduceBEq, Int.reduceLE, Int.reduceLT, Int.reduceToNat, reduceCtorEq, Ty.all, w0, w0'])
        | (refine a_skip ?_; try simp only [pst0, ↓reduceIte, Nat.reduceEqDiff])
        | (refine a_exit ?_; try simp only [pst0, ↓reduceIte, Nat.reduceEqDiff])
        | (refine a_cond _ (by (try simp (maxSteps := 2000000) only [am0, am1, am2, am3, amb0, amb1, amb2, amb3, amb4, lwn, drn, callee, wantedB, isW, eff, pev, pst0, retPost, resAll, resP, resV, intP, mkV, putC, pbin, peq, pint, pshift, pstr, pun, pconv, isShift, isConstB, app, subS, lay, rowsOf, lkv0, keyKind, keyEq, mfind, mput, oInt, isZeroInt, forall_const, exists_eq_left', implies_true, IntKind.bits, ↓reduceIte, Nat.reduceEqDiff, Nat.reduceAdd, Nat.reduceSub, Nat.reduceMul, Nat.reduceLT, Nat.reduceLeDiff, Nat.reduceBEq, Int.reduceLE, Int.reduceLT, Int.reduceToNat, reduceCtorEq, Ty.all, w0, w0']); rfl) (fun hb => ?_) (fun hb => ?_) <;> (try simp only [hb0, decide_eq_true_eq, decide_eq_false_iff_not, reduceCtorEq] at hb) <;> (try (exfalso; omega)))
        | (with_reducible refine ite_in (fun hb => ?_) (fun hb => ?_) <;> (try simp only [Decidable.not_not] at hb) <;> (try simp only [hb, if_true, if_false, not_false_eq_true, not_true_eq_false, ↓reduceIte]) <;> (try simp only [hb0, decide_eq_true_eq, decide_eq_false_iff_not, reduceCtorEq] at hb) <;> (try (exfalso; omega)))
        | (refine hK _ _ ?_; clear hK; try simp only [pst0, ↓reduceIte, Nat.reduceEqDiff])
        | (clear hK; refine hK _ _ ?_; clear hK; try simp only [pst0, ↓reduceIte, Nat.reduceEqDiff])
        | (clear hK; clear hK; refine hK _ _ ?_; clear hK; try simp only [pst0, ↓reduceIte, Nat.reduceEqDiff])
        | (clear hK; clear hK; clear hK; refine hK _ _ ?_; clear hK; try simp only [pst0, ↓reduceIte, Nat.reduceEqDiff])
        | ((first | (with_reducible refine a_past _ rfl (by decide +kernel) ?_) | (with_reducible refine a_past2 (by simp only [List.forall_mem_cons, am0, am1, am2, am3, amb0, amb1, amb2, amb3, amb4, lwn, drn, callee, wantedB, isW, eff, pev, pst0, retPost, resAll, resP, resV, intP, mkV, putC, pbin, peq, pint, pshift, pstr, pun, pconv, isShift, isConstB, app, subS, lay, rowsOf, lkv0, keyKind, keyEq, mfind, mput, oInt, isZeroInt, forall_const, exists_eq_left', implies_true, IntKind.bits, ↓reduceIte, Nat.reduceEqDiff, Nat.reduceAdd, Nat.reduceSub, Nat.reduceMul, Nat.reduceLT, Nat.reduceLeDiff, Nat.reduceBEq, Int.reduceLE, Int.reduceLT, Int.reduceToNat, reduceCtorEq, Ty.all, w0, w0']; (repeat' apply And.intro) <;> first | trivial | exact .inl (by decide +kernel)) ?_)); try simp (maxSteps := 2000000) only [am0, am1, am2, am3, amb0, amb1, amb2, amb3, amb4, lwn, drn, callee, wantedB, isW, eff, pev, pst0, retPost, resAll, resP, resV, intP, mkV, putC, pbin, peq, pint, pshift, pstr, pun, pconv, isShift, isConstB, app, subS, lay, rowsOf, lkv0, keyKind, keyEq, mfind, mput, oInt, isZeroInt, forall_const, exists_eq_left', implies_true, IntKind.bits, ↓reduceIte, Nat.reduceEqDiff, Nat.reduceAdd, Nat.reduceSub, Nat.reduceMul, Nat.reduceLT, Nat.reduceLeDiff, Nat.reduceBEq, Int.reduceLE, Int.reduceLT, Int.reduceToNat, reduceCtorEq, Ty.all, w0, w0'])
        | (rw [if_pos]; rotate_left 1; omega; simp (maxSteps := 2000000) only [am0, am1, am2, am3, amb0, amb1, amb2, amb3, amb4, lwn, drn, callee, wantedB, isW, eff, pev, pst0, retPost, resAll, resP, resV, intP, mkV, putC, pbin, peq, pint, pshift, pstr, pun, pconv, isShift, isConstB, app, subS, lay, rowsOf, lkv0, keyKind, keyEq, mfind, mput, oInt, isZeroInt, forall_const, exists_eq_left', implies_true, IntKind.bits, ↓reduceIte, Nat.reduceEqDiff, Nat.reduceAdd, Nat.reduceSub, Nat.reduceMul, Nat.reduceLT, Nat.reduceLeDiff, Nat.reduceBEq, Int.reduceLE, Int.reduceLT, Int.reduceToNat, reduceCtorEq, Ty.all, w0, w0']))
      refine a_loop (fun m s G' => G' = G ∧ s 2 = .sc (.int .i64 0) ∧ s 3 = .sc (.int .i64 (-1))) 0 ?_ ?_
      · simp only [am0, am1, am2, am3, amb0, amb1, amb2, amb3, amb4, lwn, drn, callee, wantedB, isW, eff, pev, pst0, retPost, resAll, resP, resV, intP, mkV, putC, pbin, peq, pint, pshift, pstr, pun, pconv, isShift, isConstB, app, subS, lay, rowsOf, lkv0, keyKind, keyEq, mfind, mput, oInt, isZeroInt, forall_const, exists_eq_left', implies_true, IntKind.bits, ↓reduceIte, Nat.reduceEqDiff, Nat.reduceAdd, Nat.reduceSub, Nat.reduceMul, Nat.reduceLT, Nat.reduceLeDiff, Nat.reduceBEq, Int.reduceLE, Int.reduceLT, Int.reduceToNat, reduceCtorEq, w0, w0']
      · rintro m s G' ⟨rfl, g2, g3⟩
        have hd : decide ((0 : Int) < -1) = false := by decide
        repeat' (first
          | (refine a_seq (fun K hK => ?_))
          | (refine a_block ?_)
          | ((first | refine a_regionS ?_ | refine a_drawS (by decide +kernel) ?_ | refine a_region (fun K hK => ?_) | refine a_draw (by decide +kernel) (fun K hK => ?_) | refine a_ret ?_); simp (maxSteps := 2000000) only [am0, am1, am2, am3, amb0, amb1, amb2, amb3, amb4, lwn, drn, callee, wantedB, isW, eff, pev, pst0, retPost, resAll, resP, resV, intP, mkV, putC, pbin, peq, pint, pshift, pstr, pun, pconv, isShift, isConstB, app, subS, lay, rowsOf, lkv0, keyKind, keyEq, mfind, mput, oInt, isZeroInt, forall_const, exists_eq_left', implies_true, IntKind.bits, ↓reduceIte, Nat.reduceEqDiff, Nat.reduceAdd, Nat.reduceSub, Nat.reduceMul, Nat.reduceLT, Nat.reduceLeDiff, Nat.reduceBEq, Int.reduceLE, Int.reduceLT, Int.reduceToNat, reduceCtorEq, Ty.all, g2, g3, hd])
          | (refine a_skip ?_; try simp only [pst0, ↓reduceIte, Nat.reduceEqDiff])
          | (refine a_exit ?_; try simp only [pst0, ↓reduceIte, Nat.reduceEqDiff])
          | (refine a_cond _ (by (try simp (maxSteps := 2000000) only [am0, am1, am2, am3, amb0, amb1, amb2, amb3, amb4, lwn, drn, callee, wantedB, isW, eff, pev, pst0, retPost, resAll, resP, resV, intP, mkV, putC, pbin, peq, pint, pshift, pstr, pun, pconv, isShift, isConstB, app, subS, lay, rowsOf, lkv0, keyKind, keyEq, mfind, mput, oInt, isZeroInt, forall_const, exists_eq_left', implies_true, IntKind.bits, ↓reduceIte, Nat.reduceEqDiff, Nat.reduceAdd, Nat.reduceSub, Nat.reduceMul, Nat.reduceLT, Nat.reduceLeDiff, Nat.reduceBEq, Int.reduceLE, Int.reduceLT, Int.reduceToNat, reduceCtorEq, Ty.all, g2, g3, hd]); rfl) (fun hb => ?_) (fun hb => ?_) <;> (try simp only [hb0, decide_eq_true_eq, decide_eq_false_iff_not, reduceCtorEq] at hb) <;> (try (exfalso; omega)))
          | (with_reducible refine ite_in (fun hb => ?_) (fun hb => ?_) <;> (try simp only [Decidable.not_not] at hb) <;> (try simp only [hb, if_true, if_false, not_false_eq_true, not_true_eq_false, ↓reduceIte]) <;> (try simp only [hb0, decide_eq_true_eq, decide_eq_false_iff_not, reduceCtorEq] at hb) <;> (try (exfalso; omega)))
          | (refine hK _ _ ?_; clear hK; try simp only [pst0, ↓reduceIte, Nat.reduceEqDiff])
          | (clear hK; refine hK _ _ ?_; clear hK; try simp only [pst0, ↓reduceIte, Nat.reduceEqDiff])
          | (clear hK; clear hK; refine hK _ _ ?_; clear hK; try simp only [pst0, ↓reduceIte, Nat.reduceEqDiff])
          | (clear hK; clear hK; clear hK; refine hK _ _ ?_; clear hK; try simp only [pst0, ↓reduceIte, Nat.reduceEqDiff])
          | ((first | (with_reducible refine a_past _ rfl (by decide +kernel) ?_) | (with_reducible refine a_past2 (by simp only [List.forall_mem_cons, am0, am1, am2, am3, amb0, amb1, amb2, amb3, amb4, lwn, drn, callee, wantedB, isW, eff, pev, pst0, retPost, resAll, resP, resV, intP, mkV, putC, pbin, peq, pint, pshift, pstr, pun, pconv, isShift, isConstB, app, subS, lay, rowsOf, lkv0, keyKind, keyEq, mfind, mput, oInt, isZeroInt, forall_const, exists_eq_left', implies_true, IntKind.bits, ↓reduceIte, Nat.reduceEqDiff, Nat.reduceAdd, Nat.reduceSub, Nat.reduceMul, Nat.reduceLT, Nat.reduceLeDiff, Nat.reduceBEq, Int.reduceLE, Int.reduceLT, Int.reduceToNat, reduceCtorEq, Ty.all, g2, g3, hd]; (repeat' apply And.intro) <;> first | trivial | exact .inl (by decide +kernel)) ?_)); try simp (maxSteps := 2000000) only [am0, am1, am2, am3, amb0, amb1, amb2, amb3, amb4, lwn, drn, callee, wantedB, isW, eff, pev, pst0, retPost, resAll, resP, resV, intP, mkV, putC, pbin, peq, pint, pshift, pstr, pun, pconv, isShift, isConstB, app, subS, lay, rowsOf, lkv0, keyKind, keyEq, mfind, mput, oInt, isZeroInt, forall_const, exists_eq_left', implies_true, IntKind.bits, ↓reduceIte, Nat.reduceEqDiff, Nat.reduceAdd, Nat.reduceSub, Nat.reduceMul, Nat.reduceLT, Nat.reduceLeDiff, Nat.reduceBEq, Int.reduceLE, Int.reduceLT, Int.reduceToNat, reduceCtorEq, Ty.all, g2, g3, hd])
          | (rw [if_pos]; rotate_left 1; omega; simp (maxSteps := 2000000) only [am0, am1, am2, am3, amb0, amb1, amb2, amb3, amb4, lwn, drn, callee, wantedB, isW, eff, pev, pst0, retPost, resAll, resP, resV, intP, mkV, putC, pbin, peq, pint, pshift, pstr, pun, pconv, isShift, isConstB, app, subS, lay, rowsOf, lkv0, keyKind, keyEq, mfind, mput, oInt, isZeroInt, forall_const, exists_eq_left', implies_true, IntKind.bits, ↓reduceIte, Nat.reduceEqDiff, Nat.reduceAdd, Nat.reduceSub, Nat.reduceMul, Nat.reduceLT, Nat.reduceLeDiff, Nat.reduceBEq, Int.reduceLE, Int.reduceLT, Int.reduceToNat, reduceCtorEq, Ty.all, g2, g3, hd]))
        exact ⟨tt, rfl, fun _ _ => rfl⟩
  · rw [rowsI_len]
    refine pcall_len (z := 1) (p := .own id 0 l.length) (rows := rowsI l) (by have := Sl.own0 (z := 1) ho; rwa [rowsI_len] at this) (by simp) Ty.hb_56 (fun hlen => ?_)
    rw [rowsI_len] at hlen
    have w1 : IntKind.i64.wrap ((l.length : Int) - 1) = (l.length : Int) - 1 := by rw [wrap64 (by omega) (by omega)]
    refine pcall_body (ow := fun _ => false) (wf := fun _ => false) Ty.mixed Try.func56 rfl Ty.hb_56 (by rw [Try.ntmps56]; simp) ?_
    rw [Try.ntmps56, Try.results56]
    repeat' (first
      | (refine a_seq (fun K hK => ?_))
      | (refine a_block ?_)
      | (first | refine a_regionS ?_ | refine a_drawS (by decide +kernel) ?_ | refine a_region (fun K hK => ?_) | refine a_draw (by decide +kernel) (fun K hK => ?_) | refine a_ret ?_)
      | (refine a_skip ?_; try simp only [pst0, ↓reduceIte, Nat.reduceEqDiff])
      | (refine a_exit ?_; try simp only [pst0, ↓reduceIte, Nat.reduceEqDiff])
      | (refine a_cond _ (by (try simp (maxSteps := 2000000) only [am0, am1, am2, am3, amb0, amb1, amb2, amb3, amb4, lwn, drn, callee, wantedB, isW, eff, pev, pst0, retPost, resAll, resP, resV, intP, mkV, putC, pbin, peq, pint, pshift, pstr, pun, pconv, isShift, isConstB, app, subS, lay, rowsOf, lkv0, keyKind, keyEq, mfind, mput, oInt, isZeroInt, forall_const, exists_eq_left', implies_true, IntKind.bits, ↓reduceIte, Nat.reduceEqDiff, Nat.reduceAdd, Nat.reduceSub, Nat.reduceMul, Nat.reduceLT, Nat.reduceLeDiff, Nat.reduceBEq, Int.reduceLE, Int.reduceLT, Int.reduceToNat, reduceCtorEq, Ty.all, w1]); rfl) (fun hb => ?_) (fun hb => ?_) <;> (try simp only [hb0, decide_eq_true_eq, decide_eq_false_iff_not, reduceCtorEq] at hb) <;> (try (exfalso; omega)))
      | (with_reducible refine ite_in (fun hb => ?_) (fun hb => ?_) <;> (try simp only [Decidable.not_not] at hb) <;> (try simp only [hb, if_true, if_false, not_false_eq_true, not_true_eq_false, ↓reduceIte]) <;> (try simp only [hb0, decide_eq_true_eq, decide_eq_false_iff_not, reduceCtorEq] at hb) <;> (try (exfalso; omega)))
      | (refine hK _ _ ?_; clear hK; try simp only [pst0, ↓reduceIte, Nat.reduceEqDiff])
      | (clear hK; refine hK _ _ ?_; clear hK; try simp only [pst0, ↓reduceIte, Nat.reduceEqDiff])
      | (clear hK; clear hK; refine hK _ _ ?_; clear hK; try simp only [pst0, ↓reduceIte, Nat.reduceEqDiff])
      | (clear hK; clear hK; clear hK; refine hK _ _ ?_; clear hK; try simp only [pst0, ↓reduceIte, Nat.reduceEqDiff])
      | (with_reducible refine a_past _ rfl (by decide +kernel) ?_)
      | (with_reducible refine a_past2 (by simp only [List.forall_mem_cons, am0, am1, am2, am3, amb0, amb1, amb2, amb3, amb4, lwn, drn, callee, wantedB, isW, eff, pev, pst0, retPost, resAll, resP, resV, intP, mkV, putC, pbin, peq, pint, pshift, pstr, pun, pconv, isShift, isConstB, app, subS, lay, rowsOf, lkv0, keyKind, keyEq, mfind, mput, oInt, isZeroInt, forall_const, exists_eq_left', implies_true, IntKind.bits, ↓reduceIte, Nat.reduceEqDiff, Nat.reduceAdd, Nat.reduceSub, Nat.reduceMul, Nat.reduceLT, Nat.reduceLeDiff, Nat.reduceBEq, Int.reduceLE, Int.reduceLT, Int.reduceToNat, reduceCtorEq, Ty.all, w1]; (repeat' apply And.intro) <;> first | trivial | exact .inl (by decide +kernel)) ?_)
      | (rw [if_pos]; rotate_left 1; omega)
      | (simp (maxSteps := 2000000) only [am0, am1, am2, am3, amb0, amb1, amb2, amb3, amb4, lwn, drn, callee, wantedB, isW, eff, pev, pst0, retPost, resAll, resP, resV, intP, mkV, putC, pbin, peq, pint, pshift, pstr, pun, pconv, isShift, isConstB, app, subS, lay, rowsOf, lkv0, keyKind, keyEq, mfind, mput, oInt, isZeroInt, forall_const, exists_eq_left', implies_true, IntKind.bits, ↓reduceIte, Nat.reduceEqDiff, Nat.reduceAdd, Nat.reduceSub, Nat.reduceMul, Nat.reduceLT, Nat.reduceLeDiff, Nat.reduceBEq, Int.reduceLE, Int.reduceLT, Int.reduceToNat, reduceCtorEq, Ty.all, w1]))
    refine a_loop (fun m s G' => s 0 = .own id 0 l.length ∧ G'.next = G.next ∧ (∀ j, j ≠ id → G'.obj j = G.obj j) ∧ ∃ (i : Nat) (S : List Int), s 2 = .sc (.int .i64 i) ∧ s 3 = .sc (.int .i64 ((l.length : Int) - 1 - i)) ∧ 2 * i ≤ l.length + 1 ∧ m = l.length + 1 - i ∧ S.length = l.length ∧ G'.obj id = some (.arr 1 (rowsI S)) ∧
      ∀ x, x < l.length → S[x]? = if x < i ∨ l.length ≤ x + i then l[l.length - 1 - x]? else l[x]?) (l.length + 1) ?_ ?_
    · simp only [am0, am1, am2, am3, amb0, amb1, amb2, amb3, amb4, lwn, drn, callee, wantedB, isW, eff, pev, pst0, retPost, resAll, resP, resV, intP, mkV, putC, pbin, peq, pint, pshift, pstr, pun, pconv, isShift, isConstB, app, subS, lay, rowsOf, lkv0, keyKind, keyEq, mfind, mput, oInt, isZeroInt, forall_const, exists_eq_left', implies_true, IntKind.bits, ↓reduceIte, Nat.reduceEqDiff, Nat.reduceAdd, Nat.reduceSub, Nat.reduceMul, Nat.reduceLT, Nat.reduceLeDiff, Nat.reduceBEq, Int.reduceLE, Int.reduceLT, Int.reduceToNat, reduceCtorEq, w1]
      exact ⟨0, l, rfl, by simp, by omega, rfl, rfl, ho, fun x hx => by rw [if_neg (by omega)]⟩
    · rintro m s G' ⟨g0, gn, gj, i, S, g2, g3, hi, rfl, hSl, hob, hS⟩
      by_cases hlt : (i : Int) < (l.length : Int) - 1 - i
      · have hd : decide ((i : Int) < (l.length : Int) - 1 - i) = true := by simpa using hlt
        obtain ⟨j, hj⟩ := Int.eq_ofNat_of_zero_le (show 0 ≤ (l.length : Int) - 1 - i by omega)
        have hjn : j = l.length - 1 - i := by omega
        rw [hj] at g3 hd hlt
        have hi1 : i < S.length := by omega
        have hj1 : j < S.length := by omega
        have hil : i < l.length := by omega
        have hjl : j < l.length := by omega
        have hSi := rowsI_get (xs := S) hi1
        have hSj := rowsI_get (xs := S) hj1
        have hSj2 := rowsI_get (xs := S.set i S[j]) (i := j) (by rw [List.length_set]; exact hj1)
        have wi : IntKind.i64.wrap ((i : Int) + 1) = i + 1 := by rw [wrap64 (by omega) (by omega)]
        have wj : IntKind.i64.wrap ((j : Int) - 1) = (j : Int) - 1 := by rw [wrap64 (by omega) (by omega)]
        repeat' (first
          | (refine a_seq (fun K hK => ?_))
          | (refine a_block ?_)
          | (first | refine a_regionS ?_ | refine a_drawS (by decide +kernel) ?_ | refine a_region (fun K hK => ?_) | refine a_draw (by decide +kernel) (fun K hK => ?_) | refine a_ret ?_)
          | (refine a_skip ?_; try simp only [pst0, ↓reduceIte, Nat.reduceEqDiff])
          | (refine a_exit ?_; try simp only [pst0, ↓reduceIte, Nat.reduceEqDiff])
          | (refine a_cond _ (by (try simp (maxSteps := 2000000) only [am0, am1, am2, am3, amb0, amb1, amb2, amb3, amb4, lwn, drn, callee, wantedB, isW, eff, pev, pst0, retPost, resAll, resP, resV, intP, mkV, putC, pbin, peq, pint, pshift, pstr, pun, pconv, isShift, isConstB, app, subS, lay, rowsOf, lkv0, keyKind, keyEq, mfind, mput, oInt, isZeroInt, forall_const, exists_eq_left', implies_true, IntKind.bits, ↓reduceIte, Nat.reduceEqDiff, Nat.reduceAdd, Nat.reduceSub, Nat.reduceMul, Nat.reduceLT, Nat.reduceLeDiff, Nat.reduceBEq, Int.reduceLE, Int.reduceLT, Int.reduceToNat, reduceCtorEq, Ty.all, g0, g2, g3, hd, hob, hSi, hSj, hSj2, rowsI_set, putC, wi, wj, hil, hjl]); rfl) (fun hb => ?_) (fun hb => ?_) <;> (try simp only [hb0, decide_eq_true_eq, decide_eq_false_iff_not, reduceCtorEq] at hb) <;> (try (exfalso; omega)))
          | (with_reducible refine ite_in (fun hb => ?_) (fun hb => ?_) <;> (try simp only [Decidable.not_not] at hb) <;> (try simp only [hb, if_true, if_false, not_false_eq_true, not_true_eq_false, ↓reduceIte]) <;> (try simp only [hb0, decide_eq_true_eq, decide_eq_false_iff_not, reduceCtorEq] at hb) <;> (try (exfalso; omega)))
          | (refine hK _ _ ?_; clear hK; try simp only [pst0, ↓reduceIte, Nat.reduceEqDiff])
          | (clear hK; refine hK _ _ ?_; clear hK; try simp only [pst0, ↓reduceIte, Nat.reduceEqDiff])
          | (clear hK; clear hK; refine hK _ _ ?_; clear hK; try simp only [pst0, ↓reduceIte, Nat.reduceEqDiff])
          | (clear hK; clear hK; clear hK; refine hK _ _ ?_; clear hK; try simp only [pst0, ↓reduceIte, Nat.reduceEqDiff])
          | (with_reducible refine a_past _ rfl (by decide +kernel) ?_)
          | (with_reducible refine a_past2 (by simp only [List.forall_mem_cons, am0, am1, am2, am3, amb0, amb1, amb2, amb3, amb4, lwn, drn, callee, wantedB, isW, eff, pev, pst0, retPost, resAll, resP, resV, intP, mkV, putC, pbin, peq, pint, pshift, pstr, pun, pconv, isShift, isConstB, app, subS, lay, rowsOf, lkv0, keyKind, keyEq, mfind, mput, oInt, isZeroInt, forall_const, exists_eq_left', implies_true, IntKind.bits, ↓reduceIte, Nat.reduceEqDiff, Nat.reduceAdd, Nat.reduceSub, Nat.reduceMul, Nat.reduceLT, Nat.reduceLeDiff, Nat.reduceBEq, Int.reduceLE, Int.reduceLT, Int.reduceToNat, reduceCtorEq, Ty.all, g0, g2, g3, hd, hob, hSi, hSj, hSj2, rowsI_set, putC, wi, wj, hil, hjl]; (repeat' apply And.intro) <;> first | trivial | exact .inl (by decide +kernel)) ?_)
          | (rw [if_pos]; rotate_left 1; omega)
          | (simp (maxSteps := 2000000) only [am0, am1, am2, am3, amb0, amb1, amb2, amb3, amb4, lwn, drn, callee, wantedB, isW, eff, pev, pst0, retPost, resAll, resP, resV, intP, mkV, putC, pbin, peq, pint, pshift, pstr, pun, pconv, isShift, isConstB, app, subS, lay, rowsOf, lkv0, keyKind, keyEq, mfind, mput, oInt, isZeroInt, forall_const, exists_eq_left', implies_true, IntKind.bits, ↓reduceIte, Nat.reduceEqDiff, Nat.reduceAdd, Nat.reduceSub, Nat.reduceMul, Nat.reduceLT, Nat.reduceLeDiff, Nat.reduceBEq, Int.reduceLE, Int.reduceLT, Int.reduceToNat, reduceCtorEq, Ty.all, g0, g2, g3, hd, hob, hSi, hSj, hSj2, rowsI_set, putC, wi, wj, hil, hjl]))
        refine a_past2 (by simp only [List.forall_mem_cons, am0, am1, am2, am3, amb0, amb1, amb2, amb3, amb4, lwn, drn, callee, wantedB, isW, eff, pev, pst0, retPost, resAll, resP, resV, intP, mkV, putC, pbin, peq, pint, pshift, pstr, pun, pconv, isShift, isConstB, app, subS, lay, rowsOf, lkv0, keyKind, keyEq, mfind, mput, oInt, isZeroInt, forall_const, exists_eq_left', implies_true, IntKind.bits, ↓reduceIte, Nat.reduceEqDiff, Nat.reduceAdd, Nat.reduceSub, Nat.reduceMul, Nat.reduceLT, Nat.reduceLeDiff, Nat.reduceBEq, Int.reduceLE, Int.reduceLT, Int.reduceToNat, reduceCtorEq, Ty.all, g0, g2, g3, hd, hob, hSi, hSj, hSj2, rowsI_set, putC, wi, wj, hil, hjl]) ?_
        try simp (maxSteps := 2000000) only [am0, am1, am2, am3, amb0, amb1, amb2, amb3, amb4, lwn, drn, callee, wantedB, isW, eff, pev, pst0, retPost, resAll, resP, resV, intP, mkV, putC, pbin, peq, pint, pshift, pstr, pun, pconv, isShift, isConstB, app, subS, lay, rowsOf, lkv0, keyKind, keyEq, mfind, mput, oInt, isZeroInt, forall_const, exists_eq_left', implies_true, IntKind.bits, ↓reduceIte, Nat.reduceEqDiff, Nat.reduceAdd, Nat.reduceSub, Nat.reduceMul, Nat.reduceLT, Nat.reduceLeDiff, Nat.reduceBEq, Int.reduceLE, Int.reduceLT, Int.reduceToNat, reduceCtorEq, Ty.all, g0, g2, g3, hd, hob, hSi, hSj, hSj2, rowsI_set, putC, wi, wj, hil, hjl]
        repeat' (first
          | (refine a_seq (fun K hK => ?_))
          | (refine a_block ?_)
          | (first | refine a_regionS ?_ | refine a_drawS (by decide +kernel) ?_ | refine a_region (fun K hK => ?_) | refine a_draw (by decide +kernel) (fun K hK => ?_) | refine a_ret ?_)
          | (refine a_skip ?_; try simp only [pst0, ↓reduceIte, Nat.reduceEqDiff])
          | (refine a_exit ?_; try simp only [pst0, ↓reduceIte, Nat.reduceEqDiff])
          | (refine a_cond _ (by (try simp (maxSteps := 2000000) only [am0, am1, am2, am3, amb0, amb1, amb2, amb3, amb4, lwn, drn, callee, wantedB, isW, eff, pev, pst0, retPost, resAll, resP, resV, intP, mkV, putC, pbin, peq, pint, pshift, pstr, pun, pconv, isShift, isConstB, app, subS, lay, rowsOf, lkv0, keyKind, keyEq, mfind, mput, oInt, isZeroInt, forall_const, exists_eq_left', implies_true, IntKind.bits, ↓reduceIte, Nat.reduceEqDiff, Nat.reduceAdd, Nat.reduceSub, Nat.reduceMul, Nat.reduceLT, Nat.reduceLeDiff, Nat.reduceBEq, Int.reduceLE, Int.reduceLT, Int.reduceToNat, reduceCtorEq, Ty.all, g0, g2, g3, hd, hob, hSi, hSj, hSj2, rowsI_set, putC, wi, wj, hil, hjl]); rfl) (fun hb => ?_) (fun hb => ?_) <;> (try simp only [hb0, decide_eq_true_eq, decide_eq_false_iff_not, reduceCtorEq] at hb) <;> (try (exfalso; omega)))
          | (with_reducible refine ite_in (fun hb => ?_) (fun hb => ?_) <;> (try simp only [Decidable.not_not] at hb) <;> (try simp only [hb, if_true, if_false, not_false_eq_true, not_true_eq_false, ↓reduceIte]) <;> (try simp only [hb0, decide_eq_true_eq, decide_eq_false_iff_not, reduceCtorEq] at hb) <;> (try (exfalso; omega)))
          | (refine hK _ _ ?_; clear hK; try simp only [pst0, ↓reduceIte, Nat.reduceEqDiff])
          | (clear hK; refine hK _ _ ?_; clear hK; try simp only [pst0, ↓reduceIte, Nat.reduceEqDiff])
          | (clear hK; clear hK; refine hK _ _ ?_; clear hK; try simp only [pst0, ↓reduceIte, Nat.reduceEqDiff])
          | (clear hK; clear hK; clear hK; refine hK _ _ ?_; clear hK; try simp only [pst0, ↓reduceIte, Nat.reduceEqDiff])
          | (with_reducible refine a_past _ rfl (by decide +kernel) ?_)
          | (with_reducible refine a_past2 (by simp only [List.forall_mem_cons, am0, am1, am2, am3, amb0, amb1, amb2, amb3, amb4, lwn, drn, callee, wantedB, isW, eff, pev, pst0, retPost, resAll, resP, resV, intP, mkV, putC, pbin, peq, pint, pshift, pstr, pun, pconv, isShift, isConstB, app, subS, lay, rowsOf, lkv0, keyKind, keyEq, mfind, mput, oInt, isZeroInt, forall_const, exists_eq_left', implies_true, IntKind.bits, ↓reduceIte, Nat.reduceEqDiff, Nat.reduceAdd, Nat.reduceSub, Nat.reduceMul, Nat.reduceLT, Nat.reduceLeDiff, Nat.reduceBEq, Int.reduceLE, Int.reduceLT, Int.reduceToNat, reduceCtorEq, Ty.all, g0, g2, g3, hd, hob, hSi, hSj, hSj2, rowsI_set, putC, wi, wj, hil, hjl]; (repeat' apply And.intro) <;> first | trivial | exact .inl (by decide +kernel)) ?_)
          | (rw [if_pos]; rotate_left 1; omega)
          | (simp (maxSteps := 2000000) only [am0, am1, am2, am3, amb0, amb1, amb2, amb3, amb4, lwn, drn, callee, wantedB, isW, eff, pev, pst0, retPost, resAll, resP, resV, intP, mkV, putC, pbin, peq, pint, pshift, pstr, pun, pconv, isShift, isConstB, app, subS, lay, rowsOf, lkv0, keyKind, keyEq, mfind, mput, oInt, isZeroInt, forall_const, exists_eq_left', implies_true, IntKind.bits, ↓reduceIte, Nat.reduceEqDiff, Nat.reduceAdd, Nat.reduceSub, Nat.reduceMul, Nat.reduceLT, Nat.reduceLeDiff, Nat.reduceBEq, Int.reduceLE, Int.reduceLT, Int.reduceToNat, reduceCtorEq, Ty.all, g0, g2, g3, hd, hob, hSi, hSj, hSj2, rowsI_set, putC, wi, wj, hil, hjl]))
        refine ⟨l.length + 1 - (i + 1), by omega, gn, fun k hk => by rw [if_neg hk, if_neg hk]; exact gj k hk, i + 1, (S.set i S[j]).set j S[i], by rw [show ((i + 1 : Nat) : Int) = i + 1 by omega], by congr 2; omega, by omega, rfl, by rw [List.length_set, List.length_set]; exact hSl, rfl, fun x hx => ?_⟩
        rw [List.getElem?_set, List.getElem?_set]
        have hxi := hS i hil
        have hxj := hS j hjl
        rw [if_neg (by omega), List.getElem?_eq_getElem hi1] at hxi
        rw [if_neg (by omega), List.getElem?_eq_getElem hj1] at hxj
        by_cases e1 : j = x
        · subst e1
          rw [if_pos rfl, if_pos (by rw [List.length_set]; exact hj1), if_pos (by omega), hxi]
          congr 1; omega
        · rw [if_neg e1]
          by_cases e2 : i = x
          · subst e2
            rw [if_pos rfl, if_pos hi1, if_pos (by omega), hxj]
            congr 1
          · rw [if_neg e2, hS x hx]
            by_cases e3 : x < i ∨ l.length ≤ x + i
            · rw [if_pos e3, if_pos (by omega)]
            · rw [if_neg e3, if_neg (by omega)]
      · have hd : decide ((i : Int) < (l.length : Int) - 1 - i) = false := by simpa using hlt
        repeat' (first
          | (refine a_seq (fun K hK => ?_))
          | (refine a_block ?_)
          | (first | refine a_regionS ?_ | refine a_drawS (by decide +kernel) ?_ | refine a_region (fun K hK => ?_) | refine a_draw (by decide +kernel) (fun K hK => ?_) | refine a_ret ?_)
          | (refine a_skip ?_; try simp only [pst0, ↓reduceIte, Nat.reduceEqDiff])
          | (refine a_exit ?_; try simp only [pst0, ↓reduceIte, Nat.reduceEqDiff])
          | (refine a_cond _ (by (try simp (maxSteps := 2000000) only [am0, am1, am2, am3, amb0, amb1, amb2, amb3, amb4, lwn, drn, callee, wantedB, isW, eff, pev, pst0, retPost, resAll, resP, resV, intP, mkV, putC, pbin, peq, pint, pshift, pstr, pun, pconv, isShift, isConstB, app, subS, lay, rowsOf, lkv0, keyKind, keyEq, mfind, mput, oInt, isZeroInt, forall_const, exists_eq_left', implies_true, IntKind.bits, ↓reduceIte, Nat.reduceEqDiff, Nat.reduceAdd, Nat.reduceSub, Nat.reduceMul, Nat.reduceLT, Nat.reduceLeDiff, Nat.reduceBEq, Int.reduceLE, Int.reduceLT, Int.reduceToNat, reduceCtorEq, Ty.all, g0, g2, g3, hd]); rfl) (fun hb => ?_) (fun hb => ?_) <;> (try simp only [hb0, decide_eq_true_eq, decide_eq_false_iff_not, reduceCtorEq] at hb) <;> (try (exfalso; omega)))
          | (with_reducible refine ite_in (fun hb => ?_) (fun hb => ?_) <;> (try simp only [Decidable.not_not] at hb) <;> (try simp only [hb, if_true, if_false, not_false_eq_true, not_true_eq_false, ↓reduceIte]) <;> (try simp only [hb0, decide_eq_true_eq, decide_eq_false_iff_not, reduceCtorEq] at hb) <;> (try (exfalso; omega)))
          | (refine hK _ _ ?_; clear hK; try simp only [pst0, ↓reduceIte, Nat.reduceEqDiff])
          | (clear hK; refine hK _ _ ?_; clear hK; try simp only [pst0, ↓reduceIte, Nat.reduceEqDiff])
          | (clear hK; clear hK; refine hK _ _ ?_; clear hK; try simp only [pst0, ↓reduceIte, Nat.reduceEqDiff])
          | (clear hK; clear hK; clear hK; refine hK _ _ ?_; clear hK; try simp only [pst0, ↓reduceIte, Nat.reduceEqDiff])
          | (with_reducible refine a_past _ rfl (by decide +kernel) ?_)
          | (with_reducible refine a_past2 (by simp only [List.forall_mem_cons, am0, am1, am2, am3, amb0, amb1, amb2, amb3, amb4, lwn, drn, callee, wantedB, isW, eff, pev, pst0, retPost, resAll, resP, resV, intP, mkV, putC, pbin, peq, pint, pshift, pstr, pun, pconv, isShift, isConstB, app, subS, lay, rowsOf, lkv0, keyKind, keyEq, mfind, mput, oInt, isZeroInt, forall_const, exists_eq_left', implies_true, IntKind.bits, ↓reduceIte, Nat.reduceEqDiff, Nat.reduceAdd, Nat.reduceSub, Nat.reduceMul, Nat.reduceLT, Nat.reduceLeDiff, Nat.reduceBEq, Int.reduceLE, Int.reduceLT, Int.reduceToNat, reduceCtorEq, Ty.all, g0, g2, g3, hd]; (repeat' apply And.intro) <;> first | trivial | exact .inl (by decide +kernel)) ?_)
          | (rw [if_pos]; rotate_left 1; omega)
          | (simp (maxSteps := 2000000) only [am0, am1, am2, am3, amb0, amb1, amb2, amb3, amb4, lwn, drn, callee, wantedB, isW, eff, pev, pst0, retPost, resAll, resP, resV, intP, mkV, putC, pbin, peq, pint, pshift, pstr, pun, pconv, isShift, isConstB, app, subS, lay, rowsOf, lkv0, keyKind, keyEq, mfind, mput, oInt, isZeroInt, forall_const, exists_eq_left', implies_true, IntKind.bits, ↓reduceIte, Nat.reduceEqDiff, Nat.reduceAdd, Nat.reduceSub, Nat.reduceMul, Nat.reduceLT, Nat.reduceLeDiff, Nat.reduceBEq, Int.reduceLE, Int.reduceLT, Int.reduceToNat, reduceCtorEq, Ty.all, g0, g2, g3, hd]))
        have hrev : S = l.reverse := by
          apply List.ext_getElem?
          intro x
          by_cases hx : x < l.length
          · rw [hS x hx, List.getElem?_reverse hx]
            by_cases e3 : x < i ∨ l.length ≤ x + i
            · rw [if_pos e3]
            · rw [if_neg e3]; congr 1; omega
          · rw [List.getElem?_eq_none (by omega), List.getElem?_eq_none (by rw [List.length_reverse]; omega)]
        refine ⟨.inr ⟨id, h1, by omega, by rw [rowsI_len, List.length_reverse], by rw [← hrev]; exact hob⟩, gn, fun j hj => gj j (fun e => hj l.length (by rw [e]))⟩

/-- the operators on the way up, until a state without a parent; none: a ring -/
def walkP (E : List Ent) : Nat → Nat → List Int → Option (List Int)
  | 0, _, _ => none
  | f + 1, id, acc => match E[id]? with
    | none => none
    | some e => if e.par < 0 then some acc else if E.length < acc.length + 1 then none else walkP E f e.par.toNat (acc ++ [e.op])
def pathM (E : List Ent) (id : Nat) : Option (List Int) := (walkP E (E.length + 2) id []).map List.reverse
def pathPV : Option (List Int) → PV
  | some l => .tup [.imm 1 (rowsI l), nilE]
  | none => .tup [nilS, errPV 21]
theorem Tl.ge {h : Heap} {id0 z : Nat} {p : PV} {rows : List (List PV)} (t : Tl h id0 z p rows) : ∀ j len, p = .own j 0 len → id0 ≤ j ∧ j < h.next := by
  rcases t with ⟨_, rfl | rfl⟩ | ⟨id, h1, h2, rfl, h3⟩
  · intro j len h; simp at h
  · intro j len h; simp at h
  · intro j len h; simp at h; omega
theorem rpath_o {G : Heap} {O : Nat → Prop} {R : Nat} {xs : List Int} {E : List Ent} {n : Nat} (r : Reg G O R xs E) (hv : ∀ e ∈ E, -1 ≤ e.par ∧ e.par < E.length) (hn : n < E.length) : PCall Try.prog 43 [.ptr R 0 0, iPV n] G fun v G' => Keep G G' ∧ ((∃ (l : List Int) (p : PV), pathM E n = some l ∧ v = .tup [p, nilE] ∧ Tl G' G.next 1 p (rowsI l)) ∨ (pathM E n = none ∧ v = .tup [nilS, errPV 21])) := by
  refine pcall_wf Ty.hb_43 (fun hwf => ?_)
  have d1 : (decide (0 ≤ (n : Int)) && decide ((n : Int) < (E.length : Int))) = true := by simp; omega
  have hE := r.len
  refine pcall_body (ow := fun _ => false) (wf := fun _ => false) Ty.mixed Try.func43 rfl Ty.hb_43 (by rw [Try.ntmps43]; simp) ?_
  rw [Try.ntmps43, Try.results43]
  repeat' (first
    | (refine a_seq (fun K hK => ?_))
    | (refine a_block ?_)
    | ((first | refine a_regionS ?_ | refine a_region (fun K hK => ?_) | refine a_ret ?_); simp (maxSteps := 2000000) only [am0, am1, am2, am3, amb0, amb1, amb2, amb3, amb4, lwn, drn, callee, wantedB, isW, eff, pev, pst0, retPost, resAll, resP, resV, intP, mkV, putC, pbin, peq, pint, pshift, pstr, pun, pconv, isShift, isConstB, app, subS, lay, rowsOf, lkv0, keyKind, keyEq, mfind, mput, oInt, isZeroInt, forall_const, exists_eq_left', implies_true, IntKind.bits, ↓reduceIte, Nat.reduceEqDiff, Nat.reduceAdd, Nat.reduceSub, Nat.reduceMul, Nat.reduceLT, Nat.reduceLeDiff, Nat.reduceBEq, Int.reduceLE, Int.reduceLT, Int.reduceToNat, reduceCtorEq, Ty.all, iPV])
    | (refine a_skip ?_; try simp only [pst0, ↓reduceIte, Nat.reduceEqDiff])
    | (refine a_exit ?_; try simp only [pst0, ↓reduceIte, Nat.reduceEqDiff])
    | (refine a_cond _ (by (try simp (maxSteps := 2000000) only [am0, am1, am2, am3, amb0, amb1, amb2, amb3, amb4, lwn, drn, callee, wantedB, isW, eff, pev, pst0, retPost, resAll, resP, resV, intP, mkV, putC, pbin, peq, pint, pshift, pstr, pun, pconv, isShift, isConstB, app, subS, lay, rowsOf, lkv0, keyKind, keyEq, mfind, mput, oInt, isZeroInt, forall_const, exists_eq_left', implies_true, IntKind.bits, ↓reduceIte, Nat.reduceEqDiff, Nat.reduceAdd, Nat.reduceSub, Nat.reduceMul, Nat.reduceLT, Nat.reduceLeDiff, Nat.reduceBEq, Int.reduceLE, Int.reduceLT, Int.reduceToNat, reduceCtorEq, Ty.all, iPV]); rfl) (fun hb => ?_) (fun hb => ?_) <;> (try simp only [hb0, decide_eq_true_eq, decide_eq_false_iff_not, reduceCtorEq] at hb) <;> (try (exfalso; omega)))
    | (with_reducible refine ite_in (fun hb => ?_) (fun hb => ?_) <;> (try simp only [Decidable.not_not] at hb) <;> (try simp only [hb, if_true, if_false, not_false_eq_true, not_true_eq_false, ↓reduceIte]) <;> (try simp only [hb0, decide_eq_true_eq, decide_eq_false_iff_not, reduceCtorEq] at hb) <;> (try (exfalso; omega)))
    | (refine hK _ _ ?_; clear hK; try simp only [pst0, ↓reduceIte, Nat.reduceEqDiff])
    | (clear hK; refine hK _ _ ?_; clear hK; try simp only [pst0, ↓reduceIte, Nat.reduceEqDiff])
    | (clear hK; clear hK; refine hK _ _ ?_; clear hK; try simp only [pst0, ↓reduceIte, Nat.reduceEqDiff])
    | (clear hK; clear hK; clear hK; refine hK _ _ ?_; clear hK; try simp only [pst0, ↓reduceIte, Nat.reduceEqDiff])
    | (rw [if_pos]; rotate_left 1; omega; simp (maxSteps := 2000000) only [am0, am1, am2, am3, amb0, amb1, amb2, amb3, amb4, lwn, drn, callee, wantedB, isW, eff, pev, pst0, retPost, resAll, resP, resV, intP, mkV, putC, pbin, peq, pint, pshift, pstr, pun, pconv, isShift, isConstB, app, subS, lay, rowsOf, lkv0, keyKind, keyEq, mfind, mput, oInt, isZeroInt, forall_const, exists_eq_left', implies_true, IntKind.bits, ↓reduceIte, Nat.reduceEqDiff, Nat.reduceAdd, Nat.reduceSub, Nat.reduceMul, Nat.reduceLT, Nat.reduceLeDiff, Nat.reduceBEq, Int.reduceLE, Int.reduceLT, Int.reduceToNat, reduceCtorEq, Ty.all, iPV]))
  refine owp_useQ (has_c (x := n) r) (by (try simp only [am0, am1, am2, am3, amb0, amb1, amb2, amb3, amb4, lwn, drn, callee, wantedB, isW, eff, pev, pst0, retPost, resAll, resP, resV, intP, mkV, putC, pbin, peq, pint, pshift, pstr, pun, pconv, isShift, isConstB, app, subS, lay, rowsOf, lkv0, keyKind, keyEq, mfind, mput, oInt, isZeroInt, forall_const, exists_eq_left', implies_true, IntKind.bits, ↓reduceIte, Nat.reduceEqDiff, Nat.reduceAdd, Nat.reduceSub, Nat.reduceMul, Nat.reduceLT, Nat.reduceLeDiff, Nat.reduceBEq, Int.reduceLE, Int.reduceLT, Int.reduceToNat, reduceCtorEq, d1, iPV]); try rfl) ?_
  simp (maxSteps := 2000000) only [am0, am1, am2, am3, amb0, amb1, amb2, amb3, amb4, lwn, drn, callee, wantedB, isW, eff, pev, pst0, retPost, resAll, resP, resV, intP, mkV, putC, pbin, peq, pint, pshift, pstr, pun, pconv, isShift, isConstB, app, subS, lay, rowsOf, lkv0, keyKind, keyEq, mfind, mput, oInt, isZeroInt, forall_const, exists_eq_left', implies_true, IntKind.bits, ↓reduceIte, Nat.reduceEqDiff, Nat.reduceAdd, Nat.reduceSub, Nat.reduceMul, Nat.reduceLT, Nat.reduceLeDiff, Nat.reduceBEq, Int.reduceLE, Int.reduceLT, Int.reduceToNat, reduceCtorEq, Ty.all, d1, iPV]
  obtain ⟨P0, hP0⟩ : ∃ P0, P0 = walkP E (E.length + 2) n [] := ⟨_, rfl⟩
  have hpm : pathM E n = P0.map List.reverse := by unfold pathM; rw [hP0]
  repeat' (first
    | (refine a_seq (fun K hK => ?_))
    | (refine a_block ?_)
    | ((first | refine a_regionS ?_ | refine a_region (fun K hK => ?_) | refine a_ret ?_); simp (maxSteps := 2000000) only [am0, am1, am2, am3, amb0, amb1, amb2, amb3, amb4, lwn, drn, callee, wantedB, isW, eff, pev, pst0, retPost, resAll, resP, resV, intP, mkV, putC, pbin, peq, pint, pshift, pstr, pun, pconv, isShift, isConstB, app, subS, lay, rowsOf, lkv0, keyKind, keyEq, mfind, mput, oInt, isZeroInt, forall_const, exists_eq_left', implies_true, IntKind.bits, ↓reduceIte, Nat.reduceEqDiff, Nat.reduceAdd, Nat.reduceSub, Nat.reduceMul, Nat.reduceLT, Nat.reduceLeDiff, Nat.reduceBEq, Int.reduceLE, Int.reduceLT, Int.reduceToNat, reduceCtorEq, Ty.all, d1, iPV])
    | (refine a_skip ?_; try simp only [pst0, ↓reduceIte, Nat.reduceEqDiff])
    | (refine a_exit ?_; try simp only [pst0, ↓reduceIte, Nat.reduceEqDiff])
    | (refine a_cond _ (by (try simp (maxSteps := 2000000) only [am0, am1, am2, am3, amb0, amb1, amb2, amb3, amb4, lwn, drn, callee, wantedB, isW, eff, pev, pst0, retPost, resAll, resP, resV, intP, mkV, putC, pbin, peq, pint, pshift, pstr, pun, pconv, isShift, isConstB, app, subS, lay, rowsOf, lkv0, keyKind, keyEq, mfind, mput, oInt, isZeroInt, forall_const, exists_eq_left', implies_true, IntKind.bits, ↓reduceIte, Nat.reduceEqDiff, Nat.reduceAdd, Nat.reduceSub, Nat.reduceMul, Nat.reduceLT, Nat.reduceLeDiff, Nat.reduceBEq, Int.reduceLE, Int.reduceLT, Int.reduceToNat, reduceCtorEq, Ty.all, d1, iPV]); rfl) (fun hb => ?_) (fun hb => ?_) <;> (try simp only [hb0, decide_eq_true_eq, decide_eq_false_iff_not, reduceCtorEq] at hb) <;> (try (exfalso; omega)))
    | (with_reducible refine ite_in (fun hb => ?_) (fun hb => ?_) <;> (try simp only [Decidable.not_not] at hb) <;> (try simp only [hb, if_true, if_false, not_false_eq_true, not_true_eq_false, ↓reduceIte]) <;> (try simp only [hb0, decide_eq_true_eq, decide_eq_false_iff_not, reduceCtorEq] at hb) <;> (try (exfalso; omega)))
    | (refine hK _ _ ?_; clear hK; try simp only [pst0, ↓reduceIte, Nat.reduceEqDiff])
    | (clear hK; refine hK _ _ ?_; clear hK; try simp only [pst0, ↓reduceIte, Nat.reduceEqDiff])
    | (clear hK; clear hK; refine hK _ _ ?_; clear hK; try simp only [pst0, ↓reduceIte, Nat.reduceEqDiff])
    | (clear hK; clear hK; clear hK; refine hK _ _ ?_; clear hK; try simp only [pst0, ↓reduceIte, Nat.reduceEqDiff])
    | (rw [if_pos]; rotate_left 1; omega; simp (maxSteps := 2000000) only [am0, am1, am2, am3, amb0, amb1, amb2, amb3, amb4, lwn, drn, callee, wantedB, isW, eff, pev, pst0, retPost, resAll, resP, resV, intP, mkV, putC, pbin, peq, pint, pshift, pstr, pun, pconv, isShift, isConstB, app, subS, lay, rowsOf, lkv0, keyKind, keyEq, mfind, mput, oInt, isZeroInt, forall_const, exists_eq_left', implies_true, IntKind.bits, ↓reduceIte, Nat.reduceEqDiff, Nat.reduceAdd, Nat.reduceSub, Nat.reduceMul, Nat.reduceLT, Nat.reduceLeDiff, Nat.reduceBEq, Int.reduceLE, Int.reduceLT, Int.reduceToNat, reduceCtorEq, Ty.all, d1, iPV]))
  refine a_loop (fun m s G' => s 0 = .ptr R 0 0 ∧ Keep G G' ∧ ∃ (id : Nat) (acc : List Int) (o : PV), s 1 = .sc (.int .i64 id) ∧ s 6 = o ∧ id < E.length ∧ Tl G' G.next 1 o (rowsI acc) ∧ m + acc.length = E.length + 2 ∧ acc.length ≤ E.length ∧ P0 = walkP E m id acc) (E.length + 2) ?_ ?_
  · simp only [am0, am1, am2, am3, amb0, amb1, amb2, amb3, amb4, lwn, drn, callee, wantedB, isW, eff, pev, pst0, retPost, resAll, resP, resV, intP, mkV, putC, pbin, peq, pint, pshift, pstr, pun, pconv, isShift, isConstB, app, subS, lay, rowsOf, lkv0, keyKind, keyEq, mfind, mput, oInt, isZeroInt, forall_const, exists_eq_left', implies_true, IntKind.bits, ↓reduceIte, Nat.reduceEqDiff, Nat.reduceAdd, Nat.reduceSub, Nat.reduceMul, Nat.reduceLT, Nat.reduceLeDiff, Nat.reduceBEq, Int.reduceLE, Int.reduceLT, Int.reduceToNat, reduceCtorEq]
    exact ⟨Keep.refl G, n, [], _, rfl, rfl, hn, Tl.nil, by simp, by simp, hP0⟩
  · clear hP0
    rintro m s G' ⟨g0, hkp, id, acc, o, g1, g6, hid, tl, hf, hacc, hw⟩
    obtain ⟨e, he⟩ : ∃ e, E[id]? = some e := ⟨E[id], List.getElem?_eq_getElem hid⟩
    have hve := hv e (List.mem_of_getElem? he)
    have r' : Reg G' O R xs E := r.frame hkp.1 (fun j _ hj => hkp.2 j hj)
    obtain ⟨M, eid, k1, k2, k3, k4, k5⟩ := r'.ents he
    obtain ⟨_, _, _, _, _, _, _, _, _, k7, _⟩ := r'.ex
    obtain ⟨f', rfl⟩ : ∃ f', m = f' + 1 := ⟨m - 1, by omega⟩
    rw [walkP, he] at hw
    simp only at hw
    repeat' (first
      | (refine a_seq (fun K hK => ?_))
      | (refine a_block ?_)
      | ((first | refine a_regionS ?_ | refine a_region (fun K hK => ?_) | refine a_ret ?_); simp (maxSteps := 2000000) only [am0, am1, am2, am3, amb0, amb1, amb2, amb3, amb4, lwn, drn, callee, wantedB, isW, eff, pev, pst0, retPost, resAll, resP, resV, intP, mkV, putC, pbin, peq, pint, pshift, pstr, pun, pconv, isShift, isConstB, app, subS, lay, rowsOf, lkv0, keyKind, keyEq, mfind, mput, oInt, isZeroInt, forall_const, exists_eq_left', implies_true, IntKind.bits, ↓reduceIte, Nat.reduceEqDiff, Nat.reduceAdd, Nat.reduceSub, Nat.reduceMul, Nat.reduceLT, Nat.reduceLeDiff, Nat.reduceBEq, Int.reduceLE, Int.reduceLT, Int.reduceToNat, reduceCtorEq, Ty.all, g0, g1, g6, k1, k2, hid])
      | (refine a_skip ?_; try simp only [pst0, ↓reduceIte, Nat.reduceEqDiff])
      | (refine a_exit ?_; try simp only [pst0, ↓reduceIte, Nat.reduceEqDiff])
      | (refine a_cond _ (by (try simp (maxSteps := 2000000) only [am0, am1, am2, am3, amb0, amb1, amb2, amb3, amb4, lwn, drn, callee, wantedB, isW, eff, pev, pst0, retPost, resAll, resP, resV, intP, mkV, putC, pbin, peq, pint, pshift, pstr, pun, pconv, isShift, isConstB, app, subS, lay, rowsOf, lkv0, keyKind, keyEq, mfind, mput, oInt, isZeroInt, forall_const, exists_eq_left', implies_true, IntKind.bits, ↓reduceIte, Nat.reduceEqDiff, Nat.reduceAdd, Nat.reduceSub, Nat.reduceMul, Nat.reduceLT, Nat.reduceLeDiff, Nat.reduceBEq, Int.reduceLE, Int.reduceLT, Int.reduceToNat, reduceCtorEq, Ty.all, g0, g1, g6, k1, k2, hid]); rfl) (fun hb => ?_) (fun hb => ?_) <;> (try simp only [hb0, decide_eq_true_eq, decide_eq_false_iff_not, reduceCtorEq] at hb) <;> (try (exfalso; omega)))
      | (with_reducible refine ite_in (fun hb => ?_) (fun hb => ?_) <;> (try simp only [Decidable.not_not] at hb) <;> (try simp only [hb, if_true, if_false, not_false_eq_true, not_true_eq_false, ↓reduceIte]) <;> (try simp only [hb0, decide_eq_true_eq, decide_eq_false_iff_not, reduceCtorEq] at hb) <;> (try (exfalso; omega)))
      | (refine hK _ _ ?_; clear hK; try simp only [pst0, ↓reduceIte, Nat.reduceEqDiff])
      | (clear hK; refine hK _ _ ?_; clear hK; try simp only [pst0, ↓reduceIte, Nat.reduceEqDiff])
      | (clear hK; clear hK; refine hK _ _ ?_; clear hK; try simp only [pst0, ↓reduceIte, Nat.reduceEqDiff])
      | (clear hK; clear hK; clear hK; refine hK _ _ ?_; clear hK; try simp only [pst0, ↓reduceIte, Nat.reduceEqDiff])
      | (rw [if_pos]; rotate_left 1; omega; simp (maxSteps := 2000000) only [am0, am1, am2, am3, amb0, amb1, amb2, amb3, amb4, lwn, drn, callee, wantedB, isW, eff, pev, pst0, retPost, resAll, resP, resV, intP, mkV, putC, pbin, peq, pint, pshift, pstr, pun, pconv, isShift, isConstB, app, subS, lay, rowsOf, lkv0, keyKind, keyEq, mfind, mput, oInt, isZeroInt, forall_const, exists_eq_left', implies_true, IntKind.bits, ↓reduceIte, Nat.reduceEqDiff, Nat.reduceAdd, Nat.reduceSub, Nat.reduceMul, Nat.reduceLT, Nat.reduceLeDiff, Nat.reduceBEq, Int.reduceLE, Int.reduceLT, Int.reduceToNat, reduceCtorEq, Ty.all, g0, g1, g6, k1, k2, hid]))
    try simp only [am0, am1, am2, am3, amb0, amb1, amb2, amb3, amb4, lwn, drn, callee, wantedB, isW, eff, pev, pst0, retPost, resAll, resP, resV, intP, mkV, putC, pbin, peq, pint, pshift, pstr, pun, pconv, isShift, isConstB, app, subS, lay, rowsOf, lkv0, keyKind, keyEq, mfind, mput, oInt, isZeroInt, forall_const, exists_eq_left', implies_true, IntKind.bits, ↓reduceIte, Nat.reduceEqDiff, Nat.reduceAdd, Nat.reduceSub, Nat.reduceMul, Nat.reduceLT, Nat.reduceLeDiff, Nat.reduceBEq, Int.reduceLE, Int.reduceLT, Int.reduceToNat, reduceCtorEq, Ty.all, he, entRow]
    obtain ⟨H, hH⟩ : ∃ H, H = (G'.new (.arr 3 [[.sc (.int .i64 0), .sc (.int .i64 0), .sc (.int .i64 0)]])).set G'.next (.arr 3 [[.sc (.int .i64 e.par), .sc (.int .i64 e.op), .sc (.int .i64 e.cost)]]) := ⟨_, rfl⟩
    have HK : Keep G H := by rw [hH]; exact keep_set hkp.1 (keep_new hkp)
    have H3 : H.obj G'.next = some (.arr 3 [[.sc (.int .i64 e.par), .sc (.int .i64 e.op), .sc (.int .i64 e.cost)]]) := by rw [hH, set_obj, if_pos rfl]
    have H4 : H.next = G'.next + 1 := by rw [hH]; rfl
    have H5 : ∀ j, j < G'.next → H.obj j = G'.obj j := by
      intro j hj
      rw [hH, set_obj, if_neg (by omega), new_obj, if_neg (by omega)]
    rw [← hH]; clear hH
    have tlH : Tl H G.next 1 o (rowsI acc) := Tl.fr tl (by omega) (fun j len hj => H5 j (Tl.lt tl j len hj))
    have HR := H5 R k7
    rw [k1] at HR
    by_cases hp : e.par < 0
    · have hd : decide (e.par < 0) = true := by simpa using hp
      rw [if_pos hp] at hw
      repeat' (first
        | (refine a_seq (fun K hK => ?_))
        | (refine a_block ?_)
        | ((first | refine a_regionS ?_ | refine a_region (fun K hK => ?_) | refine a_ret ?_); simp (maxSteps := 2000000) only [am0, am1, am2, am3, amb0, amb1, amb2, amb3, amb4, lwn, drn, callee, wantedB, isW, eff, pev, pst0, retPost, resAll, resP, resV, intP, mkV, putC, pbin, peq, pint, pshift, pstr, pun, pconv, isShift, isConstB, app, subS, lay, rowsOf, lkv0, keyKind, keyEq, mfind, mput, oInt, isZeroInt, forall_const, exists_eq_left', implies_true, IntKind.bits, ↓reduceIte, Nat.reduceEqDiff, Nat.reduceAdd, Nat.reduceSub, Nat.reduceMul, Nat.reduceLT, Nat.reduceLeDiff, Nat.reduceBEq, Int.reduceLE, Int.reduceLT, Int.reduceToNat, reduceCtorEq, Ty.all, g0, g1, g6, H3, hd])
        | (refine a_skip ?_; try simp only [pst0, ↓reduceIte, Nat.reduceEqDiff])
        | (refine a_exit ?_; try simp only [pst0, ↓reduceIte, Nat.reduceEqDiff])
        | (refine a_cond _ (by (try simp (maxSteps := 2000000) only [am0, am1, am2, am3, amb0, amb1, amb2, amb3, amb4, lwn, drn, callee, wantedB, isW, eff, pev, pst0, retPost, resAll, resP, resV, intP, mkV, putC, pbin, peq, pint, pshift, pstr, pun, pconv, isShift, isConstB, app, subS, lay, rowsOf, lkv0, keyKind, keyEq, mfind, mput, oInt, isZeroInt, forall_const, exists_eq_left', implies_true, IntKind.bits, ↓reduceIte, Nat.reduceEqDiff, Nat.reduceAdd, Nat.reduceSub, Nat.reduceMul, Nat.reduceLT, Nat.reduceLeDiff, Nat.reduceBEq, Int.reduceLE, Int.reduceLT, Int.reduceToNat, reduceCtorEq, Ty.all, g0, g1, g6, H3, hd]); rfl) (fun hb => ?_) (fun hb => ?_) <;> (try simp only [hb0, decide_eq_true_eq, decide_eq_false_iff_not, reduceCtorEq] at hb) <;> (try (exfalso; omega)))
        | (with_reducible refine ite_in (fun hb => ?_) (fun hb => ?_) <;> (try simp only [Decidable.not_not] at hb) <;> (try simp only [hb, if_true, if_false, not_false_eq_true, not_true_eq_false, ↓reduceIte]) <;> (try simp only [hb0, decide_eq_true_eq, decide_eq_false_iff_not, reduceCtorEq] at hb) <;> (try (exfalso; omega)))
        | (refine hK _ _ ?_; clear hK; try simp only [pst0, ↓reduceIte, Nat.reduceEqDiff])
        | (clear hK; refine hK _ _ ?_; clear hK; try simp only [pst0, ↓reduceIte, Nat.reduceEqDiff])
        | (clear hK; clear hK; refine hK _ _ ?_; clear hK; try simp only [pst0, ↓reduceIte, Nat.reduceEqDiff])
        | (clear hK; clear hK; clear hK; refine hK _ _ ?_; clear hK; try simp only [pst0, ↓reduceIte, Nat.reduceEqDiff])
        | (rw [if_pos]; rotate_left 1; omega; simp (maxSteps := 2000000) only [am0, am1, am2, am3, amb0, amb1, amb2, amb3, amb4, lwn, drn, callee, wantedB, isW, eff, pev, pst0, retPost, resAll, resP, resV, intP, mkV, putC, pbin, peq, pint, pshift, pstr, pun, pconv, isShift, isConstB, app, subS, lay, rowsOf, lkv0, keyKind, keyEq, mfind, mput, oInt, isZeroInt, forall_const, exists_eq_left', implies_true, IntKind.bits, ↓reduceIte, Nat.reduceEqDiff, Nat.reduceAdd, Nat.reduceSub, Nat.reduceMul, Nat.reduceLT, Nat.reduceLeDiff, Nat.reduceBEq, Int.reduceLE, Int.reduceLT, Int.reduceToNat, reduceCtorEq, Ty.all, g0, g1, g6, H3, hd]))
      refine owp_useL (rev_c tlH) (by (try simp only [am0, am1, am2, am3, amb0, amb1, amb2, amb3, amb4, lwn, drn, callee, wantedB, isW, eff, pev, pst0, retPost, resAll, resP, resV, intP, mkV, putC, pbin, peq, pint, pshift, pstr, pun, pconv, isShift, isConstB, app, subS, lay, rowsOf, lkv0, keyKind, keyEq, mfind, mput, oInt, isZeroInt, forall_const, exists_eq_left', implies_true, IntKind.bits, ↓reduceIte, Nat.reduceEqDiff, Nat.reduceAdd, Nat.reduceSub, Nat.reduceMul, Nat.reduceLT, Nat.reduceLeDiff, Nat.reduceBEq, Int.reduceLE, Int.reduceLT, Int.reduceToNat, reduceCtorEq, g6]); try rfl) (fun v G3 hv3 => ?_)
      obtain ⟨t3, n3, f3⟩ := hv3
      try simp (maxSteps := 2000000) only [am0, am1, am2, am3, amb0, amb1, amb2, amb3, amb4, lwn, drn, callee, wantedB, isW, eff, pev, pst0, retPost, resAll, resP, resV, intP, mkV, putC, pbin, peq, pint, pshift, pstr, pun, pconv, isShift, isConstB, app, subS, lay, rowsOf, lkv0, keyKind, keyEq, mfind, mput, oInt, isZeroInt, forall_const, exists_eq_left', implies_true, IntKind.bits, ↓reduceIte, Nat.reduceEqDiff, Nat.reduceAdd, Nat.reduceSub, Nat.reduceMul, Nat.reduceLT, Nat.reduceLeDiff, Nat.reduceBEq, Int.reduceLE, Int.reduceLT, Int.reduceToNat, reduceCtorEq, Ty.all, g6]
      repeat' (first
        | (refine a_seq (fun K hK => ?_))
        | (refine a_block ?_)
        | ((first | refine a_regionS ?_ | refine a_region (fun K hK => ?_) | refine a_ret ?_); simp (maxSteps := 2000000) only [am0, am1, am2, am3, amb0, amb1, amb2, amb3, amb4, lwn, drn, callee, wantedB, isW, eff, pev, pst0, retPost, resAll, resP, resV, intP, mkV, putC, pbin, peq, pint, pshift, pstr, pun, pconv, isShift, isConstB, app, subS, lay, rowsOf, lkv0, keyKind, keyEq, mfind, mput, oInt, isZeroInt, forall_const, exists_eq_left', implies_true, IntKind.bits, ↓reduceIte, Nat.reduceEqDiff, Nat.reduceAdd, Nat.reduceSub, Nat.reduceMul, Nat.reduceLT, Nat.reduceLeDiff, Nat.reduceBEq, Int.reduceLE, Int.reduceLT, Int.reduceToNat, reduceCtorEq, Ty.all, g6])
        | (refine a_skip ?_; try simp only [pst0, ↓reduceIte, Nat.reduceEqDiff])
        | (refine a_exit ?_; try simp only [pst0, ↓reduceIte, Nat.reduceEqDiff])
        | (refine a_cond _ (by (try simp (maxSteps := 2000000) only [am0, am1, am2, am3, amb0, amb1, amb2, amb3, amb4, lwn, drn, callee, wantedB, isW, eff, pev, pst0, retPost, resAll, resP, resV, intP, mkV, putC, pbin, peq, pint, pshift, pstr, pun, pconv, isShift, isConstB, app, subS, lay, rowsOf, lkv0, keyKind, keyEq, mfind, mput, oInt, isZeroInt, forall_const, exists_eq_left', implies_true, IntKind.bits, ↓reduceIte, Nat.reduceEqDiff, Nat.reduceAdd, Nat.reduceSub, Nat.reduceMul, Nat.reduceLT, Nat.reduceLeDiff, Nat.reduceBEq, Int.reduceLE, Int.reduceLT, Int.reduceToNat, reduceCtorEq, Ty.all, g6]); rfl) (fun hb => ?_) (fun hb => ?_) <;> (try simp only [hb0, decide_eq_true_eq, decide_eq_false_iff_not, reduceCtorEq] at hb) <;> (try (exfalso; omega)))
        | (with_reducible refine ite_in (fun hb => ?_) (fun hb => ?_) <;> (try simp only [Decidable.not_not] at hb) <;> (try simp only [hb, if_true, if_false, not_false_eq_true, not_true_eq_false, ↓reduceIte]) <;> (try simp only [hb0, decide_eq_true_eq, decide_eq_false_iff_not, reduceCtorEq] at hb) <;> (try (exfalso; omega)))
        | (refine hK _ _ ?_; clear hK; try simp only [pst0, ↓reduceIte, Nat.reduceEqDiff])
        | (clear hK; refine hK _ _ ?_; clear hK; try simp only [pst0, ↓reduceIte, Nat.reduceEqDiff])
        | (clear hK; clear hK; refine hK _ _ ?_; clear hK; try simp only [pst0, ↓reduceIte, Nat.reduceEqDiff])
        | (clear hK; clear hK; clear hK; refine hK _ _ ?_; clear hK; try simp only [pst0, ↓reduceIte, Nat.reduceEqDiff])
        | (rw [if_pos]; rotate_left 1; omega; simp (maxSteps := 2000000) only [am0, am1, am2, am3, amb0, amb1, amb2, amb3, amb4, lwn, drn, callee, wantedB, isW, eff, pev, pst0, retPost, resAll, resP, resV, intP, mkV, putC, pbin, peq, pint, pshift, pstr, pun, pconv, isShift, isConstB, app, subS, lay, rowsOf, lkv0, keyKind, keyEq, mfind, mput, oInt, isZeroInt, forall_const, exists_eq_left', implies_true, IntKind.bits, ↓reduceIte, Nat.reduceEqDiff, Nat.reduceAdd, Nat.reduceSub, Nat.reduceMul, Nat.reduceLT, Nat.reduceLeDiff, Nat.reduceBEq, Int.reduceLE, Int.reduceLT, Int.reduceToNat, reduceCtorEq, Ty.all, g6]))
      have hK3 : Keep G G3 := ⟨by rw [n3]; exact HK.1, fun j hj => by
        rw [f3 j (fun len ho => by have := (Tl.ge tlH j len ho).1; omega)]
        exact HK.2 j hj⟩
      exact ⟨hK3, .inl ⟨_, o, by rw [hpm, hw]; rfl, rfl, t3⟩⟩
    · have hd : decide (e.par < 0) = false := by simpa using hp
      rw [if_neg hp] at hw
      obtain ⟨pn, hpn⟩ := Int.eq_ofNat_of_zero_le (show 0 ≤ e.par by omega)
      obtain ⟨T, ht, hz, Tn, To⟩ := Tl.tail2 tlH
      have T3 : T.obj G'.next = some (.arr 3 [[.sc (.int .i64 e.par), .sc (.int .i64 e.op), .sc (.int .i64 e.cost)]]) := by
        rw [To G'.next (fun len ho => by have := Tl.lt tl _ len ho; omega)]; exact H3
      have oR : ∀ len, o ≠ .own R 0 len := fun len ho => by
        have h8 := (Tl.ge tl R len ho).1
        have h9 : R < G.next := by
          obtain ⟨_, _, _, _, _, _, _, _, _, q, _⟩ := r.ex
          exact q
        omega
      have TR := To R oR
      rw [HR] at TR
      have nT : ¬ (G'.next = T.next) := by omega
      have nR : ¬ (R = T.next) := by omega
      have hln : (rowsI acc).length = acc.length := rowsI_len acc
      have hsz : (acc.length + 1) * 8 ≤ 140737488355328 := by omega
      by_cases hc : E.length < acc.length + 1
      · have hdc : decide (((acc.length + 1 : Nat) : Int) > (E.length : Int)) = true := by simp; omega
        rw [if_pos hc] at hw
        repeat' (first
          | (refine a_seq (fun K hK => ?_))
          | (refine a_block ?_)
          | ((first | refine a_regionS ?_ | refine a_region (fun K hK => ?_) | refine a_ret ?_); simp (maxSteps := 2000000) only [am0, am1, am2, am3, amb0, amb1, amb2, amb3, amb4, lwn, drn, callee, wantedB, isW, eff, pev, pst0, retPost, resAll, resP, resV, intP, mkV, putC, pbin, peq, pint, pshift, pstr, pun, pconv, isShift, isConstB, app, subS, lay, rowsOf, lkv0, keyKind, keyEq, mfind, mput, oInt, isZeroInt, forall_const, exists_eq_left', implies_true, IntKind.bits, ↓reduceIte, Nat.reduceEqDiff, Nat.reduceAdd, Nat.reduceSub, Nat.reduceMul, Nat.reduceLT, Nat.reduceLeDiff, Nat.reduceBEq, Int.reduceLE, Int.reduceLT, Int.reduceToNat, reduceCtorEq, Ty.all, g0, g1, g6, H3, hd, ht, hz, hln, hsz, T3, TR, nT, nR, hdc, rowsI_app])
          | (refine a_skip ?_; try simp only [pst0, ↓reduceIte, Nat.reduceEqDiff])
          | (refine a_exit ?_; try simp only [pst0, ↓reduceIte, Nat.reduceEqDiff])
          | (refine a_cond _ (by (try simp (maxSteps := 2000000) only [am0, am1, am2, am3, amb0, amb1, amb2, amb3, amb4, lwn, drn, callee, wantedB, isW, eff, pev, pst0, retPost, resAll, resP, resV, intP, mkV, putC, pbin, peq, pint, pshift, pstr, pun, pconv, isShift, isConstB, app, subS, lay, rowsOf, lkv0, keyKind, keyEq, mfind, mput, oInt, isZeroInt, forall_const, exists_eq_left', implies_true, IntKind.bits, ↓reduceIte, Nat.reduceEqDiff, Nat.reduceAdd, Nat.reduceSub, Nat.reduceMul, Nat.reduceLT, Nat.reduceLeDiff, Nat.reduceBEq, Int.reduceLE, Int.reduceLT, Int.reduceToNat, reduceCtorEq, Ty.all, g0, g1, g6, H3, hd, ht, hz, hln, hsz, T3, TR, nT, nR, hdc, rowsI_app]); rfl) (fun hb => ?_) (fun hb => ?_) <;> (try simp only [hb0, decide_eq_true_eq, decide_eq_false_iff_not, reduceCtorEq] at hb) <;> (try (exfalso; omega)))
          | (with_reducible refine ite_in (fun hb => ?_) (fun hb => ?_) <;> (try simp only [Decidable.not_not] at hb) <;> (try simp only [hb, if_true, if_false, not_false_eq_true, not_true_eq_false, ↓reduceIte]) <;> (try simp only [hb0, decide_eq_true_eq, decide_eq_false_iff_not, reduceCtorEq] at hb) <;> (try (exfalso; omega)))
          | (refine hK _ _ ?_; clear hK; try simp only [pst0, ↓reduceIte, Nat.reduceEqDiff])
          | (clear hK; refine hK _ _ ?_; clear hK; try simp only [pst0, ↓reduceIte, Nat.reduceEqDiff])
          | (clear hK; clear hK; refine hK _ _ ?_; clear hK; try simp only [pst0, ↓reduceIte, Nat.reduceEqDiff])
          | (clear hK; clear hK; clear hK; refine hK _ _ ?_; clear hK; try simp only [pst0, ↓reduceIte, Nat.reduceEqDiff])
          | (rw [if_pos]; rotate_left 1; omega; simp (maxSteps := 2000000) only [am0, am1, am2, am3, amb0, amb1, amb2, amb3, amb4, lwn, drn, callee, wantedB, isW, eff, pev, pst0, retPost, resAll, resP, resV, intP, mkV, putC, pbin, peq, pint, pshift, pstr, pun, pconv, isShift, isConstB, app, subS, lay, rowsOf, lkv0, keyKind, keyEq, mfind, mput, oInt, isZeroInt, forall_const, exists_eq_left', implies_true, IntKind.bits, ↓reduceIte, Nat.reduceEqDiff, Nat.reduceAdd, Nat.reduceSub, Nat.reduceMul, Nat.reduceLT, Nat.reduceLeDiff, Nat.reduceBEq, Int.reduceLE, Int.reduceLT, Int.reduceToNat, reduceCtorEq, Ty.all, g0, g1, g6, H3, hd, ht, hz, hln, hsz, T3, TR, nT, nR, hdc, rowsI_app]))
        have hK3 : Keep G (T.new (.arr 1 (rowsI (acc ++ [e.op])))) := keep_new ⟨by rw [Tn]; exact HK.1, fun j hj => by
          rw [To j (fun len ho => by have := (Tl.ge tlH j len ho).1; omega)]
          exact HK.2 j hj⟩
        exact ⟨hK3, .inr ⟨by rw [hpm, hw]; rfl, rfl⟩⟩
      · have hdc : decide (((acc.length + 1 : Nat) : Int) > (E.length : Int)) = false := by simp; omega
        rw [if_neg hc, hpn, Int.toNat_natCast] at hw
        repeat' (first
          | (refine a_seq (fun K hK => ?_))
          | (refine a_block ?_)
          | ((first | refine a_regionS ?_ | refine a_region (fun K hK => ?_) | refine a_ret ?_); simp (maxSteps := 2000000) only [am0, am1, am2, am3, amb0, amb1, amb2, amb3, amb4, lwn, drn, callee, wantedB, isW, eff, pev, pst0, retPost, resAll, resP, resV, intP, mkV, putC, pbin, peq, pint, pshift, pstr, pun, pconv, isShift, isConstB, app, subS, lay, rowsOf, lkv0, keyKind, keyEq, mfind, mput, oInt, isZeroInt, forall_const, exists_eq_left', implies_true, IntKind.bits, ↓reduceIte, Nat.reduceEqDiff, Nat.reduceAdd, Nat.reduceSub, Nat.reduceMul, Nat.reduceLT, Nat.reduceLeDiff, Nat.reduceBEq, Int.reduceLE, Int.reduceLT, Int.reduceToNat, reduceCtorEq, Ty.all, g0, g1, g6, H3, hd, ht, hz, hln, hsz, T3, TR, nT, nR, hdc, rowsI_app])
          | (refine a_skip ?_; try simp only [pst0, ↓reduceIte, Nat.reduceEqDiff])
          | (refine a_exit ?_; try simp only [pst0, ↓reduceIte, Nat.reduceEqDiff])
          | (refine a_cond _ (by (try simp (maxSteps := 2000000) only [am0, am1, am2, am3, amb0, amb1, amb2, amb3, amb4, lwn, drn, callee, wantedB, isW, eff, pev, pst0, retPost, resAll, resP, resV, intP, mkV, putC, pbin, peq, pint, pshift, pstr, pun, pconv, isShift, isConstB, app, subS, lay, rowsOf, lkv0, keyKind, keyEq, mfind, mput, oInt, isZeroInt, forall_const, exists_eq_left', implies_true, IntKind.bits, ↓reduceIte, Nat.reduceEqDiff, Nat.reduceAdd, Nat.reduceSub, Nat.reduceMul, Nat.reduceLT, Nat.reduceLeDiff, Nat.reduceBEq, Int.reduceLE, Int.reduceLT, Int.reduceToNat, reduceCtorEq, Ty.all, g0, g1, g6, H3, hd, ht, hz, hln, hsz, T3, TR, nT, nR, hdc, rowsI_app]); rfl) (fun hb => ?_) (fun hb => ?_) <;> (try simp only [hb0, decide_eq_true_eq, decide_eq_false_iff_not, reduceCtorEq] at hb) <;> (try (exfalso; omega)))
          | (with_reducible refine ite_in (fun hb => ?_) (fun hb => ?_) <;> (try simp only [Decidable.not_not] at hb) <;> (try simp only [hb, if_true, if_false, not_false_eq_true, not_true_eq_false, ↓reduceIte]) <;> (try simp only [hb0, decide_eq_true_eq, decide_eq_false_iff_not, reduceCtorEq] at hb) <;> (try (exfalso; omega)))
          | (refine hK _ _ ?_; clear hK; try simp only [pst0, ↓reduceIte, Nat.reduceEqDiff])
          | (clear hK; refine hK _ _ ?_; clear hK; try simp only [pst0, ↓reduceIte, Nat.reduceEqDiff])
          | (clear hK; clear hK; refine hK _ _ ?_; clear hK; try simp only [pst0, ↓reduceIte, Nat.reduceEqDiff])
          | (clear hK; clear hK; clear hK; refine hK _ _ ?_; clear hK; try simp only [pst0, ↓reduceIte, Nat.reduceEqDiff])
          | (rw [if_pos]; rotate_left 1; omega; simp (maxSteps := 2000000) only [am0, am1, am2, am3, amb0, amb1, amb2, amb3, amb4, lwn, drn, callee, wantedB, isW, eff, pev, pst0, retPost, resAll, resP, resV, intP, mkV, putC, pbin, peq, pint, pshift, pstr, pun, pconv, isShift, isConstB, app, subS, lay, rowsOf, lkv0, keyKind, keyEq, mfind, mput, oInt, isZeroInt, forall_const, exists_eq_left', implies_true, IntKind.bits, ↓reduceIte, Nat.reduceEqDiff, Nat.reduceAdd, Nat.reduceSub, Nat.reduceMul, Nat.reduceLT, Nat.reduceLeDiff, Nat.reduceBEq, Int.reduceLE, Int.reduceLT, Int.reduceToNat, reduceCtorEq, Ty.all, g0, g1, g6, H3, hd, ht, hz, hln, hsz, T3, TR, nT, nR, hdc, rowsI_app]))
        have hK3 : Keep G (T.new (.arr 1 (rowsI (acc ++ [e.op])))) := keep_new ⟨by rw [Tn]; exact HK.1, fun j hj => by
          rw [To j (fun len ho => by have := (Tl.ge tlH j len ho).1; omega)]
          exact HK.2 j hj⟩
        have tl3 := Tl.grow (H := T) (id0 := G.next) (z := 1) (len := acc.length + 1) (rows := rowsI (acc ++ [e.op])) (by rw [Tn]; exact HK.1) (by rw [rowsI_len, List.length_append, List.length_singleton])
        rw [Tn] at tl3
        try simp (maxSteps := 2000000) only [am0, am1, am2, am3, amb0, amb1, amb2, amb3, amb4, lwn, drn, callee, wantedB, isW, eff, pev, pst0, retPost, resAll, resP, resV, intP, mkV, putC, pbin, peq, pint, pshift, pstr, pun, pconv, isShift, isConstB, app, subS, lay, rowsOf, lkv0, keyKind, keyEq, mfind, mput, oInt, isZeroInt, forall_const, exists_eq_left', implies_true, IntKind.bits, ↓reduceIte, Nat.reduceEqDiff, Nat.reduceAdd, Nat.reduceSub, Nat.reduceMul, Nat.reduceLT, Nat.reduceLeDiff, Nat.reduceBEq, Int.reduceLE, Int.reduceLT, Int.reduceToNat, reduceCtorEq, Ty.all, g0, g1, g6]
        exact ⟨f', by omega, hK3, pn, acc ++ [e.op], _, by rw [hpn], rfl, by omega, tl3, by rw [List.length_append, List.length_singleton]; omega, by rw [List.length_append, List.length_singleton]; omega, hw⟩
theorem rpath_c {G : Heap} {O : Nat → Prop} {R : Nat} {xs : List Int} {E : List Ent} {n : Nat} (r : Reg G O R xs E) (hv : ∀ e ∈ E, -1 ≤ e.par ∧ e.par < E.length) (hn : n < E.length) : PCall Try.prog 43 [.ptr R 0 0, iPV n] G fun v h' => v = pathPV (pathM E n) ∧ h' = G := by
  refine pcall_wf Ty.hb_43 (fun hwf => ?_)
  refine PCall.drop ((rpath_o r hv hn).mono ?_)
  rintro v G' ⟨hk, hv⟩
  refine ⟨pathPV (pathM E n), G, ⟨rfl, rfl⟩, ?_, Nat.le_refl _, drop_same hwf hk⟩
  rcases hv with ⟨l, p, h1, rfl, t3⟩ | ⟨h1, rfl⟩
  · rw [h1]
    simp only [pathPV, FrzTo]
    exact ⟨_, rfl, by simp only [FrzL, nilE]; exact ⟨t3.frz (rowsI_scal _), by simp only [FrzTo], trivial⟩⟩
  · rw [h1]
    simp [pathPV, FrzTo, FrzL, nilS, errPV]
/-- where links lead to earlier states -/
theorem walk_up {E : List Ent} (hE : ∀ (j : Nat) (e : Ent), E[j]? = some e → -1 ≤ e.par ∧ e.par < j) : ∀ (j : Nat) (e : Ent), E[j]? = some e → ∃ U : List Int, U.length ≤ j ∧ (∀ f acc, j + 1 ≤ f → acc.length + j ≤ E.length → walkP E f j acc = some (acc ++ U)) ∧
    (e.par < 0 → U = []) ∧ (∀ p : Nat, e.par = p → ∃ V, U = e.op :: V ∧ ∀ f acc, p + 1 ≤ f → acc.length + p ≤ E.length → walkP E f p acc = some (acc ++ V)) := by
  intro j
  induction j using Nat.strongRecOn with
  | _ j ih =>
    intro e he
    have hj := (List.getElem?_eq_some_iff.1 he).1
    obtain ⟨h1, h2⟩ := hE j e he
    by_cases hp : e.par < 0
    · refine ⟨[], by simp, fun f acc hf _ => ?_, fun _ => rfl, fun p hpp => by omega⟩
      obtain ⟨f', rfl⟩ : ∃ f', f = f' + 1 := ⟨f - 1, by omega⟩
      rw [walkP, he]
      simp only
      rw [if_pos hp, List.append_nil]
    · obtain ⟨p, hpp⟩ := Int.eq_ofNat_of_zero_le (show 0 ≤ e.par by omega)
      obtain ⟨V, hV1, hV2, _⟩ := ih p (by omega) (E[p]'(by omega)) (List.getElem?_eq_getElem (by omega))
      refine ⟨e.op :: V, by simp; omega, fun f acc hf hacc => ?_, fun h => absurd h hp, fun q hq => ?_⟩
      · obtain ⟨f', rfl⟩ : ∃ f', f = f' + 1 := ⟨f - 1, by omega⟩
        rw [walkP, he]
        simp only
        rw [if_neg hp, if_neg (by omega), hpp, Int.toNat_natCast, hV2 f' (acc ++ [e.op]) (by omega) (by rw [List.length_append, List.length_singleton]; omega)]
        simp
      · have : q = p := by omega
        subst this
        exact ⟨V, rfl, hV2⟩
end Go.Proofs.Ytmooliecnbhbjaa
