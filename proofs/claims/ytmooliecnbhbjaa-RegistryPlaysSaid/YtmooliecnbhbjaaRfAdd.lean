/- stratagemref23: Add, SetLink, Path: the walks. -/
import Derived.Test.YtmooliecnbhbjaaRfBase
set_option linter.unusedVariables false
set_option linter.unusedSimpArgs false
set_option linter.unusedSectionVars false
namespace Go.Proofs.Ytmooliecnbhbjaa
open Go.AM
set_option maxHeartbeats 4000000
set_option maxRecDepth 20000

def rfAddM (xs : List Int) (L : List RE) (ss : List Int) : PV :=
  if (rfFindM xs L ss).2 = 0 then .tup [lPV L, iPV (rfFindM xs L ss).1, .sc (.bool false), iPV 0]
  else if (rfFindM xs L ss).2 ≠ 3 then .tup [lPV L, iPV 0, .sc (.bool false), iPV (rfFindM xs L ss).2]
  else if 65536 ≤ L.length then .tup [lPV L, iPV 0, .sc (.bool false), iPV 10]
  else .tup [lPV (L ++ [⟨ss, -1, -1, 0⟩]), iPV L.length, .sc (.bool true), iPV 0]
theorem frz_tup4 {n : Nat} {h : Heap} {p q : PV} {a b c : Value} (h1 : FrzTo n h p q) : FrzTo n h (.tup [p, .sc a, .sc b, .sc c]) (.tup [q, .sc a, .sc b, .sc c]) := by
  simp only [FrzTo]
  exact ⟨_, rfl, by simp only [FrzL, FrzTo]; exact ⟨h1, trivial, trivial, trivial, trivial⟩⟩
theorem rfAdd_c {G : Heap} {xs ss : List Int} {L : List RE} {p : PV} (hp : Sl G 1 p (rowsI ss)) (hx : xs.length ≤ 64) : PCall Try.prog 47 [.imm 1 (rowsI xs), lPV L, p] G fun v h' => v = rfAddM xs L ss ∧ h' = G := by
  refine pcall_wf Ty.hb_47 (fun hwf => ?_)
  refine PCall.drop ?_
  have sl := lPV_sl G L
  have hlen := lenP_sl sl
  rw [List.length_map] at hlen
  have hlk := sl.lk
  have same := drop_same hwf (Keep.refl G)
  obtain ⟨i, c, hf⟩ : ∃ i c, rfFindM xs L ss = (i, c) := ⟨_, _, rfl⟩
  have fM : rfAddM xs L ss = if c = 0 then .tup [lPV L, iPV i, .sc (.bool false), iPV 0] else if c ≠ 3 then .tup [lPV L, iPV 0, .sc (.bool false), iPV c]
      else if 65536 ≤ L.length then .tup [lPV L, iPV 0, .sc (.bool false), iPV 10] else .tup [lPV (L ++ [⟨ss, -1, -1, 0⟩]), iPV L.length, .sc (.bool true), iPV 0] := by
    unfold rfAddM; rw [hf]
  refine pcall_body (ow := fun _ => false) (wf := fun _ => false) Ty.mixed Try.func47 rfl Ty.hb_47 (by rw [Try.ntmps47]; simp) ?_
  rw [Try.ntmps47, Try.results47]
  repeat' (first
    | (refine a_seq (fun K hK => ?_))
    | (refine a_block ?_)
    | (first | refine a_regionS ?_ | refine a_region (fun K hK => ?_) | refine a_ret ?_)
    | ((first | refine a_skip ?_ | refine a_exit ?_); try simp only [pst0, ↓reduceIte, Nat.reduceEqDiff])
    | (refine a_cond _ (by (try simp (maxSteps := 2000000) only [am0, am1, am2, am3, amb0, amb1, amb2, amb3, amb4, lwn, drn, callee, wantedB, isW, eff, pev, pst0, retPost, resAll, resP, resV, intP, mkV, putC, pbin, peq, pint, pshift, pstr, pun, pconv, isShift, isConstB, app, subS, lay, rowsOf, lkV, keyKind, keyEq, mfind, mput, oInt, isZeroInt, forall_const, exists_eq_left', implies_true, IntKind.bits, ↓reduceIte, Nat.reduceEqDiff, Nat.reduceAdd, Nat.reduceSub, Nat.reduceMul, Nat.reduceLT, Nat.reduceLeDiff, Nat.reduceBEq, Int.reduceLE, Int.reduceLT, Int.reduceToNat, reduceCtorEq, Ty.all]); rfl) (fun hb => ?_) (fun hb => ?_) <;> (try simp only [hb0, decide_eq_true_eq, decide_eq_false_iff_not, reduceCtorEq] at hb) <;> (try (exfalso; omega)))
    | (with_reducible refine ite_in (fun hb => ?_) (fun hb => ?_) <;> (try simp only [Decidable.not_not] at hb) <;> (try simp only [hb, if_true, if_false, not_false_eq_true, not_true_eq_false, ↓reduceIte]) <;> (try simp only [hb0, decide_eq_true_eq, decide_eq_false_iff_not, reduceCtorEq] at hb) <;> (try (exfalso; omega)))
    | ((first | refine hK _ _ ?_ | (clear hK; refine hK _ _ ?_) | (clear hK; clear hK; refine hK _ _ ?_) | (clear hK; clear hK; clear hK; refine hK _ _ ?_)); clear hK; try simp only [pst0, ↓reduceIte, Nat.reduceEqDiff])
    | (rw [if_pos]; rotate_left 1; omega)
    | (simp (maxSteps := 2000000) only [am0, am1, am2, am3, amb0, amb1, amb2, amb3, amb4, lwn, drn, callee, wantedB, isW, eff, pev, pst0, retPost, resAll, resP, resV, intP, mkV, putC, pbin, peq, pint, pshift, pstr, pun, pconv, isShift, isConstB, app, subS, lay, rowsOf, lkV, keyKind, keyEq, mfind, mput, oInt, isZeroInt, forall_const, exists_eq_left', implies_true, IntKind.bits, ↓reduceIte, Nat.reduceEqDiff, Nat.reduceAdd, Nat.reduceSub, Nat.reduceMul, Nat.reduceLT, Nat.reduceLeDiff, Nat.reduceBEq, Int.reduceLE, Int.reduceLT, Int.reduceToNat, reduceCtorEq, Ty.all]))
  refine owp_useQ (rfFind_c (xs := xs) (L := L) (ss := ss) hp) (by (try simp only [am0, am1, am2, am3, amb0, amb1, amb2, amb3, amb4, lwn, drn, callee, wantedB, isW, eff, pev, pst0, retPost, resAll, resP, resV, intP, mkV, putC, pbin, peq, pint, pshift, pstr, pun, pconv, isShift, isConstB, app, subS, lay, rowsOf, lkV, keyKind, keyEq, mfind, mput, oInt, isZeroInt, forall_const, exists_eq_left', implies_true, IntKind.bits, ↓reduceIte, Nat.reduceEqDiff, Nat.reduceAdd, Nat.reduceSub, Nat.reduceMul, Nat.reduceLT, Nat.reduceLeDiff, Nat.reduceBEq, Int.reduceLE, Int.reduceLT, Int.reduceToNat, reduceCtorEq, hf, iPV]); try rfl) ?_
  simp (maxSteps := 2000000) only [am0, am1, am2, am3, amb0, amb1, amb2, amb3, amb4, lwn, drn, callee, wantedB, isW, eff, pev, pst0, retPost, resAll, resP, resV, intP, mkV, putC, pbin, peq, pint, pshift, pstr, pun, pconv, isShift, isConstB, app, subS, lay, rowsOf, lkV, keyKind, keyEq, mfind, mput, oInt, isZeroInt, forall_const, exists_eq_left', implies_true, IntKind.bits, ↓reduceIte, Nat.reduceEqDiff, Nat.reduceAdd, Nat.reduceSub, Nat.reduceMul, Nat.reduceLT, Nat.reduceLeDiff, Nat.reduceBEq, Int.reduceLE, Int.reduceLT, Int.reduceToNat, reduceCtorEq, Ty.all, hf, iPV]
  by_cases h0 : c = 0
  · have c0 : (c == 0) = true := by simpa using h0
    repeat' (first
      | (refine a_seq (fun K hK => ?_))
      | (refine a_block ?_)
      | (first | refine a_regionS ?_ | refine a_region (fun K hK => ?_) | refine a_ret ?_)
      | ((first | refine a_skip ?_ | refine a_exit ?_); try simp only [pst0, ↓reduceIte, Nat.reduceEqDiff])
      | (refine a_cond _ (by (try simp (maxSteps := 2000000) only [am0, am1, am2, am3, amb0, amb1, amb2, amb3, amb4, lwn, drn, callee, wantedB, isW, eff, pev, pst0, retPost, resAll, resP, resV, intP, mkV, putC, pbin, peq, pint, pshift, pstr, pun, pconv, isShift, isConstB, app, subS, lay, rowsOf, lkV, keyKind, keyEq, mfind, mput, oInt, isZeroInt, forall_const, exists_eq_left', implies_true, IntKind.bits, ↓reduceIte, Nat.reduceEqDiff, Nat.reduceAdd, Nat.reduceSub, Nat.reduceMul, Nat.reduceLT, Nat.reduceLeDiff, Nat.reduceBEq, Int.reduceLE, Int.reduceLT, Int.reduceToNat, reduceCtorEq, Ty.all, c0]); rfl) (fun hb => ?_) (fun hb => ?_) <;> (try simp only [hb0, decide_eq_true_eq, decide_eq_false_iff_not, reduceCtorEq] at hb) <;> (try (exfalso; omega)))
      | (with_reducible refine ite_in (fun hb => ?_) (fun hb => ?_) <;> (try simp only [Decidable.not_not] at hb) <;> (try simp only [hb, if_true, if_false, not_false_eq_true, not_true_eq_false, ↓reduceIte]) <;> (try simp only [hb0, decide_eq_true_eq, decide_eq_false_iff_not, reduceCtorEq] at hb) <;> (try (exfalso; omega)))
      | ((first | refine hK _ _ ?_ | (clear hK; refine hK _ _ ?_) | (clear hK; clear hK; refine hK _ _ ?_) | (clear hK; clear hK; clear hK; refine hK _ _ ?_)); clear hK; try simp only [pst0, ↓reduceIte, Nat.reduceEqDiff])
      | (rw [if_pos]; rotate_left 1; omega)
      | (simp (maxSteps := 2000000) only [am0, am1, am2, am3, amb0, amb1, amb2, amb3, amb4, lwn, drn, callee, wantedB, isW, eff, pev, pst0, retPost, resAll, resP, resV, intP, mkV, putC, pbin, peq, pint, pshift, pstr, pun, pconv, isShift, isConstB, app, subS, lay, rowsOf, lkV, keyKind, keyEq, mfind, mput, oInt, isZeroInt, forall_const, exists_eq_left', implies_true, IntKind.bits, ↓reduceIte, Nat.reduceEqDiff, Nat.reduceAdd, Nat.reduceSub, Nat.reduceMul, Nat.reduceLT, Nat.reduceLeDiff, Nat.reduceBEq, Int.reduceLE, Int.reduceLT, Int.reduceToNat, reduceCtorEq, Ty.all, c0]))
    refine ⟨rfAddM xs L ss, G, ⟨rfl, rfl⟩, ?_, Nat.le_refl _, same⟩
    rw [fM, if_pos h0]
    exact frz_tup4 (frz_lPV L)
  have c0 : (c == 0) = false := by simpa using h0
  by_cases h3 : c = 3
  rotate_left
  · have c3 : (c != 3) = true := by simpa using h3
    repeat' (first
      | (refine a_seq (fun K hK => ?_))
      | (refine a_block ?_)
      | (first | refine a_regionS ?_ | refine a_region (fun K hK => ?_) | refine a_ret ?_)
      | ((first | refine a_skip ?_ | refine a_exit ?_); try simp only [pst0, ↓reduceIte, Nat.reduceEqDiff])
      | (refine a_cond _ (by (try simp (maxSteps := 2000000) only [am0, am1, am2, am3, amb0, amb1, amb2, amb3, amb4, lwn, drn, callee, wantedB, isW, eff, pev, pst0, retPost, resAll, resP, resV, intP, mkV, putC, pbin, peq, pint, pshift, pstr, pun, pconv, isShift, isConstB, app, subS, lay, rowsOf, lkV, keyKind, keyEq, mfind, mput, oInt, isZeroInt, forall_const, exists_eq_left', implies_true, IntKind.bits, ↓reduceIte, Nat.reduceEqDiff, Nat.reduceAdd, Nat.reduceSub, Nat.reduceMul, Nat.reduceLT, Nat.reduceLeDiff, Nat.reduceBEq, Int.reduceLE, Int.reduceLT, Int.reduceToNat, reduceCtorEq, Ty.all, c0, c3]); rfl) (fun hb => ?_) (fun hb => ?_) <;> (try simp only [hb0, decide_eq_true_eq, decide_eq_false_iff_not, reduceCtorEq] at hb) <;> (try (exfalso; omega)))
      | (with_reducible refine ite_in (fun hb => ?_) (fun hb => ?_) <;> (try simp only [Decidable.not_not] at hb) <;> (try simp only [hb, if_true, if_false, not_false_eq_true, not_true_eq_false, ↓reduceIte]) <;> (try simp only [hb0, decide_eq_true_eq, decide_eq_false_iff_not, reduceCtorEq] at hb) <;> (try (exfalso; omega)))
      | ((first | refine hK _ _ ?_ | (clear hK; refine hK _ _ ?_) | (clear hK; clear hK; refine hK _ _ ?_) | (clear hK; clear hK; clear hK; refine hK _ _ ?_)); clear hK; try simp only [pst0, ↓reduceIte, Nat.reduceEqDiff])
      | (rw [if_pos]; rotate_left 1; omega)
      | (simp (maxSteps := 2000000) only [am0, am1, am2, am3, amb0, amb1, amb2, amb3, amb4, lwn, drn, callee, wantedB, isW, eff, pev, pst0, retPost, resAll, resP, resV, intP, mkV, putC, pbin, peq, pint, pshift, pstr, pun, pconv, isShift, isConstB, app, subS, lay, rowsOf, lkV, keyKind, keyEq, mfind, mput, oInt, isZeroInt, forall_const, exists_eq_left', implies_true, IntKind.bits, ↓reduceIte, Nat.reduceEqDiff, Nat.reduceAdd, Nat.reduceSub, Nat.reduceMul, Nat.reduceLT, Nat.reduceLeDiff, Nat.reduceBEq, Int.reduceLE, Int.reduceLT, Int.reduceToNat, reduceCtorEq, Ty.all, c0, c3]))
    refine ⟨rfAddM xs L ss, G, ⟨rfl, rfl⟩, ?_, Nat.le_refl _, same⟩
    rw [fM, if_neg h0, if_pos h3]
    exact frz_tup4 (frz_lPV L)
  have c3 : (c != 3) = false := by simpa using h3
  by_cases hL : 65536 ≤ L.length
  · have dL : decide ((L.length : Int) ≥ 65536) = true := by simp; omega
    repeat' (first
      | (refine a_seq (fun K hK => ?_))
      | (refine a_block ?_)
      | (first | refine a_regionS ?_ | refine a_region (fun K hK => ?_) | refine a_ret ?_)
      | ((first | refine a_skip ?_ | refine a_exit ?_); try simp only [pst0, ↓reduceIte, Nat.reduceEqDiff])
      | (refine a_cond _ (by (try simp (maxSteps := 2000000) only [am0, am1, am2, am3, amb0, amb1, amb2, amb3, amb4, lwn, drn, callee, wantedB, isW, eff, pev, pst0, retPost, resAll, resP, resV, intP, mkV, putC, pbin, peq, pint, pshift, pstr, pun, pconv, isShift, isConstB, app, subS, lay, rowsOf, lkV, keyKind, keyEq, mfind, mput, oInt, isZeroInt, forall_const, exists_eq_left', implies_true, IntKind.bits, ↓reduceIte, Nat.reduceEqDiff, Nat.reduceAdd, Nat.reduceSub, Nat.reduceMul, Nat.reduceLT, Nat.reduceLeDiff, Nat.reduceBEq, Int.reduceLE, Int.reduceLT, Int.reduceToNat, reduceCtorEq, Ty.all, c0, c3, hlen, hlk, dL]); rfl) (fun hb => ?_) (fun hb => ?_) <;> (try simp only [hb0, decide_eq_true_eq, decide_eq_false_iff_not, reduceCtorEq] at hb) <;> (try (exfalso; omega)))
      | (with_reducible refine ite_in (fun hb => ?_) (fun hb => ?_) <;> (try simp only [Decidable.not_not] at hb) <;> (try simp only [hb, if_true, if_false, not_false_eq_true, not_true_eq_false, ↓reduceIte]) <;> (try simp only [hb0, decide_eq_true_eq, decide_eq_false_iff_not, reduceCtorEq] at hb) <;> (try (exfalso; omega)))
      | ((first | refine hK _ _ ?_ | (clear hK; refine hK _ _ ?_) | (clear hK; clear hK; refine hK _ _ ?_) | (clear hK; clear hK; clear hK; refine hK _ _ ?_)); clear hK; try simp only [pst0, ↓reduceIte, Nat.reduceEqDiff])
      | (rw [if_pos]; rotate_left 1; omega)
      | (simp (maxSteps := 2000000) only [am0, am1, am2, am3, amb0, amb1, amb2, amb3, amb4, lwn, drn, callee, wantedB, isW, eff, pev, pst0, retPost, resAll, resP, resV, intP, mkV, putC, pbin, peq, pint, pshift, pstr, pun, pconv, isShift, isConstB, app, subS, lay, rowsOf, lkV, keyKind, keyEq, mfind, mput, oInt, isZeroInt, forall_const, exists_eq_left', implies_true, IntKind.bits, ↓reduceIte, Nat.reduceEqDiff, Nat.reduceAdd, Nat.reduceSub, Nat.reduceMul, Nat.reduceLT, Nat.reduceLeDiff, Nat.reduceBEq, Int.reduceLE, Int.reduceLT, Int.reduceToNat, reduceCtorEq, Ty.all, c0, c3, hlen, hlk, dL]))
    refine ⟨rfAddM xs L ss, G, ⟨rfl, rfl⟩, ?_, Nat.le_refl _, same⟩
    rw [fM, if_neg h0, if_neg (by simpa using h3), if_pos hL]
    exact frz_tup4 (frz_lPV L)
  have dL : decide ((L.length : Int) ≥ 65536) = false := by simp; omega
  have hpr : properM xs ss = true := by
    apply Decidable.byContradiction
    intro hn
    unfold rfFindM at hf
    rw [if_neg hn] at hf
    simp at hf
    omega
  have hsl := (properM_get hpr).1
  have hv := sl.vw
  have hz := sl.zk
  have K1 : Keep G (G.new (.arr 4 (L.map refRow))) := keep_new (Keep.refl G)
  have hvp := hp.kview hwf _ K1
  have hzp := hp.kz hwf _ K1
  have hrl : (L.map refRow).length = L.length := List.length_map _
  have s1 : L.length * 48 ≤ 140737488355328 := by omega
  have s2 : ss.length * 8 ≤ 140737488355328 := by omega
  have s3 : (L.length + 1) * 48 ≤ 140737488355328 := by omega
  have n3 : ¬ (G.next = G.next + 1) := by omega
  repeat' (first
    | (refine a_seq (fun K hK => ?_))
    | (refine a_block ?_)
    | (first | refine a_regionS ?_ | refine a_region (fun K hK => ?_) | refine a_ret ?_)
    | ((first | refine a_skip ?_ | refine a_exit ?_); try simp only [pst0, ↓reduceIte, Nat.reduceEqDiff])
    | (refine a_cond _ (by (try simp (maxSteps := 2000000) only [am0, am1, am2, am3, amb0, amb1, amb2, amb3, amb4, lwn, drn, callee, wantedB, isW, eff, pev, pst0, retPost, resAll, resP, resV, intP, mkV, putC, pbin, peq, pint, pshift, pstr, pun, pconv, isShift, isConstB, app, subS, lay, rowsOf, lkV, keyKind, keyEq, mfind, mput, oInt, isZeroInt, forall_const, exists_eq_left', implies_true, IntKind.bits, ↓reduceIte, Nat.reduceEqDiff, Nat.reduceAdd, Nat.reduceSub, Nat.reduceMul, Nat.reduceLT, Nat.reduceLeDiff, Nat.reduceBEq, Int.reduceLE, Int.reduceLT, Int.reduceToNat, reduceCtorEq, Ty.all, c0, c3, hlen, hlk, dL, hv, hz, hvp, hzp, hrl, rowsI_len, s1, s2, s3, n3, Nat.le_refl, List.take_of_length_le]); rfl) (fun hb => ?_) (fun hb => ?_) <;> (try simp only [hb0, decide_eq_true_eq, decide_eq_false_iff_not, reduceCtorEq] at hb) <;> (try (exfalso; omega)))
    | (with_reducible refine ite_in (fun hb => ?_) (fun hb => ?_) <;> (try simp only [Decidable.not_not] at hb) <;> (try simp only [hb, if_true, if_false, not_false_eq_true, not_true_eq_false, ↓reduceIte]) <;> (try simp only [hb0, decide_eq_true_eq, decide_eq_false_iff_not, reduceCtorEq] at hb) <;> (try (exfalso; omega)))
    | ((first | refine hK _ _ ?_ | (clear hK; refine hK _ _ ?_) | (clear hK; clear hK; refine hK _ _ ?_) | (clear hK; clear hK; clear hK; refine hK _ _ ?_)); clear hK; try simp only [pst0, ↓reduceIte, Nat.reduceEqDiff])
    | (rw [if_pos]; rotate_left 1; omega)
    | (simp (maxSteps := 2000000) only [am0, am1, am2, am3, amb0, amb1, amb2, amb3, amb4, lwn, drn, callee, wantedB, isW, eff, pev, pst0, retPost, resAll, resP, resV, intP, mkV, putC, pbin, peq, pint, pshift, pstr, pun, pconv, isShift, isConstB, app, subS, lay, rowsOf, lkV, keyKind, keyEq, mfind, mput, oInt, isZeroInt, forall_const, exists_eq_left', implies_true, IntKind.bits, ↓reduceIte, Nat.reduceEqDiff, Nat.reduceAdd, Nat.reduceSub, Nat.reduceMul, Nat.reduceLT, Nat.reduceLeDiff, Nat.reduceBEq, Int.reduceLE, Int.reduceLT, Int.reduceToNat, reduceCtorEq, Ty.all, c0, c3, hlen, hlk, dL, hv, hz, hvp, hzp, hrl, rowsI_len, s1, s2, s3, n3, Nat.le_refl, List.take_of_length_le]))
  refine ⟨rfAddM xs L ss, G, ⟨rfl, rfl⟩, ?_, Nat.le_refl _, ?_⟩
  · rw [fM, if_neg h0, if_neg (by simpa using h3), if_neg hL]
    refine frz_tup4 ?_
    rw [lPV_imm (by simp), List.map_append, List.map_cons, List.map_nil]
    simp only [FrzTo]
    refine .inr (.inr ⟨G.next + 1 + 1, 0, L.length + 1, L.map refRow ++ [[.own (G.next + 1) 0 ss.length, .sc (.int .i64 (-1)), .sc (.int .i64 (-1)), .sc (.int .i64 0)]], rfl, by omega, ?_, ?_, ?_⟩)
    · rw [new_obj, kill_next, new_next, new_next, if_pos rfl]
    · rw [List.length_append, List.length_map, List.length_singleton]; omega
    · rw [List.drop_zero, List.take_of_length_le (by rw [List.length_append, List.length_map, List.length_singleton]; omega)]
      refine frz_app ?_ L
      simp only [refRow, FrzL]
      refine ⟨?_, by simp only [FrzTo], by simp only [FrzTo], by simp only [FrzTo], trivial⟩
      simp only [FrzTo]
      refine .inr (.inr ⟨G.next + 1, 0, ss.length, rowsI ss, rfl, by omega, ?_, by rw [rowsI_len]; omega, ?_⟩)
      · rw [new_obj, kill_next, new_next, new_next, if_neg (by omega), kill_obj, if_neg (by omega), new_obj, new_next, if_pos rfl]
      · rw [List.drop_zero, List.take_of_length_le (by rw [rowsI_len]; omega)]
        exact FrzR_sc _ (rowsI_scal _)
  · intro id o ho
    have hid := hwf id (by rw [ho]; rfl)
    refine ⟨?_, hid, .inl ho⟩
    have e1 : ¬ (id = G.next) := by omega
    have e2 : ¬ (id = G.next + 1) := by omega
    have e3 : ¬ (id = G.next + 1 + 1) := by omega
    simp only [new_obj, kill_obj, new_next, kill_next, e1, e2, e3, if_false]
    exact ho

theorem rfSet_bad {G : Heap} {L : List RE} {x par op cost : Int} (hb : (x < 0 ∨ L.length ≤ x) ∨ par < -1 ∨ L.length ≤ par) : PCall Try.prog 45 [lPV L, iPV x, iPV par, iPV op, iPV cost] G fun v h' => v = .tup [lPV L, iPV 1] ∧ h' = G := by
  have sl := lPV_sl G L
  have hlen := lenP_sl sl
  rw [List.length_map] at hlen
  have hlk := sl.lk
  by_cases h1 : x < 0
  · have d1 : decide (x < 0) = true := by simpa using h1
    refine pcall_body (ow := fun _ => false) (wf := fun _ => false) Ty.mixed Try.func45 rfl Ty.hb_45 (by rw [Try.ntmps45]; simp) ?_
    rw [Try.ntmps45, Try.results45]
    repeat' (first
      | (refine a_seq (fun K hK => ?_))
      | (refine a_block ?_)
      | (first | refine a_regionS ?_ | refine a_region (fun K hK => ?_) | refine a_ret ?_)
      | ((first | refine a_skip ?_ | refine a_exit ?_); try simp only [pst0, ↓reduceIte, Nat.reduceEqDiff])
      | (refine a_cond _ (by (try simp (maxSteps := 2000000) only [am0, am1, am2, am3, amb0, amb1, amb2, amb3, amb4, lwn, drn, callee, wantedB, isW, eff, pev, pst0, retPost, resAll, resP, resV, intP, mkV, putC, pbin, peq, pint, pshift, pstr, pun, pconv, isShift, isConstB, app, subS, lay, rowsOf, lkV, keyKind, keyEq, mfind, mput, oInt, isZeroInt, forall_const, exists_eq_left', implies_true, IntKind.bits, ↓reduceIte, Nat.reduceEqDiff, Nat.reduceAdd, Nat.reduceSub, Nat.reduceMul, Nat.reduceLT, Nat.reduceLeDiff, Nat.reduceBEq, Int.reduceLE, Int.reduceLT, Int.reduceToNat, reduceCtorEq, Ty.all, iPV, d1]); rfl) (fun hb => ?_) (fun hb => ?_) <;> (try simp only [hb0, decide_eq_true_eq, decide_eq_false_iff_not, reduceCtorEq] at hb) <;> (try (exfalso; omega)))
      | (with_reducible refine ite_in (fun hb => ?_) (fun hb => ?_) <;> (try simp only [Decidable.not_not] at hb) <;> (try simp only [hb, if_true, if_false, not_false_eq_true, not_true_eq_false, ↓reduceIte]) <;> (try simp only [hb0, decide_eq_true_eq, decide_eq_false_iff_not, reduceCtorEq] at hb) <;> (try (exfalso; omega)))
      | ((first | refine hK _ _ ?_ | (clear hK; refine hK _ _ ?_) | (clear hK; clear hK; refine hK _ _ ?_) | (clear hK; clear hK; clear hK; refine hK _ _ ?_)); clear hK; try simp only [pst0, ↓reduceIte, Nat.reduceEqDiff])
      | (rw [if_pos]; rotate_left 1; omega)
      | (simp (maxSteps := 2000000) only [am0, am1, am2, am3, amb0, amb1, amb2, amb3, amb4, lwn, drn, callee, wantedB, isW, eff, pev, pst0, retPost, resAll, resP, resV, intP, mkV, putC, pbin, peq, pint, pshift, pstr, pun, pconv, isShift, isConstB, app, subS, lay, rowsOf, lkV, keyKind, keyEq, mfind, mput, oInt, isZeroInt, forall_const, exists_eq_left', implies_true, IntKind.bits, ↓reduceIte, Nat.reduceEqDiff, Nat.reduceAdd, Nat.reduceSub, Nat.reduceMul, Nat.reduceLT, Nat.reduceLeDiff, Nat.reduceBEq, Int.reduceLE, Int.reduceLT, Int.reduceToNat, reduceCtorEq, Ty.all, iPV, d1]))
    all_goals try rfl
  have d1 : decide (x < 0) = false := by simpa using h1
  by_cases h2 : L.length ≤ x
  · have d2 : decide (x ≥ (L.length : Int)) = true := by simpa using h2
    refine pcall_body (ow := fun _ => false) (wf := fun _ => false) Ty.mixed Try.func45 rfl Ty.hb_45 (by rw [Try.ntmps45]; simp) ?_
    rw [Try.ntmps45, Try.results45]
    repeat' (first
      | (refine a_seq (fun K hK => ?_))
      | (refine a_block ?_)
      | (first | refine a_regionS ?_ | refine a_region (fun K hK => ?_) | refine a_ret ?_)
      | ((first | refine a_skip ?_ | refine a_exit ?_); try simp only [pst0, ↓reduceIte, Nat.reduceEqDiff])
      | (refine a_cond _ (by (try simp (maxSteps := 2000000) only [am0, am1, am2, am3, amb0, amb1, amb2, amb3, amb4, lwn, drn, callee, wantedB, isW, eff, pev, pst0, retPost, resAll, resP, resV, intP, mkV, putC, pbin, peq, pint, pshift, pstr, pun, pconv, isShift, isConstB, app, subS, lay, rowsOf, lkV, keyKind, keyEq, mfind, mput, oInt, isZeroInt, forall_const, exists_eq_left', implies_true, IntKind.bits, ↓reduceIte, Nat.reduceEqDiff, Nat.reduceAdd, Nat.reduceSub, Nat.reduceMul, Nat.reduceLT, Nat.reduceLeDiff, Nat.reduceBEq, Int.reduceLE, Int.reduceLT, Int.reduceToNat, reduceCtorEq, Ty.all, iPV, d1, d2, hlen, hlk]); rfl) (fun hb => ?_) (fun hb => ?_) <;> (try simp only [hb0, decide_eq_true_eq, decide_eq_false_iff_not, reduceCtorEq] at hb) <;> (try (exfalso; omega)))
      | (with_reducible refine ite_in (fun hb => ?_) (fun hb => ?_) <;> (try simp only [Decidable.not_not] at hb) <;> (try simp only [hb, if_true, if_false, not_false_eq_true, not_true_eq_false, ↓reduceIte]) <;> (try simp only [hb0, decide_eq_true_eq, decide_eq_false_iff_not, reduceCtorEq] at hb) <;> (try (exfalso; omega)))
      | ((first | refine hK _ _ ?_ | (clear hK; refine hK _ _ ?_) | (clear hK; clear hK; refine hK _ _ ?_) | (clear hK; clear hK; clear hK; refine hK _ _ ?_)); clear hK; try simp only [pst0, ↓reduceIte, Nat.reduceEqDiff])
      | (rw [if_pos]; rotate_left 1; omega)
      | (simp (maxSteps := 2000000) only [am0, am1, am2, am3, amb0, amb1, amb2, amb3, amb4, lwn, drn, callee, wantedB, isW, eff, pev, pst0, retPost, resAll, resP, resV, intP, mkV, putC, pbin, peq, pint, pshift, pstr, pun, pconv, isShift, isConstB, app, subS, lay, rowsOf, lkV, keyKind, keyEq, mfind, mput, oInt, isZeroInt, forall_const, exists_eq_left', implies_true, IntKind.bits, ↓reduceIte, Nat.reduceEqDiff, Nat.reduceAdd, Nat.reduceSub, Nat.reduceMul, Nat.reduceLT, Nat.reduceLeDiff, Nat.reduceBEq, Int.reduceLE, Int.reduceLT, Int.reduceToNat, reduceCtorEq, Ty.all, iPV, d1, d2, hlen, hlk]))
    all_goals try rfl
  have d2 : decide (x ≥ (L.length : Int)) = false := by simpa using h2
  by_cases h3 : par < -1
  · have d3 : decide (par < -1) = true := by simpa using h3
    refine pcall_body (ow := fun _ => false) (wf := fun _ => false) Ty.mixed Try.func45 rfl Ty.hb_45 (by rw [Try.ntmps45]; simp) ?_
    rw [Try.ntmps45, Try.results45]
    repeat' (first
      | (refine a_seq (fun K hK => ?_))
      | (refine a_block ?_)
      | (first | refine a_regionS ?_ | refine a_region (fun K hK => ?_) | refine a_ret ?_)
      | ((first | refine a_skip ?_ | refine a_exit ?_); try simp only [pst0, ↓reduceIte, Nat.reduceEqDiff])
      | (refine a_cond _ (by (try simp (maxSteps := 2000000) only [am0, am1, am2, am3, amb0, amb1, amb2, amb3, amb4, lwn, drn, callee, wantedB, isW, eff, pev, pst0, retPost, resAll, resP, resV, intP, mkV, putC, pbin, peq, pint, pshift, pstr, pun, pconv, isShift, isConstB, app, subS, lay, rowsOf, lkV, keyKind, keyEq, mfind, mput, oInt, isZeroInt, forall_const, exists_eq_left', implies_true, IntKind.bits, ↓reduceIte, Nat.reduceEqDiff, Nat.reduceAdd, Nat.reduceSub, Nat.reduceMul, Nat.reduceLT, Nat.reduceLeDiff, Nat.reduceBEq, Int.reduceLE, Int.reduceLT, Int.reduceToNat, reduceCtorEq, Ty.all, iPV, d1, d2, d3, hlen, hlk]); rfl) (fun hb => ?_) (fun hb => ?_) <;> (try simp only [hb0, decide_eq_true_eq, decide_eq_false_iff_not, reduceCtorEq] at hb) <;> (try (exfalso; omega)))
      | (with_reducible refine ite_in (fun hb => ?_) (fun hb => ?_) <;> (try simp only [Decidable.not_not] at hb) <;> (try simp only [hb, if_true, if_false, not_false_eq_true, not_true_eq_false, ↓reduceIte]) <;> (try simp only [hb0, decide_eq_true_eq, decide_eq_false_iff_not, reduceCtorEq] at hb) <;> (try (exfalso; omega)))
      | ((first | refine hK _ _ ?_ | (clear hK; refine hK _ _ ?_) | (clear hK; clear hK; refine hK _ _ ?_) | (clear hK; clear hK; clear hK; refine hK _ _ ?_)); clear hK; try simp only [pst0, ↓reduceIte, Nat.reduceEqDiff])
      | (rw [if_pos]; rotate_left 1; omega)
      | (simp (maxSteps := 2000000) only [am0, am1, am2, am3, amb0, amb1, amb2, amb3, amb4, lwn, drn, callee, wantedB, isW, eff, pev, pst0, retPost, resAll, resP, resV, intP, mkV, putC, pbin, peq, pint, pshift, pstr, pun, pconv, isShift, isConstB, app, subS, lay, rowsOf, lkV, keyKind, keyEq, mfind, mput, oInt, isZeroInt, forall_const, exists_eq_left', implies_true, IntKind.bits, ↓reduceIte, Nat.reduceEqDiff, Nat.reduceAdd, Nat.reduceSub, Nat.reduceMul, Nat.reduceLT, Nat.reduceLeDiff, Nat.reduceBEq, Int.reduceLE, Int.reduceLT, Int.reduceToNat, reduceCtorEq, Ty.all, iPV, d1, d2, d3, hlen, hlk]))
    all_goals try rfl
  have d3 : decide (par < -1) = false := by simpa using h3
  have d4 : decide (par ≥ (L.length : Int)) = true := by simp; omega
  refine pcall_body (ow := fun _ => false) (wf := fun _ => false) Ty.mixed Try.func45 rfl Ty.hb_45 (by rw [Try.ntmps45]; simp) ?_
  rw [Try.ntmps45, Try.results45]
  repeat' (first
    | (refine a_seq (fun K hK => ?_))
    | (refine a_block ?_)
    | (first | refine a_regionS ?_ | refine a_region (fun K hK => ?_) | refine a_ret ?_)
    | ((first | refine a_skip ?_ | refine a_exit ?_); try simp only [pst0, ↓reduceIte, Nat.reduceEqDiff])
    | (refine a_cond _ (by (try simp (maxSteps := 2000000) only [am0, am1, am2, am3, amb0, amb1, amb2, amb3, amb4, lwn, drn, callee, wantedB, isW, eff, pev, pst0, retPost, resAll, resP, resV, intP, mkV, putC, pbin, peq, pint, pshift, pstr, pun, pconv, isShift, isConstB, app, subS, lay, rowsOf, lkV, keyKind, keyEq, mfind, mput, oInt, isZeroInt, forall_const, exists_eq_left', implies_true, IntKind.bits, ↓reduceIte, Nat.reduceEqDiff, Nat.reduceAdd, Nat.reduceSub, Nat.reduceMul, Nat.reduceLT, Nat.reduceLeDiff, Nat.reduceBEq, Int.reduceLE, Int.reduceLT, Int.reduceToNat, reduceCtorEq, Ty.all, iPV, d1, d2, d3, d4, hlen, hlk]); rfl) (fun hb => ?_) (fun hb => ?_) <;> (try simp only [hb0, decide_eq_true_eq, decide_eq_false_iff_not, reduceCtorEq] at hb) <;> (try (exfalso; omega)))
    | (with_reducible refine ite_in (fun hb => ?_) (fun hb => ?_) <;> (try simp only [Decidable.not_not] at hb) <;> (try simp only [hb, if_true, if_false, not_false_eq_true, not_true_eq_false, ↓reduceIte]) <;> (try simp only [hb0, decide_eq_true_eq, decide_eq_false_iff_not, reduceCtorEq] at hb) <;> (try (exfalso; omega)))
    | ((first | refine hK _ _ ?_ | (clear hK; refine hK _ _ ?_) | (clear hK; clear hK; refine hK _ _ ?_) | (clear hK; clear hK; clear hK; refine hK _ _ ?_)); clear hK; try simp only [pst0, ↓reduceIte, Nat.reduceEqDiff])
    | (rw [if_pos]; rotate_left 1; omega)
    | (simp (maxSteps := 2000000) only [am0, am1, am2, am3, amb0, amb1, amb2, amb3, amb4, lwn, drn, callee, wantedB, isW, eff, pev, pst0, retPost, resAll, resP, resV, intP, mkV, putC, pbin, peq, pint, pshift, pstr, pun, pconv, isShift, isConstB, app, subS, lay, rowsOf, lkV, keyKind, keyEq, mfind, mput, oInt, isZeroInt, forall_const, exists_eq_left', implies_true, IntKind.bits, ↓reduceIte, Nat.reduceEqDiff, Nat.reduceAdd, Nat.reduceSub, Nat.reduceMul, Nat.reduceLT, Nat.reduceLeDiff, Nat.reduceBEq, Int.reduceLE, Int.reduceLT, Int.reduceToNat, reduceCtorEq, Ty.all, iPV, d1, d2, d3, d4, hlen, hlk]))
  all_goals try rfl
theorem rfSet_c {G : Heap} {L : List RE} {n : Nat} {e : RE} {par op cost : Int} (he : L[n]? = some e) (hp : -1 ≤ par ∧ par < L.length) (hL : L.length ≤ 65536) : PCall Try.prog 45 [lPV L, iPV n, iPV par, iPV op, iPV cost] G fun v h' => v = .tup [lPV (L.set n ⟨e.st, par, op, cost⟩), iPV 0] ∧ h' = G := by
  refine pcall_wf Ty.hb_45 (fun hwf => ?_)
  refine PCall.drop ?_
  have hn := (List.getElem?_eq_some_iff.1 he).1
  have hne : L ≠ [] := by intro h; rw [h] at hn; simp at hn
  have d1 : decide ((n : Int) < 0) = false := by simp
  have d2 : decide ((n : Int) ≥ (L.length : Int)) = false := by simp; omega
  have d3 : decide (par < -1) = false := by simp; omega
  have d4 : decide (par ≥ (L.length : Int)) = false := by simp; omega
  have hrl : (L.map refRow).length = L.length := List.length_map _
  have s1 : L.length * 48 ≤ 140737488355328 := by omega
  rw [lPV_imm hne]
  refine pcall_body (ow := fun _ => false) (wf := fun _ => false) Ty.mixed Try.func45 rfl Ty.hb_45 (by rw [Try.ntmps45]; simp) ?_
  rw [Try.ntmps45, Try.results45]
  repeat' (first
    | (refine a_seq (fun K hK => ?_))
    | (refine a_block ?_)
    | (first | refine a_regionS ?_ | refine a_region (fun K hK => ?_) | refine a_ret ?_)
    | ((first | refine a_skip ?_ | refine a_exit ?_); try simp only [pst0, ↓reduceIte, Nat.reduceEqDiff])
    | (refine a_cond _ (by (try simp (maxSteps := 2000000) only [am0, am1, am2, am3, amb0, amb1, amb2, amb3, amb4, lwn, drn, callee, wantedB, isW, eff, pev, pst0, retPost, resAll, resP, resV, intP, mkV, putC, pbin, peq, pint, pshift, pstr, pun, pconv, isShift, isConstB, app, subS, lay, rowsOf, lkV, keyKind, keyEq, mfind, mput, oInt, isZeroInt, forall_const, exists_eq_left', implies_true, IntKind.bits, ↓reduceIte, Nat.reduceEqDiff, Nat.reduceAdd, Nat.reduceSub, Nat.reduceMul, Nat.reduceLT, Nat.reduceLeDiff, Nat.reduceBEq, Int.reduceLE, Int.reduceLT, Int.reduceToNat, reduceCtorEq, Ty.all, iPV, d1, d2, d3, d4, hrl, s1, he, refRow, putC, hn]); rfl) (fun hb => ?_) (fun hb => ?_) <;> (try simp only [hb0, decide_eq_true_eq, decide_eq_false_iff_not, reduceCtorEq] at hb) <;> (try (exfalso; omega)))
    | (with_reducible refine ite_in (fun hb => ?_) (fun hb => ?_) <;> (try simp only [Decidable.not_not] at hb) <;> (try simp only [hb, if_true, if_false, not_false_eq_true, not_true_eq_false, ↓reduceIte]) <;> (try simp only [hb0, decide_eq_true_eq, decide_eq_false_iff_not, reduceCtorEq] at hb) <;> (try (exfalso; omega)))
    | ((first | refine hK _ _ ?_ | (clear hK; refine hK _ _ ?_) | (clear hK; clear hK; refine hK _ _ ?_) | (clear hK; clear hK; clear hK; refine hK _ _ ?_)); clear hK; try simp only [pst0, ↓reduceIte, Nat.reduceEqDiff])
    | (rw [if_pos]; rotate_left 1; omega)
    | (simp (maxSteps := 2000000) only [am0, am1, am2, am3, amb0, amb1, amb2, amb3, amb4, lwn, drn, callee, wantedB, isW, eff, pev, pst0, retPost, resAll, resP, resV, intP, mkV, putC, pbin, peq, pint, pshift, pstr, pun, pconv, isShift, isConstB, app, subS, lay, rowsOf, lkV, keyKind, keyEq, mfind, mput, oInt, isZeroInt, forall_const, exists_eq_left', implies_true, IntKind.bits, ↓reduceIte, Nat.reduceEqDiff, Nat.reduceAdd, Nat.reduceSub, Nat.reduceMul, Nat.reduceLT, Nat.reduceLeDiff, Nat.reduceBEq, Int.reduceLE, Int.reduceLT, Int.reduceToNat, reduceCtorEq, Ty.all, iPV, d1, d2, d3, d4, hrl, s1, he, refRow, putC, hn]))
  refine ⟨_, G, ⟨rfl, rfl⟩, ?_, Nat.le_refl _, ?_⟩
  · rw [lPV_imm (by intro h; have h9 := congrArg List.length h; rw [List.length_set, List.length_nil] at h9; omega), List.map_set, refRow]
    simp only [FrzTo]
    refine ⟨_, rfl, ?_⟩
    simp only [FrzL, iPV]
    refine ⟨?_, by simp only [FrzTo], trivial⟩
    simp only [FrzTo]
    refine .inr (.inr ⟨G.next, 0, L.length, (L.set n ⟨e.st, par, op, cost⟩).map refRow, rfl, Nat.le_refl _, ?_, ?_, ?_⟩)
    · rw [set_obj, if_pos rfl, List.map_set]; rfl
    · rw [List.length_map, List.length_set]; omega
    · rw [List.drop_zero, List.take_of_length_le (by rw [List.length_map, List.length_set]; omega), List.map_set]
      have := frz_rows (n := G.next) (h := ((G.new (.arr 4 (L.map refRow))).set G.next (.arr 4 ((L.map refRow).set n [.imm 1 (rowsI e.st), .sc (.int .i64 par), .sc (.int .i64 op), .sc (.int .i64 cost)])))) (L.set n ⟨e.st, par, op, cost⟩)
      rw [List.map_set] at this
      exact this
  · intro id o ho
    have hid := hwf id (by rw [ho]; rfl)
    refine ⟨?_, hid, .inl ho⟩
    have e1 : ¬ (id = G.next) := by omega
    simp only [new_obj, set_obj, e1, if_false]
    exact ho
end Go.Proofs.Ytmooliecnbhbjaa
