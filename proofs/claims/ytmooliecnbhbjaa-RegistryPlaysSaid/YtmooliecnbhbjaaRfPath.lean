/- stratagemref23.Path: the walk. -/
import Derived.Test.YtmooliecnbhbjaaRfAdd
set_option linter.unusedVariables false
set_option linter.unusedSimpArgs false
set_option linter.unusedSectionVars false
namespace Go.Proofs.Ytmooliecnbhbjaa
open Go.AM
set_option maxHeartbeats 4000000
set_option maxRecDepth 20000

def toEnt (xs : List Int) (x : RE) : Ent := ⟨packW xs x.st, x.par, x.op, x.cost⟩
def rfPathPV : Option (List Int) → PV
  | some l => .tup [.imm 1 (rowsI l), iPV 0]
  | none => .tup [nilS, iPV 21]
theorem rfPath_bad {G : Heap} {L : List RE} {x : Int} (hb : x < 0 ∨ L.length ≤ x) : PCall Try.prog 46 [lPV L, iPV x] G fun v h' => v = .tup [nilS, iPV 1] ∧ h' = G := by
  have sl := lPV_sl G L
  have hlen := lenP_sl sl
  rw [List.length_map] at hlen
  have hlk := sl.lk
  by_cases h1 : x < 0
  · have d1 : decide (x < 0) = true := by simpa using h1
    refine pcall_body (ow := fun _ => false) (wf := fun _ => false) Ty.mixed Try.func46 rfl Ty.hb_46 (by rw [Try.ntmps46]; simp) ?_
    rw [Try.ntmps46, Try.results46]
    repeat' (first
      | (refine a_seq (fun K hK => ?_))
      | (refine a_block ?_)
      | (first | refine a_regionS ?_ | refine a_region (fun K hK => ?_) | refine a_ret ?_)
      | ((first | refine a_skip ?_ | refine a_exit ?_); try simp only [pst0, ↓reduceIte, Nat.reduceEqDiff])
      | (refine a_cond _ (by (try simp (maxSteps := 2000000) only [am0, am1, am2, am3, amb0, amb1, amb2, amb3, amb4, lwn, drn, callee, wantedB, isW, eff, pev, pst0, retPost, resAll, resP, resV, intP, mkV, putC, pbin, peq, pint, pshift, pstr, pun, pconv, isShift, isConstB, app, subS, lay, rowsOf, lkV, keyKind, keyEq, mfind, mput, oInt, isZeroInt, forall_const, exists_eq_left', implies_true, IntKind.bits, ↓reduceIte, Nat.reduceEqDiff, Nat.reduceAdd, Nat.reduceSub, Nat.reduceMul, Nat.reduceLT, Nat.reduceLeDiff, Nat.reduceBEq, Int.reduceLE, Int.reduceLT, Int.reduceToNat, reduceCtorEq, Ty.all, iPV, d1]); rfl) (fun hb => ?_) (fun hb => ?_) <;> (try simp only [hb0, decide_eq_true_eq, decide_eq_false_iff_not, reduceCtorEq] at hb) <;> (try (exfalso; omega)))
      | (with_reducible refine ite_in (fun hb => ?_) (fun hb => ?_) <;> (try simp only [Decidable.not_not] at hb) <;> (try simp only [hb, if_true, if_false, not_false_eq_true, not_true_eq_false, ↓reduceIte]) <;> (try simp only [hb0, decide_eq_true_eq, decide_eq_false_iff_not, reduceCtorEq] at hb) <;> (try (exfalso; omega)))
      | ((first | refine hK _ _ ?_ | (clear hK; refine hK _ _ ?_) | (clear hK; clear hK; refine hK _ _ ?_) | (clear hK; clear hK; clear hK; refine hK _ _ ?_)); clear hK; try simp only [pst0, ↓reduceIte, Nat.reduceEqDiff])
      | (rw [if_pos]; rotate_left 1; omega)
      | (simp (maxSteps := 2000000) only [am0, am1, am2, am3, amb0, amb1, amb2, amb3, amb4, lwn, drn, callee, wantedB, isW, eff, pev, pst0, retPost, resAll, resP, resV, intP, mkV, putC, pbin, peq, pint, pshift, pstr, pun, pconv, isShift, isConstB, app, subS, lay, rowsOf, lkV, keyKind, keyEq, mfind, mput, oInt, isZeroInt, forall_const, exists_eq_left', implies_true, IntKind.bits, ↓reduceIte, Nat.reduceEqDiff, Nat.reduceAdd, Nat.reduceSub, Nat.reduceMul, Nat.reduceLT, Nat.reduceLeDiff, Nat.reduceBEq, Int.reduceLE, Int.reduceLT, Int.reduceToNat, reduceCtorEq, Ty.all, iPV, d1]))
    all_goals try rfl
  have d1 : decide (x < 0) = false := by simpa using h1
  have d2 : decide (x ≥ (L.length : Int)) = true := by simp; omega
  refine pcall_body (ow := fun _ => false) (wf := fun _ => false) Ty.mixed Try.func46 rfl Ty.hb_46 (by rw [Try.ntmps46]; simp) ?_
  rw [Try.ntmps46, Try.results46]
  repeat' (first
    | (refine a_seq (fun K hK => ?_))
    | (refine a_block ?_)
    | (first | refine a_regionS ?_ | refine a_region (fun K hK => ?_) | refine a_ret ?_)
    | ((first | refine a_skip ?_ | refine a_exit ?_); try simp only [pst0, ↓reduceIte, Nat.reduceEqDiff])
    | (refine a_cond _ (by (try simp (maxSteps := 2000000) only [am0, am1, am2, am3, amb0, amb1, amb2, amb3, amb4, lwn, drn, callee, wantedB, isW, eff, pev, pst0, retPost, resAll, resP, resV, intP, mkV, putC, pbin, peq, pint, pshift, pstr, pun, pconv, isShift, isConstB, app, subS, lay, rowsOf, lkV, keyKind, keyEq, mfind, mput, oInt, isZeroInt, forall_const, exists_eq_left', implies_true, IntKind.bits, ↓reduceIte, Nat.reduceEqDiff, Nat.reduceAdd, Nat.reduceSub, Nat.reduceMul, Nat.reduceLT, Nat.reduceLeDiff, Nat.reduceBEq, Int.reduceLE, Int.reduceLT, Int.reduceToNat, reduceCtorEq, Ty.all, iPV, d1, d2, hlen, hlk]); rfl) (fun hb => ?_) (fun hb => ?_) <;> (try simp only [hb0, decide_eq_true_eq, decide_eq_false_iff_not, reduceCtorEq] at hb) <;> (try (exfalso; omega)))
    | (with_reducible refine ite_in (fun hb => ?_) (fun hb => ?_) <;> (try simp only [Decidable.not_not] at hb) <;> (try simp only [hb, if_true, if_false, not_false_eq_true, not_true_eq_false, ↓reduceIte]) <;> (try simp only [hb0, decide_eq_true_eq, decide_eq_false_iff_not, reduceCtorEq] at hb) <;> (try (exfalso; omega)))
    | ((first | refine hK _ _ ?_ | (clear hK; refine hK _ _ ?_) | (clear hK; clear hK; refine hK _ _ ?_) | (clear hK; clear hK; clear hK; refine hK _ _ ?_)); clear hK; try simp only [pst0, ↓reduceIte, Nat.reduceEqDiff])
    | (rw [if_pos]; rotate_left 1; omega)
    | (simp (maxSteps := 2000000) only [am0, am1, am2, am3, amb0, amb1, amb2, amb3, amb4, lwn, drn, callee, wantedB, isW, eff, pev, pst0, retPost, resAll, resP, resV, intP, mkV, putC, pbin, peq, pint, pshift, pstr, pun, pconv, isShift, isConstB, app, subS, lay, rowsOf, lkV, keyKind, keyEq, mfind, mput, oInt, isZeroInt, forall_const, exists_eq_left', implies_true, IntKind.bits, ↓reduceIte, Nat.reduceEqDiff, Nat.reduceAdd, Nat.reduceSub, Nat.reduceMul, Nat.reduceLT, Nat.reduceLeDiff, Nat.reduceBEq, Int.reduceLE, Int.reduceLT, Int.reduceToNat, reduceCtorEq, Ty.all, iPV, d1, d2, hlen, hlk]))
  all_goals try rfl
theorem rfPath_c {G : Heap} {xs : List Int} {L : List RE} {n : Nat} (hn : n < L.length) (hL : L.length ≤ 65536) (hv : ∀ x ∈ L, -1 ≤ x.par ∧ x.par < L.length) : PCall Try.prog 46 [lPV L, iPV n] G fun v h' => v = rfPathPV (pathM (L.map (toEnt xs)) n) ∧ h' = G := by
  refine pcall_wf Ty.hb_46 (fun hwf => ?_)
  refine PCall.drop ?_
  have hne : L ≠ [] := by intro h; rw [h] at hn; simp at hn
  have d1 : decide ((n : Int) < 0) = false := by simp
  have d2 : decide ((n : Int) ≥ (L.length : Int)) = false := by simp; omega
  have hrl : (L.map refRow).length = L.length := List.length_map _
  have hEl : (L.map (toEnt xs)).length = L.length := List.length_map _
  rw [lPV_imm hne]
  refine pcall_body (ow := fun d => d == 31) (wf := fun _ => false) Ty.mixed Try.func46 rfl Ty.hb_46 (by rw [Try.ntmps46]; simp) ?_
  rw [Try.ntmps46, Try.results46]
  obtain ⟨P0, hP0⟩ : ∃ P0, P0 = walkP (L.map (toEnt xs)) (L.length + 2) n [] := ⟨_, rfl⟩
  have hpm : pathM (L.map (toEnt xs)) n = P0.map List.reverse := by unfold pathM; rw [hP0, hEl]
  repeat' (first
    | (refine a_seq (fun K hK => ?_))
    | (refine a_block ?_)
    | (first | refine a_regionS ?_ | refine a_region (fun K hK => ?_) | refine a_ret ?_)
    | ((first | refine a_skip ?_ | refine a_exit ?_); try simp only [pst0, ↓reduceIte, Nat.reduceEqDiff])
    | (refine a_cond _ (by (try simp (maxSteps := 2000000) only [am0, am1, am2, am3, amb0, amb1, amb2, amb3, amb4, lwn, drn, callee, wantedB, isW, eff, pev, pst0, retPost, resAll, resP, resV, intP, mkV, putC, pbin, peq, pint, pshift, pstr, pun, pconv, isShift, isConstB, app, subS, lay, rowsOf, lkV, keyKind, keyEq, mfind, mput, oInt, isZeroInt, forall_const, exists_eq_left', implies_true, IntKind.bits, ↓reduceIte, Nat.reduceEqDiff, Nat.reduceAdd, Nat.reduceSub, Nat.reduceMul, Nat.reduceLT, Nat.reduceLeDiff, Nat.reduceBEq, Int.reduceLE, Int.reduceLT, Int.reduceToNat, reduceCtorEq, Ty.all, iPV, d1, d2, hrl]); rfl) (fun hb => ?_) (fun hb => ?_) <;> (try simp only [hb0, decide_eq_true_eq, decide_eq_false_iff_not, reduceCtorEq] at hb) <;> (try (exfalso; omega)))
    | (with_reducible refine ite_in (fun hb => ?_) (fun hb => ?_) <;> (try simp only [Decidable.not_not] at hb) <;> (try simp only [hb, if_true, if_false, not_false_eq_true, not_true_eq_false, ↓reduceIte]) <;> (try simp only [hb0, decide_eq_true_eq, decide_eq_false_iff_not, reduceCtorEq] at hb) <;> (try (exfalso; omega)))
    | ((first | refine hK _ _ ?_ | (clear hK; refine hK _ _ ?_) | (clear hK; clear hK; refine hK _ _ ?_) | (clear hK; clear hK; clear hK; refine hK _ _ ?_)); clear hK; try simp only [pst0, ↓reduceIte, Nat.reduceEqDiff])
    | (rw [if_pos]; rotate_left 1; omega)
    | (simp (maxSteps := 2000000) only [am0, am1, am2, am3, amb0, amb1, amb2, amb3, amb4, lwn, drn, callee, wantedB, isW, eff, pev, pst0, retPost, resAll, resP, resV, intP, mkV, putC, pbin, peq, pint, pshift, pstr, pun, pconv, isShift, isConstB, app, subS, lay, rowsOf, lkV, keyKind, keyEq, mfind, mput, oInt, isZeroInt, forall_const, exists_eq_left', implies_true, IntKind.bits, ↓reduceIte, Nat.reduceEqDiff, Nat.reduceAdd, Nat.reduceSub, Nat.reduceMul, Nat.reduceLT, Nat.reduceLeDiff, Nat.reduceBEq, Int.reduceLE, Int.reduceLT, Int.reduceToNat, reduceCtorEq, Ty.all, iPV, d1, d2, hrl]))
  refine a_loop (fun m s G' => s 0 = .imm 4 (L.map refRow) ∧ Keep G G' ∧ ∃ (id : Nat) (acc : List Int) (o : PV), s 1 = .sc (.int .i64 id) ∧ s 6 = o ∧ id < L.length ∧ Tl G' G.next 1 o (rowsI acc.reverse) ∧ m + acc.length = L.length + 2 ∧ acc.length ≤ L.length ∧ P0 = walkP (L.map (toEnt xs)) m id acc) (L.length + 2) ?_ ?_
  · simp only [am0, am1, am2, am3, amb0, amb1, amb2, amb3, amb4, lwn, drn, callee, wantedB, isW, eff, pev, pst0, retPost, resAll, resP, resV, intP, mkV, putC, pbin, peq, pint, pshift, pstr, pun, pconv, isShift, isConstB, app, subS, lay, rowsOf, lkV, keyKind, keyEq, mfind, mput, oInt, isZeroInt, forall_const, exists_eq_left', implies_true, IntKind.bits, ↓reduceIte, Nat.reduceEqDiff, Nat.reduceAdd, Nat.reduceSub, Nat.reduceMul, Nat.reduceLT, Nat.reduceLeDiff, Nat.reduceBEq, Int.reduceLE, Int.reduceLT, Int.reduceToNat, reduceCtorEq]
    exact ⟨Keep.refl G, n, [], _, rfl, rfl, hn, Tl.nil, by simp, by simp, hP0⟩
  · clear hP0
    rintro m s G' ⟨g0, hkp, id, acc, o, g1, g6, hid, tl, hf, hacc, hw⟩
    obtain ⟨x, hx⟩ : ∃ x, L[id]? = some x := ⟨L[id], List.getElem?_eq_getElem hid⟩
    have hvx := hv x (List.mem_of_getElem? hx)
    obtain ⟨f', rfl⟩ : ∃ f', m = f' + 1 := ⟨m - 1, by omega⟩
    rw [walkP, List.getElem?_map, hx] at hw
    simp only [Option.map_some, toEnt] at hw
    rw [List.length_map] at hw
    by_cases hp : x.par < 0
    · have hd : decide (x.par ≥ 0) = false := by simp; omega
      rw [if_pos hp] at hw
      repeat' (first
        | (refine a_seq (fun K hK => ?_))
        | (refine a_block ?_)
        | (first | refine a_regionS ?_ | refine a_region (fun K hK => ?_) | refine a_ret ?_)
        | ((first | refine a_skip ?_ | refine a_exit ?_); try simp only [pst0, ↓reduceIte, Nat.reduceEqDiff])
        | (refine a_cond _ (by (try simp (maxSteps := 2000000) only [am0, am1, am2, am3, amb0, amb1, amb2, amb3, amb4, lwn, drn, callee, wantedB, isW, eff, pev, pst0, retPost, resAll, resP, resV, intP, mkV, putC, pbin, peq, pint, pshift, pstr, pun, pconv, isShift, isConstB, app, subS, lay, rowsOf, lkV, keyKind, keyEq, mfind, mput, oInt, isZeroInt, forall_const, exists_eq_left', implies_true, IntKind.bits, ↓reduceIte, Nat.reduceEqDiff, Nat.reduceAdd, Nat.reduceSub, Nat.reduceMul, Nat.reduceLT, Nat.reduceLeDiff, Nat.reduceBEq, Int.reduceLE, Int.reduceLT, Int.reduceToNat, reduceCtorEq, Ty.all, g0, g1, g6, hx, refRow, hd]); rfl) (fun hb => ?_) (fun hb => ?_) <;> (try simp only [hb0, decide_eq_true_eq, decide_eq_false_iff_not, reduceCtorEq] at hb) <;> (try (exfalso; omega)))
        | (with_reducible refine ite_in (fun hb => ?_) (fun hb => ?_) <;> (try simp only [Decidable.not_not] at hb) <;> (try simp only [hb, if_true, if_false, not_false_eq_true, not_true_eq_false, ↓reduceIte]) <;> (try simp only [hb0, decide_eq_true_eq, decide_eq_false_iff_not, reduceCtorEq] at hb) <;> (try (exfalso; omega)))
        | ((first | refine hK _ _ ?_ | (clear hK; refine hK _ _ ?_) | (clear hK; clear hK; refine hK _ _ ?_) | (clear hK; clear hK; clear hK; refine hK _ _ ?_)); clear hK; try simp only [pst0, ↓reduceIte, Nat.reduceEqDiff])
        | (rw [if_pos]; rotate_left 1; omega)
        | (simp (maxSteps := 2000000) only [am0, am1, am2, am3, amb0, amb1, amb2, amb3, amb4, lwn, drn, callee, wantedB, isW, eff, pev, pst0, retPost, resAll, resP, resV, intP, mkV, putC, pbin, peq, pint, pshift, pstr, pun, pconv, isShift, isConstB, app, subS, lay, rowsOf, lkV, keyKind, keyEq, mfind, mput, oInt, isZeroInt, forall_const, exists_eq_left', implies_true, IntKind.bits, ↓reduceIte, Nat.reduceEqDiff, Nat.reduceAdd, Nat.reduceSub, Nat.reduceMul, Nat.reduceLT, Nat.reduceLeDiff, Nat.reduceBEq, Int.reduceLE, Int.reduceLT, Int.reduceToNat, reduceCtorEq, Ty.all, g0, g1, g6, hx, refRow, hd]))
      refine ⟨rfPathPV (pathM (L.map (toEnt xs)) n), G, ⟨rfl, rfl⟩, ?_, Nat.le_refl _, drop_same hwf hkp⟩
      rw [hpm, hw]
      simp only [Option.map_some, rfPathPV, FrzTo]
      exact ⟨_, rfl, by simp only [FrzL, iPV]; exact ⟨tl.frz (rowsI_scal _), by simp only [FrzTo], trivial⟩⟩
    · have hd : decide (x.par ≥ 0) = true := by simp; omega
      rw [if_neg hp] at hw
      obtain ⟨pn, hpn⟩ := Int.eq_ofNat_of_zero_le (show 0 ≤ x.par by omega)
      have hlo := lenP_sl tl.sl
      rw [rowsI_len, List.length_reverse] at hlo
      have hlk6 := tl.sl.lk
      by_cases hc : L.length < acc.length + 1
      · have hdc : decide ((acc.length : Int) ≥ (L.length : Int)) = true := by simp; omega
        rw [if_pos hc] at hw
        repeat' (first
          | (refine a_seq (fun K hK => ?_))
          | (refine a_block ?_)
          | (first | refine a_regionS ?_ | refine a_region (fun K hK => ?_) | refine a_ret ?_)
          | ((first | refine a_skip ?_ | refine a_exit ?_); try simp only [pst0, ↓reduceIte, Nat.reduceEqDiff])
          | (refine a_cond _ (by (try simp (maxSteps := 2000000) only [am0, am1, am2, am3, amb0, amb1, amb2, amb3, amb4, lwn, drn, callee, wantedB, isW, eff, pev, pst0, retPost, resAll, resP, resV, intP, mkV, putC, pbin, peq, pint, pshift, pstr, pun, pconv, isShift, isConstB, app, subS, lay, rowsOf, lkV, keyKind, keyEq, mfind, mput, oInt, isZeroInt, forall_const, exists_eq_left', implies_true, IntKind.bits, ↓reduceIte, Nat.reduceEqDiff, Nat.reduceAdd, Nat.reduceSub, Nat.reduceMul, Nat.reduceLT, Nat.reduceLeDiff, Nat.reduceBEq, Int.reduceLE, Int.reduceLT, Int.reduceToNat, reduceCtorEq, Ty.all, g0, g1, g6, hx, refRow, hd, hlo, hlk6, hrl, hdc]); rfl) (fun hb => ?_) (fun hb => ?_) <;> (try simp only [hb0, decide_eq_true_eq, decide_eq_false_iff_not, reduceCtorEq] at hb) <;> (try (exfalso; omega)))
          | (with_reducible refine ite_in (fun hb => ?_) (fun hb => ?_) <;> (try simp only [Decidable.not_not] at hb) <;> (try simp only [hb, if_true, if_false, not_false_eq_true, not_true_eq_false, ↓reduceIte]) <;> (try simp only [hb0, decide_eq_true_eq, decide_eq_false_iff_not, reduceCtorEq] at hb) <;> (try (exfalso; omega)))
          | ((first | refine hK _ _ ?_ | (clear hK; refine hK _ _ ?_) | (clear hK; clear hK; refine hK _ _ ?_) | (clear hK; clear hK; clear hK; refine hK _ _ ?_)); clear hK; try simp only [pst0, ↓reduceIte, Nat.reduceEqDiff])
          | (rw [if_pos]; rotate_left 1; omega)
          | (simp (maxSteps := 2000000) only [am0, am1, am2, am3, amb0, amb1, amb2, amb3, amb4, lwn, drn, callee, wantedB, isW, eff, pev, pst0, retPost, resAll, resP, resV, intP, mkV, putC, pbin, peq, pint, pshift, pstr, pun, pconv, isShift, isConstB, app, subS, lay, rowsOf, lkV, keyKind, keyEq, mfind, mput, oInt, isZeroInt, forall_const, exists_eq_left', implies_true, IntKind.bits, ↓reduceIte, Nat.reduceEqDiff, Nat.reduceAdd, Nat.reduceSub, Nat.reduceMul, Nat.reduceLT, Nat.reduceLeDiff, Nat.reduceBEq, Int.reduceLE, Int.reduceLT, Int.reduceToNat, reduceCtorEq, Ty.all, g0, g1, g6, hx, refRow, hd, hlo, hlk6, hrl, hdc]))
        refine ⟨rfPathPV (pathM (L.map (toEnt xs)) n), G, ⟨rfl, rfl⟩, ?_, Nat.le_refl _, drop_same hwf hkp⟩
        rw [hpm, hw]
        simp [rfPathPV, FrzTo, FrzL, nilS, iPV]
      · have hdc : decide ((acc.length : Int) ≥ (L.length : Int)) = false := by simp; omega
        rw [if_neg hc, hpn, Int.toNat_natCast] at hw
        have tl1 : Tl (G'.new (.arr 1 [[.sc (.int .i64 x.op)]])) G.next 1 o (rowsI acc.reverse) := Tl.fr tl (by rw [new_next]; omega) (fun j len ho => by
          rw [new_obj, if_neg (by have := Tl.lt tl j len ho; omega)])
        have hvw := tl1.sl.vw
        have hzk := tl1.sl.zk
        have hln : (rowsI acc.reverse).length = acc.length := by rw [rowsI_len, List.length_reverse]
        have hsz : (1 + acc.length) * 8 ≤ 140737488355328 := by omega
        repeat' (first
          | (refine a_seq (fun K hK => ?_))
          | (refine a_block ?_)
          | (first | refine a_regionS ?_ | refine a_region (fun K hK => ?_) | refine a_ret ?_)
          | ((first | refine a_skip ?_ | refine a_exit ?_); try simp only [pst0, ↓reduceIte, Nat.reduceEqDiff])
          | (refine a_cond _ (by (try simp (maxSteps := 2000000) only [am0, am1, am2, am3, amb0, amb1, amb2, amb3, amb4, lwn, drn, callee, wantedB, isW, eff, pev, pst0, retPost, resAll, resP, resV, intP, mkV, putC, pbin, peq, pint, pshift, pstr, pun, pconv, isShift, isConstB, app, subS, lay, rowsOf, lkV, keyKind, keyEq, mfind, mput, oInt, isZeroInt, forall_const, exists_eq_left', implies_true, IntKind.bits, ↓reduceIte, Nat.reduceEqDiff, Nat.reduceAdd, Nat.reduceSub, Nat.reduceMul, Nat.reduceLT, Nat.reduceLeDiff, Nat.reduceBEq, Int.reduceLE, Int.reduceLT, Int.reduceToNat, reduceCtorEq, Ty.all, g0, g1, g6, hx, refRow, hd, hlo, hlk6, hrl, hdc, hvw, hzk, hln, hsz]); rfl) (fun hb => ?_) (fun hb => ?_) <;> (try simp only [hb0, decide_eq_true_eq, decide_eq_false_iff_not, reduceCtorEq] at hb) <;> (try (exfalso; omega)))
          | (with_reducible refine ite_in (fun hb => ?_) (fun hb => ?_) <;> (try simp only [Decidable.not_not] at hb) <;> (try simp only [hb, if_true, if_false, not_false_eq_true, not_true_eq_false, ↓reduceIte]) <;> (try simp only [hb0, decide_eq_true_eq, decide_eq_false_iff_not, reduceCtorEq] at hb) <;> (try (exfalso; omega)))
          | ((first | refine hK _ _ ?_ | (clear hK; refine hK _ _ ?_) | (clear hK; clear hK; refine hK _ _ ?_) | (clear hK; clear hK; clear hK; refine hK _ _ ?_)); clear hK; try simp only [pst0, ↓reduceIte, Nat.reduceEqDiff])
          | (rw [if_pos]; rotate_left 1; omega)
          | (simp (maxSteps := 2000000) only [am0, am1, am2, am3, amb0, amb1, amb2, amb3, amb4, lwn, drn, callee, wantedB, isW, eff, pev, pst0, retPost, resAll, resP, resV, intP, mkV, putC, pbin, peq, pint, pshift, pstr, pun, pconv, isShift, isConstB, app, subS, lay, rowsOf, lkV, keyKind, keyEq, mfind, mput, oInt, isZeroInt, forall_const, exists_eq_left', implies_true, IntKind.bits, ↓reduceIte, Nat.reduceEqDiff, Nat.reduceAdd, Nat.reduceSub, Nat.reduceMul, Nat.reduceLT, Nat.reduceLeDiff, Nat.reduceBEq, Int.reduceLE, Int.reduceLT, Int.reduceToNat, reduceCtorEq, Ty.all, g0, g1, g6, hx, refRow, hd, hlo, hlk6, hrl, hdc, hvw, hzk, hln, hsz]))
        try simp (maxSteps := 2000000) only [am0, am1, am2, am3, amb0, amb1, amb2, amb3, amb4, lwn, drn, callee, wantedB, isW, eff, pev, pst0, retPost, resAll, resP, resV, intP, mkV, putC, pbin, peq, pint, pshift, pstr, pun, pconv, isShift, isConstB, app, subS, lay, rowsOf, lkV, keyKind, keyEq, mfind, mput, oInt, isZeroInt, forall_const, exists_eq_left', implies_true, IntKind.bits, ↓reduceIte, Nat.reduceEqDiff, Nat.reduceAdd, Nat.reduceSub, Nat.reduceMul, Nat.reduceLT, Nat.reduceLeDiff, Nat.reduceBEq, Int.reduceLE, Int.reduceLT, Int.reduceToNat, reduceCtorEq, Ty.all, g0, g1, g6]
        have hrev : [.sc (.int .i64 x.op)] :: rowsI acc.reverse = rowsI (acc ++ [x.op]).reverse := by
          rw [List.reverse_append]; rfl
        rw [hrev]
        have hkk : Keep G (((G'.new (.arr 1 [[.sc (.int .i64 x.op)]])).kill G'.next).new (.arr 1 (rowsI (acc ++ [x.op]).reverse))) := keep_new (keep_kill hkp.1 (keep_new hkp))
        have tl3 := Tl.grow (H := (G'.new (.arr 1 [[.sc (.int .i64 x.op)]])).kill G'.next) (id0 := G.next) (z := 1) (len := 1 + acc.length) (rows := rowsI (acc ++ [x.op]).reverse) (by rw [kill_next, new_next]; have := hkp.1; omega) (by rw [rowsI_len, List.length_reverse, List.length_append, List.length_singleton]; omega)
        rw [kill_next, new_next] at tl3
        exact ⟨f', by omega, hkk, pn, acc ++ [x.op], _, by rw [hpn], rfl, by omega, tl3, by rw [List.length_append, List.length_singleton]; omega, by rw [List.length_append, List.length_singleton]; omega, hw⟩
end Go.Proofs.Ytmooliecnbhbjaa
