/- Names: the walks of both functions. -/
import Derived.Test.YtdnpmfjfgamaeaaGreatFmName
set_option linter.unusedVariables false
set_option linter.unusedSimpArgs false
set_option linter.unusedSectionVars false
namespace Go.Proofs.YtdnpmfjfgamaeaaGreat
open Go.AM
set_option maxHeartbeats 800000
set_option maxRecDepth 20000
/-- the classes of bytes, by the comparisons that are made -/
theorem byte_cls (c : UInt8) : (letB c = true ∧ decide ((c.toNat : Int) ≥ 97) = true ∧ decide ((c.toNat : Int) ≤ 122) = true) ∨
    (letB c = false ∧ decide ((c.toNat : Int) ≥ 97) = false) ∨ (letB c = false ∧ midB c = false ∧ decide ((c.toNat : Int) ≥ 97) = true ∧ decide ((c.toNat : Int) ≤ 122) = false ∧ decide ((c.toNat : Int) < 48) = false ∧ decide ((c.toNat : Int) > 57) = true ∧ ((c.toNat : Int) != 45) = true ∧ ((c.toNat : Int) != 95) = true) := by
  by_cases h1 : 97 ≤ c.toNat
  · by_cases h2 : c.toNat ≤ 122
    · exact .inl ⟨by simp [letB, h1, h2], by simp; omega, by simp; omega⟩
    · refine .inr (.inr ⟨by simp [letB, h1, h2], by simp [midB, letB]; omega, by simp; omega, by simp; omega, by simp; omega, by simp; omega, by simp; omega, by simp; omega⟩)
  · exact .inr (.inl ⟨by simp [letB, h1], by simp; omega⟩)
theorem byte_cls2 {c : UInt8} (h : decide ((c.toNat : Int) ≥ 97) = false) :
    (midB c = true ∧ decide ((c.toNat : Int) < 48) = true ∧ ((c.toNat : Int) != 45) = false) ∨
    (midB c = false ∧ decide ((c.toNat : Int) < 48) = true ∧ ((c.toNat : Int) != 45) = true ∧ ((c.toNat : Int) != 95) = true) ∨
    (midB c = true ∧ decide ((c.toNat : Int) < 48) = false ∧ decide ((c.toNat : Int) > 57) = false) ∨
    (midB c = true ∧ decide ((c.toNat : Int) < 48) = false ∧ decide ((c.toNat : Int) > 57) = true ∧ ((c.toNat : Int) != 45) = true ∧ ((c.toNat : Int) != 95) = false) ∨
    (midB c = false ∧ decide ((c.toNat : Int) < 48) = false ∧ decide ((c.toNat : Int) > 57) = true ∧ ((c.toNat : Int) != 45) = true ∧ ((c.toNat : Int) != 95) = true) := by
  simp at h
  by_cases h1 : c.toNat < 48
  · by_cases h2 : c.toNat = 45
    · exact .inl ⟨by simp [midB, h2], by simp; omega, by simp; omega⟩
    · exact .inr (.inl ⟨by simp [midB, letB]; omega, by simp; omega, by simp; omega, by simp; omega⟩)
  · by_cases h2 : c.toNat ≤ 57
    · exact .inr (.inr (.inl ⟨by simp [midB, letB]; omega, by simp; omega, by simp; omega⟩))
    · by_cases h3 : c.toNat = 95
      · exact .inr (.inr (.inr (.inl ⟨by simp [midB, h3], by simp; omega, by simp; omega, by simp; omega, by simp; omega⟩)))
      · exact .inr (.inr (.inr (.inr ⟨by simp [midB, letB]; omega, by simp; omega, by simp; omega, by simp; omega, by simp; omega⟩)))
theorem byte_cls3 (c : UInt8) : (midB c = true ∧ decide ((c.toNat : Int) < 97) = false ∧ decide ((c.toNat : Int) > 122) = false) ∨
    (midB c = false ∧ decide ((c.toNat : Int) < 97) = false ∧ decide ((c.toNat : Int) > 122) = true ∧ decide ((c.toNat : Int) < 48) = false ∧ decide ((c.toNat : Int) > 57) = true ∧ ((c.toNat : Int) != 45) = true ∧ ((c.toNat : Int) != 95) = true) ∨
    (decide ((c.toNat : Int) < 97) = true ∧ decide ((c.toNat : Int) ≥ 97) = false) := by
  by_cases h1 : 97 ≤ c.toNat
  · by_cases h2 : c.toNat ≤ 122
    · exact .inl ⟨by simp [midB, letB, h1, h2], by simp; omega, by simp; omega⟩
    · exact .inr (.inl ⟨by simp [midB, letB]; omega, by simp; omega, by simp; omega, by simp; omega, by simp; omega, by simp; omega, by simp; omega⟩)
  · exact .inr (.inr ⟨by simp; omega, by simp; omega⟩)
theorem fname_c {h : Heap} {s : ByteArray} (hs : s.size ≤ 9223372036854775807) : PCall Tryz.prog 107 [sPV s] h fun r h' => r = .sc (.bool (nameB s)) ∧ h' = h := by
  have hsl : s.data.toList.length = s.size := by rw [Array.length_toList]; rfl
  refine pcall_body (ow := fun _ => false) (wf := fun _ => false) Ty.mixed Tryz.func107 rfl Ty.hb_107 (by rw [Tryz.ntmps107]; simp) ?_
  rw [Tryz.ntmps107, Tryz.results107]
  repeat' (first
    | (refine a_seq (fun K hK => ?_))
    | (refine a_block ?_)
    | ((first | refine a_regionS ?_ | refine a_region (fun K hK => ?_) | refine a_ret ?_); simp (maxSteps := 2000000) only [undef, am0, am1, am2, am3, amb0, amb1, amb2, amb3, amb4, lwn, drn, callee, wantedB, isW, eff, pev, pst0, retPost, resAll, resP, resV, intP, mkV, putC, pbin, sbin, strsEq, peq, pint, pshift, pstr, pun, pconv, isShift, isConstB, app, subS, lay, rowsOf, lkV, keyKind, keyEq, mfind, mput, oInt, isZeroInt, forall_const, exists_eq_left', implies_true, IntKind.bits, ↓reduceIte, Nat.reduceEqDiff, Nat.reduceAdd, Nat.reduceSub, Nat.reduceMul, Nat.reduceLT, Nat.reduceLeDiff, Nat.reduceBEq, Int.reduceLE, Int.reduceLT, Int.reduceToNat, reduceCtorEq, Ty.all])
    | (refine a_skip ?_; try simp only [pst0, ↓reduceIte, Nat.reduceEqDiff])
    | (refine a_exit ?_; try simp only [pst0, ↓reduceIte, Nat.reduceEqDiff])
    | (refine a_cond _ (by (try simp (maxSteps := 2000000) only [undef, am0, am1, am2, am3, amb0, amb1, amb2, amb3, amb4, lwn, drn, callee, wantedB, isW, eff, pev, pst0, retPost, resAll, resP, resV, intP, mkV, putC, pbin, sbin, strsEq, peq, pint, pshift, pstr, pun, pconv, isShift, isConstB, app, subS, lay, rowsOf, lkV, keyKind, keyEq, mfind, mput, oInt, isZeroInt, forall_const, exists_eq_left', implies_true, IntKind.bits, ↓reduceIte, Nat.reduceEqDiff, Nat.reduceAdd, Nat.reduceSub, Nat.reduceMul, Nat.reduceLT, Nat.reduceLeDiff, Nat.reduceBEq, Int.reduceLE, Int.reduceLT, Int.reduceToNat, reduceCtorEq, Ty.all]); rfl) (fun hb => ?_) (fun hb => ?_) <;> (try simp only [hb0, decide_eq_true_eq, decide_eq_false_iff_not, reduceCtorEq] at hb) <;> (try (exfalso; omega)))
    | (with_reducible refine ite_in (fun hb => ?_) (fun hb => ?_) <;> (try simp only [Decidable.not_not] at hb) <;> (try simp only [hb, if_true, if_false, not_false_eq_true, not_true_eq_false, ↓reduceIte]) <;> (try simp only [hb0, decide_eq_true_eq, decide_eq_false_iff_not, reduceCtorEq] at hb) <;> (try (exfalso; omega)))
    | (refine hK _ _ ?_; clear hK; try simp only [pst0, ↓reduceIte, Nat.reduceEqDiff])
    | (clear hK; refine hK _ _ ?_; clear hK; try simp only [pst0, ↓reduceIte, Nat.reduceEqDiff])
    | (clear hK; clear hK; refine hK _ _ ?_; clear hK; try simp only [pst0, ↓reduceIte, Nat.reduceEqDiff])
    | (clear hK; clear hK; clear hK; refine hK _ _ ?_; clear hK; try simp only [pst0, ↓reduceIte, Nat.reduceEqDiff])
    | (rw [if_pos]; rotate_left 1; omega; simp (maxSteps := 2000000) only [undef, am0, am1, am2, am3, amb0, amb1, amb2, amb3, amb4, lwn, drn, callee, wantedB, isW, eff, pev, pst0, retPost, resAll, resP, resV, intP, mkV, putC, pbin, sbin, strsEq, peq, pint, pshift, pstr, pun, pconv, isShift, isConstB, app, subS, lay, rowsOf, lkV, keyKind, keyEq, mfind, mput, oInt, isZeroInt, forall_const, exists_eq_left', implies_true, IntKind.bits, ↓reduceIte, Nat.reduceEqDiff, Nat.reduceAdd, Nat.reduceSub, Nat.reduceMul, Nat.reduceLT, Nat.reduceLeDiff, Nat.reduceBEq, Int.reduceLE, Int.reduceLT, Int.reduceToNat, reduceCtorEq, Ty.all]))
  refine a_loop (fun m S h' => h' = h ∧ S 0 = sPV s ∧ S 7 = .sc (.int .i64 s.size) ∧ ∃ k : Nat, S 8 = .sc (.int .i64 k) ∧ k ≤ s.size ∧ m = s.size - k ∧ ∀ (i : Nat) (c : UInt8), i < k → s.data.toList[i]? = some c → okAt i c = true) s.size ?_ ?_
  · simp only [undef, am0, am1, am2, am3, amb0, amb1, amb2, amb3, amb4, lwn, drn, callee, wantedB, isW, eff, pev, pst0, retPost, resAll, resP, resV, intP, mkV, putC, pbin, sbin, strsEq, peq, pint, pshift, pstr, pun, pconv, isShift, isConstB, app, subS, lay, rowsOf, lkV, keyKind, keyEq, mfind, mput, oInt, isZeroInt, forall_const, exists_eq_left', implies_true, IntKind.bits, ↓reduceIte, Nat.reduceEqDiff, Nat.reduceAdd, Nat.reduceSub, Nat.reduceMul, Nat.reduceLT, Nat.reduceLeDiff, Nat.reduceBEq, Int.reduceLE, Int.reduceLT, Int.reduceToNat, reduceCtorEq]
    exact ⟨0, rfl, by omega, rfl, by omega⟩
  · rintro m S h' ⟨rfl, g0, g7, k, g8, hk, rfl, hall⟩
    by_cases hlt : k < s.size
    · have hd : decide ((k : Int) < (s.size : Int)) = true := by simp; omega
      have w7 : IntKind.i64.wrap ((k : Int) + 1) = k + 1 := by rw [wrap64 (by omega) (by omega)]
      obtain ⟨c, hx⟩ : ∃ c, s.data.toList[k]? = some c := ⟨_, List.getElem?_eq_getElem (by omega)⟩
      have hr : s[k]? = some c := by rw [ba_get]; exact hx
      have bad : okAt k c = false → nameB s = false := fun e => by simp [nameB, bytesOk_false hx e]
      have good : okAt k c = true → ∃ m', m' < s.size - k ∧ ∃ k' : Nat, (k : Int) + 1 = k' ∧ k' ≤ s.size ∧ m' = s.size - k' ∧ ∀ (i : Nat) (c : UInt8), i < k' → s.data.toList[i]? = some c → okAt i c = true := fun e => by
        refine ⟨s.size - (k + 1), by omega, k + 1, by simp, by omega, rfl, fun i c2 hi hw => ?_⟩
        by_cases hik : i = k
        · subst hik; rw [hx] at hw; simp at hw; rw [← hw]; exact e
        · exact hall i c2 (by omega) hw
      clear hall
      have fin1 : ∀ {e : Bool}, okAt k c = false → e = false → PV.sc (.bool e) = .sc (.bool (nameB s)) := fun h1 h2 => by rw [h2, bad h1]
      rcases byte_cls c with ⟨l1, c1, c2⟩ | ⟨l1, c1⟩ | ⟨l1, m1, c1, c2, c3, c4, c5, c6⟩
      · repeat' (first
          | (refine a_seq (fun K hK => ?_))
          | (refine a_block ?_)
          | ((first | refine a_regionS ?_ | refine a_region (fun K hK => ?_) | refine a_ret ?_); simp (maxSteps := 2000000) only [undef, am0, am1, am2, am3, amb0, amb1, amb2, amb3, amb4, lwn, drn, callee, wantedB, isW, eff, pev, pst0, retPost, resAll, resP, resV, intP, mkV, putC, pbin, sbin, strsEq, peq, pint, pshift, pstr, pun, pconv, isShift, isConstB, app, subS, lay, rowsOf, lkV, keyKind, keyEq, mfind, mput, oInt, isZeroInt, forall_const, exists_eq_left', implies_true, IntKind.bits, ↓reduceIte, Nat.reduceEqDiff, Nat.reduceAdd, Nat.reduceSub, Nat.reduceMul, Nat.reduceLT, Nat.reduceLeDiff, Nat.reduceBEq, Int.reduceLE, Int.reduceLT, Int.reduceToNat, reduceCtorEq, Ty.all, g0, g7, g8, hd, hr, w7, c1, c2])
          | (refine a_skip ?_; try simp only [pst0, ↓reduceIte, Nat.reduceEqDiff])
          | (refine a_exit ?_; try simp only [pst0, ↓reduceIte, Nat.reduceEqDiff])
          | (refine a_cond _ (by (try simp (maxSteps := 2000000) only [undef, am0, am1, am2, am3, amb0, amb1, amb2, amb3, amb4, lwn, drn, callee, wantedB, isW, eff, pev, pst0, retPost, resAll, resP, resV, intP, mkV, putC, pbin, sbin, strsEq, peq, pint, pshift, pstr, pun, pconv, isShift, isConstB, app, subS, lay, rowsOf, lkV, keyKind, keyEq, mfind, mput, oInt, isZeroInt, forall_const, exists_eq_left', implies_true, IntKind.bits, ↓reduceIte, Nat.reduceEqDiff, Nat.reduceAdd, Nat.reduceSub, Nat.reduceMul, Nat.reduceLT, Nat.reduceLeDiff, Nat.reduceBEq, Int.reduceLE, Int.reduceLT, Int.reduceToNat, reduceCtorEq, Ty.all, g0, g7, g8, hd, hr, w7, c1, c2]); rfl) (fun hb => ?_) (fun hb => ?_) <;> (try simp only [hb0, decide_eq_true_eq, decide_eq_false_iff_not, reduceCtorEq] at hb) <;> (try (exfalso; omega)))
          | (with_reducible refine ite_in (fun hb => ?_) (fun hb => ?_) <;> (try simp only [Decidable.not_not] at hb) <;> (try simp only [hb, if_true, if_false, not_false_eq_true, not_true_eq_false, ↓reduceIte]) <;> (try simp only [hb0, decide_eq_true_eq, decide_eq_false_iff_not, reduceCtorEq] at hb) <;> (try (exfalso; omega)))
          | (refine hK _ _ ?_; clear hK; try simp only [pst0, ↓reduceIte, Nat.reduceEqDiff])
          | (clear hK; refine hK _ _ ?_; clear hK; try simp only [pst0, ↓reduceIte, Nat.reduceEqDiff])
          | (clear hK; clear hK; refine hK _ _ ?_; clear hK; try simp only [pst0, ↓reduceIte, Nat.reduceEqDiff])
          | (clear hK; clear hK; clear hK; refine hK _ _ ?_; clear hK; try simp only [pst0, ↓reduceIte, Nat.reduceEqDiff])
          | (rw [if_pos]; rotate_left 1; omega; simp (maxSteps := 2000000) only [undef, am0, am1, am2, am3, amb0, amb1, amb2, amb3, amb4, lwn, drn, callee, wantedB, isW, eff, pev, pst0, retPost, resAll, resP, resV, intP, mkV, putC, pbin, sbin, strsEq, peq, pint, pshift, pstr, pun, pconv, isShift, isConstB, app, subS, lay, rowsOf, lkV, keyKind, keyEq, mfind, mput, oInt, isZeroInt, forall_const, exists_eq_left', implies_true, IntKind.bits, ↓reduceIte, Nat.reduceEqDiff, Nat.reduceAdd, Nat.reduceSub, Nat.reduceMul, Nat.reduceLT, Nat.reduceLeDiff, Nat.reduceBEq, Int.reduceLE, Int.reduceLT, Int.reduceToNat, reduceCtorEq, Ty.all, g0, g7, g8, hd, hr, w7, c1, c2]))
        have := good (by simp [okAt, l1])
        simpa using this
      · cases k0 : ((k : Int) == 0) with
        | true =>
          have hk0 : k = 0 := by simpa using k0
          have hbad := bad (by simp [okAt, l1, hk0])
          repeat' (first
            | (refine a_seq (fun K hK => ?_))
            | (refine a_block ?_)
            | ((first | refine a_regionS ?_ | refine a_region (fun K hK => ?_) | refine a_ret ?_); simp (maxSteps := 2000000) only [undef, am0, am1, am2, am3, amb0, amb1, amb2, amb3, amb4, lwn, drn, callee, wantedB, isW, eff, pev, pst0, retPost, resAll, resP, resV, intP, mkV, putC, pbin, sbin, strsEq, peq, pint, pshift, pstr, pun, pconv, isShift, isConstB, app, subS, lay, rowsOf, lkV, keyKind, keyEq, mfind, mput, oInt, isZeroInt, forall_const, exists_eq_left', implies_true, IntKind.bits, ↓reduceIte, Nat.reduceEqDiff, Nat.reduceAdd, Nat.reduceSub, Nat.reduceMul, Nat.reduceLT, Nat.reduceLeDiff, Nat.reduceBEq, Int.reduceLE, Int.reduceLT, Int.reduceToNat, reduceCtorEq, Ty.all, g0, g7, g8, hd, hr, w7, c1, k0])
            | (refine a_skip ?_; try simp only [pst0, ↓reduceIte, Nat.reduceEqDiff])
            | (refine a_exit ?_; try simp only [pst0, ↓reduceIte, Nat.reduceEqDiff])
            | (refine a_cond _ (by (try simp (maxSteps := 2000000) only [undef, am0, am1, am2, am3, amb0, amb1, amb2, amb3, amb4, lwn, drn, callee, wantedB, isW, eff, pev, pst0, retPost, resAll, resP, resV, intP, mkV, putC, pbin, sbin, strsEq, peq, pint, pshift, pstr, pun, pconv, isShift, isConstB, app, subS, lay, rowsOf, lkV, keyKind, keyEq, mfind, mput, oInt, isZeroInt, forall_const, exists_eq_left', implies_true, IntKind.bits, ↓reduceIte, Nat.reduceEqDiff, Nat.reduceAdd, Nat.reduceSub, Nat.reduceMul, Nat.reduceLT, Nat.reduceLeDiff, Nat.reduceBEq, Int.reduceLE, Int.reduceLT, Int.reduceToNat, reduceCtorEq, Ty.all, g0, g7, g8, hd, hr, w7, c1, k0]); rfl) (fun hb => ?_) (fun hb => ?_) <;> (try simp only [hb0, decide_eq_true_eq, decide_eq_false_iff_not, reduceCtorEq] at hb) <;> (try (exfalso; omega)))
            | (with_reducible refine ite_in (fun hb => ?_) (fun hb => ?_) <;> (try simp only [Decidable.not_not] at hb) <;> (try simp only [hb, if_true, if_false, not_false_eq_true, not_true_eq_false, ↓reduceIte]) <;> (try simp only [hb0, decide_eq_true_eq, decide_eq_false_iff_not, reduceCtorEq] at hb) <;> (try (exfalso; omega)))
            | (refine hK _ _ ?_; clear hK; try simp only [pst0, ↓reduceIte, Nat.reduceEqDiff])
            | (clear hK; refine hK _ _ ?_; clear hK; try simp only [pst0, ↓reduceIte, Nat.reduceEqDiff])
            | (clear hK; clear hK; refine hK _ _ ?_; clear hK; try simp only [pst0, ↓reduceIte, Nat.reduceEqDiff])
            | (clear hK; clear hK; clear hK; refine hK _ _ ?_; clear hK; try simp only [pst0, ↓reduceIte, Nat.reduceEqDiff])
            | (rw [if_pos]; rotate_left 1; omega; simp (maxSteps := 2000000) only [undef, am0, am1, am2, am3, amb0, amb1, amb2, amb3, amb4, lwn, drn, callee, wantedB, isW, eff, pev, pst0, retPost, resAll, resP, resV, intP, mkV, putC, pbin, sbin, strsEq, peq, pint, pshift, pstr, pun, pconv, isShift, isConstB, app, subS, lay, rowsOf, lkV, keyKind, keyEq, mfind, mput, oInt, isZeroInt, forall_const, exists_eq_left', implies_true, IntKind.bits, ↓reduceIte, Nat.reduceEqDiff, Nat.reduceAdd, Nat.reduceSub, Nat.reduceMul, Nat.reduceLT, Nat.reduceLeDiff, Nat.reduceBEq, Int.reduceLE, Int.reduceLT, Int.reduceToNat, reduceCtorEq, Ty.all, g0, g7, g8, hd, hr, w7, c1, k0]))
          rw [hbad]
        | false =>
          have hk0 : k ≠ 0 := by simpa using k0
          rcases byte_cls2 c1 with ⟨m1, c3, c5⟩ | ⟨m1, c3, c5, c6⟩ | ⟨m1, c3, c4⟩ | ⟨m1, c3, c4, c5, c6⟩ | ⟨m1, c3, c4, c5, c6⟩
          · repeat' (first
              | (refine a_seq (fun K hK => ?_))
              | (refine a_block ?_)
              | ((first | refine a_regionS ?_ | refine a_region (fun K hK => ?_) | refine a_ret ?_); simp (maxSteps := 2000000) only [undef, am0, am1, am2, am3, amb0, amb1, amb2, amb3, amb4, lwn, drn, callee, wantedB, isW, eff, pev, pst0, retPost, resAll, resP, resV, intP, mkV, putC, pbin, sbin, strsEq, peq, pint, pshift, pstr, pun, pconv, isShift, isConstB, app, subS, lay, rowsOf, lkV, keyKind, keyEq, mfind, mput, oInt, isZeroInt, forall_const, exists_eq_left', implies_true, IntKind.bits, ↓reduceIte, Nat.reduceEqDiff, Nat.reduceAdd, Nat.reduceSub, Nat.reduceMul, Nat.reduceLT, Nat.reduceLeDiff, Nat.reduceBEq, Int.reduceLE, Int.reduceLT, Int.reduceToNat, reduceCtorEq, Ty.all, g0, g7, g8, hd, hr, w7, c1, k0, c3, c5])
              | (refine a_skip ?_; try simp only [pst0, ↓reduceIte, Nat.reduceEqDiff])
              | (refine a_exit ?_; try simp only [pst0, ↓reduceIte, Nat.reduceEqDiff])
              | (refine a_cond _ (by (try simp (maxSteps := 2000000) only [undef, am0, am1, am2, am3, amb0, amb1, amb2, amb3, amb4, lwn, drn, callee, wantedB, isW, eff, pev, pst0, retPost, resAll, resP, resV, intP, mkV, putC, pbin, sbin, strsEq, peq, pint, pshift, pstr, pun, pconv, isShift, isConstB, app, subS, lay, rowsOf, lkV, keyKind, keyEq, mfind, mput, oInt, isZeroInt, forall_const, exists_eq_left', implies_true, IntKind.bits, ↓reduceIte, Nat.reduceEqDiff, Nat.reduceAdd, Nat.reduceSub, Nat.reduceMul, Nat.reduceLT, Nat.reduceLeDiff, Nat.reduceBEq, Int.reduceLE, Int.reduceLT, Int.reduceToNat, reduceCtorEq, Ty.all, g0, g7, g8, hd, hr, w7, c1, k0, c3, c5]); rfl) (fun hb => ?_) (fun hb => ?_) <;> (try simp only [hb0, decide_eq_true_eq, decide_eq_false_iff_not, reduceCtorEq] at hb) <;> (try (exfalso; omega)))
              | (with_reducible refine ite_in (fun hb => ?_) (fun hb => ?_) <;> (try simp only [Decidable.not_not] at hb) <;> (try simp only [hb, if_true, if_false, not_false_eq_true, not_true_eq_false, ↓reduceIte]) <;> (try simp only [hb0, decide_eq_true_eq, decide_eq_false_iff_not, reduceCtorEq] at hb) <;> (try (exfalso; omega)))
              | (refine hK _ _ ?_; clear hK; try simp only [pst0, ↓reduceIte, Nat.reduceEqDiff])
              | (clear hK; refine hK _ _ ?_; clear hK; try simp only [pst0, ↓reduceIte, Nat.reduceEqDiff])
              | (clear hK; clear hK; refine hK _ _ ?_; clear hK; try simp only [pst0, ↓reduceIte, Nat.reduceEqDiff])
              | (clear hK; clear hK; clear hK; refine hK _ _ ?_; clear hK; try simp only [pst0, ↓reduceIte, Nat.reduceEqDiff])
              | (rw [if_pos]; rotate_left 1; omega; simp (maxSteps := 2000000) only [undef, am0, am1, am2, am3, amb0, amb1, amb2, amb3, amb4, lwn, drn, callee, wantedB, isW, eff, pev, pst0, retPost, resAll, resP, resV, intP, mkV, putC, pbin, sbin, strsEq, peq, pint, pshift, pstr, pun, pconv, isShift, isConstB, app, subS, lay, rowsOf, lkV, keyKind, keyEq, mfind, mput, oInt, isZeroInt, forall_const, exists_eq_left', implies_true, IntKind.bits, ↓reduceIte, Nat.reduceEqDiff, Nat.reduceAdd, Nat.reduceSub, Nat.reduceMul, Nat.reduceLT, Nat.reduceLeDiff, Nat.reduceBEq, Int.reduceLE, Int.reduceLT, Int.reduceToNat, reduceCtorEq, Ty.all, g0, g7, g8, hd, hr, w7, c1, k0, c3, c5]))
            have := good (by simp [okAt, m1, hk0])
            simpa using this
          · have hbad := bad (by simp [okAt, l1, m1])
            repeat' (first
              | (refine a_seq (fun K hK => ?_))
              | (refine a_block ?_)
              | ((first | refine a_regionS ?_ | refine a_region (fun K hK => ?_) | refine a_ret ?_); simp (maxSteps := 2000000) only [undef, am0, am1, am2, am3, amb0, amb1, amb2, amb3, amb4, lwn, drn, callee, wantedB, isW, eff, pev, pst0, retPost, resAll, resP, resV, intP, mkV, putC, pbin, sbin, strsEq, peq, pint, pshift, pstr, pun, pconv, isShift, isConstB, app, subS, lay, rowsOf, lkV, keyKind, keyEq, mfind, mput, oInt, isZeroInt, forall_const, exists_eq_left', implies_true, IntKind.bits, ↓reduceIte, Nat.reduceEqDiff, Nat.reduceAdd, Nat.reduceSub, Nat.reduceMul, Nat.reduceLT, Nat.reduceLeDiff, Nat.reduceBEq, Int.reduceLE, Int.reduceLT, Int.reduceToNat, reduceCtorEq, Ty.all, g0, g7, g8, hd, hr, w7, c1, k0, c3, c5, c6])
              | (refine a_skip ?_; try simp only [pst0, ↓reduceIte, Nat.reduceEqDiff])
              | (refine a_exit ?_; try simp only [pst0, ↓reduceIte, Nat.reduceEqDiff])
              | (refine a_cond _ (by (try simp (maxSteps := 2000000) only [undef, am0, am1, am2, am3, amb0, amb1, amb2, amb3, amb4, lwn, drn, callee, wantedB, isW, eff, pev, pst0, retPost, resAll, resP, resV, intP, mkV, putC, pbin, sbin, strsEq, peq, pint, pshift, pstr, pun, pconv, isShift, isConstB, app, subS, lay, rowsOf, lkV, keyKind, keyEq, mfind, mput, oInt, isZeroInt, forall_const, exists_eq_left', implies_true, IntKind.bits, ↓reduceIte, Nat.reduceEqDiff, Nat.reduceAdd, Nat.reduceSub, Nat.reduceMul, Nat.reduceLT, Nat.reduceLeDiff, Nat.reduceBEq, Int.reduceLE, Int.reduceLT, Int.reduceToNat, reduceCtorEq, Ty.all, g0, g7, g8, hd, hr, w7, c1, k0, c3, c5, c6]); rfl) (fun hb => ?_) (fun hb => ?_) <;> (try simp only [hb0, decide_eq_true_eq, decide_eq_false_iff_not, reduceCtorEq] at hb) <;> (try (exfalso; omega)))
              | (with_reducible refine ite_in (fun hb => ?_) (fun hb => ?_) <;> (try simp only [Decidable.not_not] at hb) <;> (try simp only [hb, if_true, if_false, not_false_eq_true, not_true_eq_false, ↓reduceIte]) <;> (try simp only [hb0, decide_eq_true_eq, decide_eq_false_iff_not, reduceCtorEq] at hb) <;> (try (exfalso; omega)))
              | (refine hK _ _ ?_; clear hK; try simp only [pst0, ↓reduceIte, Nat.reduceEqDiff])
              | (clear hK; refine hK _ _ ?_; clear hK; try simp only [pst0, ↓reduceIte, Nat.reduceEqDiff])
              | (clear hK; clear hK; refine hK _ _ ?_; clear hK; try simp only [pst0, ↓reduceIte, Nat.reduceEqDiff])
              | (clear hK; clear hK; clear hK; refine hK _ _ ?_; clear hK; try simp only [pst0, ↓reduceIte, Nat.reduceEqDiff])
              | (rw [if_pos]; rotate_left 1; omega; simp (maxSteps := 2000000) only [undef, am0, am1, am2, am3, amb0, amb1, amb2, amb3, amb4, lwn, drn, callee, wantedB, isW, eff, pev, pst0, retPost, resAll, resP, resV, intP, mkV, putC, pbin, sbin, strsEq, peq, pint, pshift, pstr, pun, pconv, isShift, isConstB, app, subS, lay, rowsOf, lkV, keyKind, keyEq, mfind, mput, oInt, isZeroInt, forall_const, exists_eq_left', implies_true, IntKind.bits, ↓reduceIte, Nat.reduceEqDiff, Nat.reduceAdd, Nat.reduceSub, Nat.reduceMul, Nat.reduceLT, Nat.reduceLeDiff, Nat.reduceBEq, Int.reduceLE, Int.reduceLT, Int.reduceToNat, reduceCtorEq, Ty.all, g0, g7, g8, hd, hr, w7, c1, k0, c3, c5, c6]))
            rw [hbad]
          · repeat' (first
              | (refine a_seq (fun K hK => ?_))
              | (refine a_block ?_)
              | ((first | refine a_regionS ?_ | refine a_region (fun K hK => ?_) | refine a_ret ?_); simp (maxSteps := 2000000) only [undef, am0, am1, am2, am3, amb0, amb1, amb2, amb3, amb4, lwn, drn, callee, wantedB, isW, eff, pev, pst0, retPost, resAll, resP, resV, intP, mkV, putC, pbin, sbin, strsEq, peq, pint, pshift, pstr, pun, pconv, isShift, isConstB, app, subS, lay, rowsOf, lkV, keyKind, keyEq, mfind, mput, oInt, isZeroInt, forall_const, exists_eq_left', implies_true, IntKind.bits, ↓reduceIte, Nat.reduceEqDiff, Nat.reduceAdd, Nat.reduceSub, Nat.reduceMul, Nat.reduceLT, Nat.reduceLeDiff, Nat.reduceBEq, Int.reduceLE, Int.reduceLT, Int.reduceToNat, reduceCtorEq, Ty.all, g0, g7, g8, hd, hr, w7, c1, k0, c3, c4])
              | (refine a_skip ?_; try simp only [pst0, ↓reduceIte, Nat.reduceEqDiff])
              | (refine a_exit ?_; try simp only [pst0, ↓reduceIte, Nat.reduceEqDiff])
              | (refine a_cond _ (by (try simp (maxSteps := 2000000) only [undef, am0, am1, am2, am3, amb0, amb1, amb2, amb3, amb4, lwn, drn, callee, wantedB, isW, eff, pev, pst0, retPost, resAll, resP, resV, intP, mkV, putC, pbin, sbin, strsEq, peq, pint, pshift, pstr, pun, pconv, isShift, isConstB, app, subS, lay, rowsOf, lkV, keyKind, keyEq, mfind, mput, oInt, isZeroInt, forall_const, exists_eq_left', implies_true, IntKind.bits, ↓reduceIte, Nat.reduceEqDiff, Nat.reduceAdd, Nat.reduceSub, Nat.reduceMul, Nat.reduceLT, Nat.reduceLeDiff, Nat.reduceBEq, Int.reduceLE, Int.reduceLT, Int.reduceToNat, reduceCtorEq, Ty.all, g0, g7, g8, hd, hr, w7, c1, k0, c3, c4]); rfl) (fun hb => ?_) (fun hb => ?_) <;> (try simp only [hb0, decide_eq_true_eq, decide_eq_false_iff_not, reduceCtorEq] at hb) <;> (try (exfalso; omega)))
              | (with_reducible refine ite_in (fun hb => ?_) (fun hb => ?_) <;> (try simp only [Decidable.not_not] at hb) <;> (try simp only [hb, if_true, if_false, not_false_eq_true, not_true_eq_false, ↓reduceIte]) <;> (try simp only [hb0, decide_eq_true_eq, decide_eq_false_iff_not, reduceCtorEq] at hb) <;> (try (exfalso; omega)))
              | (refine hK _ _ ?_; clear hK; try simp only [pst0, ↓reduceIte, Nat.reduceEqDiff])
              | (clear hK; refine hK _ _ ?_; clear hK; try simp only [pst0, ↓reduceIte, Nat.reduceEqDiff])
              | (clear hK; clear hK; refine hK _ _ ?_; clear hK; try simp only [pst0, ↓reduceIte, Nat.reduceEqDiff])
              | (clear hK; clear hK; clear hK; refine hK _ _ ?_; clear hK; try simp only [pst0, ↓reduceIte, Nat.reduceEqDiff])
              | (rw [if_pos]; rotate_left 1; omega; simp (maxSteps := 2000000) only [undef, am0, am1, am2, am3, amb0, amb1, amb2, amb3, amb4, lwn, drn, callee, wantedB, isW, eff, pev, pst0, retPost, resAll, resP, resV, intP, mkV, putC, pbin, sbin, strsEq, peq, pint, pshift, pstr, pun, pconv, isShift, isConstB, app, subS, lay, rowsOf, lkV, keyKind, keyEq, mfind, mput, oInt, isZeroInt, forall_const, exists_eq_left', implies_true, IntKind.bits, ↓reduceIte, Nat.reduceEqDiff, Nat.reduceAdd, Nat.reduceSub, Nat.reduceMul, Nat.reduceLT, Nat.reduceLeDiff, Nat.reduceBEq, Int.reduceLE, Int.reduceLT, Int.reduceToNat, reduceCtorEq, Ty.all, g0, g7, g8, hd, hr, w7, c1, k0, c3, c4]))
            have := good (by simp [okAt, m1, hk0])
            simpa using this
          · repeat' (first
              | (refine a_seq (fun K hK => ?_))
              | (refine a_block ?_)
              | ((first | refine a_regionS ?_ | refine a_region (fun K hK => ?_) | refine a_ret ?_); simp (maxSteps := 2000000) only [undef, am0, am1, am2, am3, amb0, amb1, amb2, amb3, amb4, lwn, drn, callee, wantedB, isW, eff, pev, pst0, retPost, resAll, resP, resV, intP, mkV, putC, pbin, sbin, strsEq, peq, pint, pshift, pstr, pun, pconv, isShift, isConstB, app, subS, lay, rowsOf, lkV, keyKind, keyEq, mfind, mput, oInt, isZeroInt, forall_const, exists_eq_left', implies_true, IntKind.bits, ↓reduceIte, Nat.reduceEqDiff, Nat.reduceAdd, Nat.reduceSub, Nat.reduceMul, Nat.reduceLT, Nat.reduceLeDiff, Nat.reduceBEq, Int.reduceLE, Int.reduceLT, Int.reduceToNat, reduceCtorEq, Ty.all, g0, g7, g8, hd, hr, w7, c1, k0, c3, c4, c5, c6])
              | (refine a_skip ?_; try simp only [pst0, ↓reduceIte, Nat.reduceEqDiff])
              | (refine a_exit ?_; try simp only [pst0, ↓reduceIte, Nat.reduceEqDiff])
              | (refine a_cond _ (by (try simp (maxSteps := 2000000) only [undef, am0, am1, am2, am3, amb0, amb1, amb2, amb3, amb4, lwn, drn, callee, wantedB, isW, eff, pev, pst0, retPost, resAll, resP, resV, intP, mkV, putC, pbin, sbin, strsEq, peq, pint, pshift, pstr, pun, pconv, isShift, isConstB, app, subS, lay, rowsOf, lkV, keyKind, keyEq, mfind, mput, oInt, isZeroInt, forall_const, exists_eq_left', implies_true, IntKind.bits, ↓reduceIte, Nat.reduceEqDiff, Nat.reduceAdd, Nat.reduceSub, Nat.reduceMul, Nat.reduceLT, Nat.reduceLeDiff, Nat.reduceBEq, Int.reduceLE, Int.reduceLT, Int.reduceToNat, reduceCtorEq, Ty.all, g0, g7, g8, hd, hr, w7, c1, k0, c3, c4, c5, c6]); rfl) (fun hb => ?_) (fun hb => ?_) <;> (try simp only [hb0, decide_eq_true_eq, decide_eq_false_iff_not, reduceCtorEq] at hb) <;> (try (exfalso; omega)))
              | (with_reducible refine ite_in (fun hb => ?_) (fun hb => ?_) <;> (try simp only [Decidable.not_not] at hb) <;> (try simp only [hb, if_true, if_false, not_false_eq_true, not_true_eq_false, ↓reduceIte]) <;> (try simp only [hb0, decide_eq_true_eq, decide_eq_false_iff_not, reduceCtorEq] at hb) <;> (try (exfalso; omega)))
              | (refine hK _ _ ?_; clear hK; try simp only [pst0, ↓reduceIte, Nat.reduceEqDiff])
              | (clear hK; refine hK _ _ ?_; clear hK; try simp only [pst0, ↓reduceIte, Nat.reduceEqDiff])
              | (clear hK; clear hK; refine hK _ _ ?_; clear hK; try simp only [pst0, ↓reduceIte, Nat.reduceEqDiff])
              | (clear hK; clear hK; clear hK; refine hK _ _ ?_; clear hK; try simp only [pst0, ↓reduceIte, Nat.reduceEqDiff])
              | (rw [if_pos]; rotate_left 1; omega; simp (maxSteps := 2000000) only [undef, am0, am1, am2, am3, amb0, amb1, amb2, amb3, amb4, lwn, drn, callee, wantedB, isW, eff, pev, pst0, retPost, resAll, resP, resV, intP, mkV, putC, pbin, sbin, strsEq, peq, pint, pshift, pstr, pun, pconv, isShift, isConstB, app, subS, lay, rowsOf, lkV, keyKind, keyEq, mfind, mput, oInt, isZeroInt, forall_const, exists_eq_left', implies_true, IntKind.bits, ↓reduceIte, Nat.reduceEqDiff, Nat.reduceAdd, Nat.reduceSub, Nat.reduceMul, Nat.reduceLT, Nat.reduceLeDiff, Nat.reduceBEq, Int.reduceLE, Int.reduceLT, Int.reduceToNat, reduceCtorEq, Ty.all, g0, g7, g8, hd, hr, w7, c1, k0, c3, c4, c5, c6]))
            have := good (by simp [okAt, m1, hk0])
            simpa using this
          · have hbad := bad (by simp [okAt, l1, m1])
            repeat' (first
              | (refine a_seq (fun K hK => ?_))
              | (refine a_block ?_)
              | ((first | refine a_regionS ?_ | refine a_region (fun K hK => ?_) | refine a_ret ?_); simp (maxSteps := 2000000) only [undef, am0, am1, am2, am3, amb0, amb1, amb2, amb3, amb4, lwn, drn, callee, wantedB, isW, eff, pev, pst0, retPost, resAll, resP, resV, intP, mkV, putC, pbin, sbin, strsEq, peq, pint, pshift, pstr, pun, pconv, isShift, isConstB, app, subS, lay, rowsOf, lkV, keyKind, keyEq, mfind, mput, oInt, isZeroInt, forall_const, exists_eq_left', implies_true, IntKind.bits, ↓reduceIte, Nat.reduceEqDiff, Nat.reduceAdd, Nat.reduceSub, Nat.reduceMul, Nat.reduceLT, Nat.reduceLeDiff, Nat.reduceBEq, Int.reduceLE, Int.reduceLT, Int.reduceToNat, reduceCtorEq, Ty.all, g0, g7, g8, hd, hr, w7, c1, k0, c3, c4, c5, c6])
              | (refine a_skip ?_; try simp only [pst0, ↓reduceIte, Nat.reduceEqDiff])
              | (refine a_exit ?_; try simp only [pst0, ↓reduceIte, Nat.reduceEqDiff])
              | (refine a_cond _ (by (try simp (maxSteps := 2000000) only [undef, am0, am1, am2, am3, amb0, amb1, amb2, amb3, amb4, lwn, drn, callee, wantedB, isW, eff, pev, pst0, retPost, resAll, resP, resV, intP, mkV, putC, pbin, sbin, strsEq, peq, pint, pshift, pstr, pun, pconv, isShift, isConstB, app, subS, lay, rowsOf, lkV, keyKind, keyEq, mfind, mput, oInt, isZeroInt, forall_const, exists_eq_left', implies_true, IntKind.bits, ↓reduceIte, Nat.reduceEqDiff, Nat.reduceAdd, Nat.reduceSub, Nat.reduceMul, Nat.reduceLT, Nat.reduceLeDiff, Nat.reduceBEq, Int.reduceLE, Int.reduceLT, Int.reduceToNat, reduceCtorEq, Ty.all, g0, g7, g8, hd, hr, w7, c1, k0, c3, c4, c5, c6]); rfl) (fun hb => ?_) (fun hb => ?_) <;> (try simp only [hb0, decide_eq_true_eq, decide_eq_false_iff_not, reduceCtorEq] at hb) <;> (try (exfalso; omega)))
              | (with_reducible refine ite_in (fun hb => ?_) (fun hb => ?_) <;> (try simp only [Decidable.not_not] at hb) <;> (try simp only [hb, if_true, if_false, not_false_eq_true, not_true_eq_false, ↓reduceIte]) <;> (try simp only [hb0, decide_eq_true_eq, decide_eq_false_iff_not, reduceCtorEq] at hb) <;> (try (exfalso; omega)))
              | (refine hK _ _ ?_; clear hK; try simp only [pst0, ↓reduceIte, Nat.reduceEqDiff])
              | (clear hK; refine hK _ _ ?_; clear hK; try simp only [pst0, ↓reduceIte, Nat.reduceEqDiff])
              | (clear hK; clear hK; refine hK _ _ ?_; clear hK; try simp only [pst0, ↓reduceIte, Nat.reduceEqDiff])
              | (clear hK; clear hK; clear hK; refine hK _ _ ?_; clear hK; try simp only [pst0, ↓reduceIte, Nat.reduceEqDiff])
              | (rw [if_pos]; rotate_left 1; omega; simp (maxSteps := 2000000) only [undef, am0, am1, am2, am3, amb0, amb1, amb2, amb3, amb4, lwn, drn, callee, wantedB, isW, eff, pev, pst0, retPost, resAll, resP, resV, intP, mkV, putC, pbin, sbin, strsEq, peq, pint, pshift, pstr, pun, pconv, isShift, isConstB, app, subS, lay, rowsOf, lkV, keyKind, keyEq, mfind, mput, oInt, isZeroInt, forall_const, exists_eq_left', implies_true, IntKind.bits, ↓reduceIte, Nat.reduceEqDiff, Nat.reduceAdd, Nat.reduceSub, Nat.reduceMul, Nat.reduceLT, Nat.reduceLeDiff, Nat.reduceBEq, Int.reduceLE, Int.reduceLT, Int.reduceToNat, reduceCtorEq, Ty.all, g0, g7, g8, hd, hr, w7, c1, k0, c3, c4, c5, c6]))
            rw [hbad]
      · have hbad := bad (by simp [okAt, l1, m1])
        cases k0 : ((k : Int) == 0) with
        | true =>
          repeat' (first
            | (refine a_seq (fun K hK => ?_))
            | (refine a_block ?_)
            | ((first | refine a_regionS ?_ | refine a_region (fun K hK => ?_) | refine a_ret ?_); simp (maxSteps := 2000000) only [undef, am0, am1, am2, am3, amb0, amb1, amb2, amb3, amb4, lwn, drn, callee, wantedB, isW, eff, pev, pst0, retPost, resAll, resP, resV, intP, mkV, putC, pbin, sbin, strsEq, peq, pint, pshift, pstr, pun, pconv, isShift, isConstB, app, subS, lay, rowsOf, lkV, keyKind, keyEq, mfind, mput, oInt, isZeroInt, forall_const, exists_eq_left', implies_true, IntKind.bits, ↓reduceIte, Nat.reduceEqDiff, Nat.reduceAdd, Nat.reduceSub, Nat.reduceMul, Nat.reduceLT, Nat.reduceLeDiff, Nat.reduceBEq, Int.reduceLE, Int.reduceLT, Int.reduceToNat, reduceCtorEq, Ty.all, g0, g7, g8, hd, hr, w7, c1, c2, k0])
            | (refine a_skip ?_; try simp only [pst0, ↓reduceIte, Nat.reduceEqDiff])
            | (refine a_exit ?_; try simp only [pst0, ↓reduceIte, Nat.reduceEqDiff])
            | (refine a_cond _ (by (try simp (maxSteps := 2000000) only [undef, am0, am1, am2, am3, amb0, amb1, amb2, amb3, amb4, lwn, drn, callee, wantedB, isW, eff, pev, pst0, retPost, resAll, resP, resV, intP, mkV, putC, pbin, sbin, strsEq, peq, pint, pshift, pstr, pun, pconv, isShift, isConstB, app, subS, lay, rowsOf, lkV, keyKind, keyEq, mfind, mput, oInt, isZeroInt, forall_const, exists_eq_left', implies_true, IntKind.bits, ↓reduceIte, Nat.reduceEqDiff, Nat.reduceAdd, Nat.reduceSub, Nat.reduceMul, Nat.reduceLT, Nat.reduceLeDiff, Nat.reduceBEq, Int.reduceLE, Int.reduceLT, Int.reduceToNat, reduceCtorEq, Ty.all, g0, g7, g8, hd, hr, w7, c1, c2, k0]); rfl) (fun hb => ?_) (fun hb => ?_) <;> (try simp only [hb0, decide_eq_true_eq, decide_eq_false_iff_not, reduceCtorEq] at hb) <;> (try (exfalso; omega)))
            | (with_reducible refine ite_in (fun hb => ?_) (fun hb => ?_) <;> (try simp only [Decidable.not_not] at hb) <;> (try simp only [hb, if_true, if_false, not_false_eq_true, not_true_eq_false, ↓reduceIte]) <;> (try simp only [hb0, decide_eq_true_eq, decide_eq_false_iff_not, reduceCtorEq] at hb) <;> (try (exfalso; omega)))
            | (refine hK _ _ ?_; clear hK; try simp only [pst0, ↓reduceIte, Nat.reduceEqDiff])
            | (clear hK; refine hK _ _ ?_; clear hK; try simp only [pst0, ↓reduceIte, Nat.reduceEqDiff])
            | (clear hK; clear hK; refine hK _ _ ?_; clear hK; try simp only [pst0, ↓reduceIte, Nat.reduceEqDiff])
            | (clear hK; clear hK; clear hK; refine hK _ _ ?_; clear hK; try simp only [pst0, ↓reduceIte, Nat.reduceEqDiff])
            | (rw [if_pos]; rotate_left 1; omega; simp (maxSteps := 2000000) only [undef, am0, am1, am2, am3, amb0, amb1, amb2, amb3, amb4, lwn, drn, callee, wantedB, isW, eff, pev, pst0, retPost, resAll, resP, resV, intP, mkV, putC, pbin, sbin, strsEq, peq, pint, pshift, pstr, pun, pconv, isShift, isConstB, app, subS, lay, rowsOf, lkV, keyKind, keyEq, mfind, mput, oInt, isZeroInt, forall_const, exists_eq_left', implies_true, IntKind.bits, ↓reduceIte, Nat.reduceEqDiff, Nat.reduceAdd, Nat.reduceSub, Nat.reduceMul, Nat.reduceLT, Nat.reduceLeDiff, Nat.reduceBEq, Int.reduceLE, Int.reduceLT, Int.reduceToNat, reduceCtorEq, Ty.all, g0, g7, g8, hd, hr, w7, c1, c2, k0]))
          rw [hbad]
        | false =>
          repeat' (first
            | (refine a_seq (fun K hK => ?_))
            | (refine a_block ?_)
            | ((first | refine a_regionS ?_ | refine a_region (fun K hK => ?_) | refine a_ret ?_); simp (maxSteps := 2000000) only [undef, am0, am1, am2, am3, amb0, amb1, amb2, amb3, amb4, lwn, drn, callee, wantedB, isW, eff, pev, pst0, retPost, resAll, resP, resV, intP, mkV, putC, pbin, sbin, strsEq, peq, pint, pshift, pstr, pun, pconv, isShift, isConstB, app, subS, lay, rowsOf, lkV, keyKind, keyEq, mfind, mput, oInt, isZeroInt, forall_const, exists_eq_left', implies_true, IntKind.bits, ↓reduceIte, Nat.reduceEqDiff, Nat.reduceAdd, Nat.reduceSub, Nat.reduceMul, Nat.reduceLT, Nat.reduceLeDiff, Nat.reduceBEq, Int.reduceLE, Int.reduceLT, Int.reduceToNat, reduceCtorEq, Ty.all, g0, g7, g8, hd, hr, w7, c1, c2, k0, c3, c4, c5, c6])
            | (refine a_skip ?_; try simp only [pst0, ↓reduceIte, Nat.reduceEqDiff])
            | (refine a_exit ?_; try simp only [pst0, ↓reduceIte, Nat.reduceEqDiff])
            | (refine a_cond _ (by (try simp (maxSteps := 2000000) only [undef, am0, am1, am2, am3, amb0, amb1, amb2, amb3, amb4, lwn, drn, callee, wantedB, isW, eff, pev, pst0, retPost, resAll, resP, resV, intP, mkV, putC, pbin, sbin, strsEq, peq, pint, pshift, pstr, pun, pconv, isShift, isConstB, app, subS, lay, rowsOf, lkV, keyKind, keyEq, mfind, mput, oInt, isZeroInt, forall_const, exists_eq_left', implies_true, IntKind.bits, ↓reduceIte, Nat.reduceEqDiff, Nat.reduceAdd, Nat.reduceSub, Nat.reduceMul, Nat.reduceLT, Nat.reduceLeDiff, Nat.reduceBEq, Int.reduceLE, Int.reduceLT, Int.reduceToNat, reduceCtorEq, Ty.all, g0, g7, g8, hd, hr, w7, c1, c2, k0, c3, c4, c5, c6]); rfl) (fun hb => ?_) (fun hb => ?_) <;> (try simp only [hb0, decide_eq_true_eq, decide_eq_false_iff_not, reduceCtorEq] at hb) <;> (try (exfalso; omega)))
            | (with_reducible refine ite_in (fun hb => ?_) (fun hb => ?_) <;> (try simp only [Decidable.not_not] at hb) <;> (try simp only [hb, if_true, if_false, not_false_eq_true, not_true_eq_false, ↓reduceIte]) <;> (try simp only [hb0, decide_eq_true_eq, decide_eq_false_iff_not, reduceCtorEq] at hb) <;> (try (exfalso; omega)))
            | (refine hK _ _ ?_; clear hK; try simp only [pst0, ↓reduceIte, Nat.reduceEqDiff])
            | (clear hK; refine hK _ _ ?_; clear hK; try simp only [pst0, ↓reduceIte, Nat.reduceEqDiff])
            | (clear hK; clear hK; refine hK _ _ ?_; clear hK; try simp only [pst0, ↓reduceIte, Nat.reduceEqDiff])
            | (clear hK; clear hK; clear hK; refine hK _ _ ?_; clear hK; try simp only [pst0, ↓reduceIte, Nat.reduceEqDiff])
            | (rw [if_pos]; rotate_left 1; omega; simp (maxSteps := 2000000) only [undef, am0, am1, am2, am3, amb0, amb1, amb2, amb3, amb4, lwn, drn, callee, wantedB, isW, eff, pev, pst0, retPost, resAll, resP, resV, intP, mkV, putC, pbin, sbin, strsEq, peq, pint, pshift, pstr, pun, pconv, isShift, isConstB, app, subS, lay, rowsOf, lkV, keyKind, keyEq, mfind, mput, oInt, isZeroInt, forall_const, exists_eq_left', implies_true, IntKind.bits, ↓reduceIte, Nat.reduceEqDiff, Nat.reduceAdd, Nat.reduceSub, Nat.reduceMul, Nat.reduceLT, Nat.reduceLeDiff, Nat.reduceBEq, Int.reduceLE, Int.reduceLT, Int.reduceToNat, reduceCtorEq, Ty.all, g0, g7, g8, hd, hr, w7, c1, c2, k0, c3, c4, c5, c6]))
          rw [hbad]
    · have hd : decide ((k : Int) < (s.size : Int)) = false := by simp; omega
      have hok : bytesOkB s.data.toList = true := bytesOk_true fun j c hj => hall j c (by have := (List.getElem?_eq_some_iff.1 hj).1; omega) hj
      clear hall
      have hn : nameB s = (!(s.data.toList == (#[] : Array UInt8).toList) && decide ((s.size : Int) ≤ 32) && !(words.any fun w => bEq s w)) := by
        have e1 : decide (0 < s.size) = !(s.data.toList == (#[] : Array UInt8).toList) := by
          rw [← hsl]
          cases s.data.toList <;> simp
        have e2 : decide ((s.size : Int) ≤ 32) = decide (s.size ≤ 32) := by
          exact decide_eq_decide.2 (by omega)
        simp only [nameB, hok, Bool.true_and, e1, e2]
      cases b1 : (s.data.toList == (#[] : Array UInt8).toList) with
      | true =>
        repeat' (first
          | (refine a_seq (fun K hK => ?_))
          | (refine a_block ?_)
          | ((first | refine a_regionS ?_ | refine a_region (fun K hK => ?_) | refine a_ret ?_); simp (maxSteps := 2000000) only [undef, am0, am1, am2, am3, amb0, amb1, amb2, amb3, amb4, lwn, drn, callee, wantedB, isW, eff, pev, pst0, retPost, resAll, resP, resV, intP, mkV, putC, pbin, sbin, strsEq, peq, pint, pshift, pstr, pun, pconv, isShift, isConstB, app, subS, lay, rowsOf, lkV, keyKind, keyEq, mfind, mput, oInt, isZeroInt, forall_const, exists_eq_left', implies_true, IntKind.bits, ↓reduceIte, Nat.reduceEqDiff, Nat.reduceAdd, Nat.reduceSub, Nat.reduceMul, Nat.reduceLT, Nat.reduceLeDiff, Nat.reduceBEq, Int.reduceLE, Int.reduceLT, Int.reduceToNat, reduceCtorEq, Ty.all, g0, g7, g8, hd, b1])
          | (refine a_skip ?_; try simp only [pst0, ↓reduceIte, Nat.reduceEqDiff])
          | (refine a_exit ?_; try simp only [pst0, ↓reduceIte, Nat.reduceEqDiff])
          | (refine a_cond _ (by (try simp (maxSteps := 2000000) only [undef, am0, am1, am2, am3, amb0, amb1, amb2, amb3, amb4, lwn, drn, callee, wantedB, isW, eff, pev, pst0, retPost, resAll, resP, resV, intP, mkV, putC, pbin, sbin, strsEq, peq, pint, pshift, pstr, pun, pconv, isShift, isConstB, app, subS, lay, rowsOf, lkV, keyKind, keyEq, mfind, mput, oInt, isZeroInt, forall_const, exists_eq_left', implies_true, IntKind.bits, ↓reduceIte, Nat.reduceEqDiff, Nat.reduceAdd, Nat.reduceSub, Nat.reduceMul, Nat.reduceLT, Nat.reduceLeDiff, Nat.reduceBEq, Int.reduceLE, Int.reduceLT, Int.reduceToNat, reduceCtorEq, Ty.all, g0, g7, g8, hd, b1]); rfl) (fun hb => ?_) (fun hb => ?_) <;> (try simp only [hb0, decide_eq_true_eq, decide_eq_false_iff_not, reduceCtorEq] at hb) <;> (try (exfalso; omega)))
          | (with_reducible refine ite_in (fun hb => ?_) (fun hb => ?_) <;> (try simp only [Decidable.not_not] at hb) <;> (try simp only [hb, if_true, if_false, not_false_eq_true, not_true_eq_false, ↓reduceIte]) <;> (try simp only [hb0, decide_eq_true_eq, decide_eq_false_iff_not, reduceCtorEq] at hb) <;> (try (exfalso; omega)))
          | (refine hK _ _ ?_; clear hK; try simp only [pst0, ↓reduceIte, Nat.reduceEqDiff])
          | (clear hK; refine hK _ _ ?_; clear hK; try simp only [pst0, ↓reduceIte, Nat.reduceEqDiff])
          | (clear hK; clear hK; refine hK _ _ ?_; clear hK; try simp only [pst0, ↓reduceIte, Nat.reduceEqDiff])
          | (clear hK; clear hK; clear hK; refine hK _ _ ?_; clear hK; try simp only [pst0, ↓reduceIte, Nat.reduceEqDiff])
          | (rw [if_pos]; rotate_left 1; omega; simp (maxSteps := 2000000) only [undef, am0, am1, am2, am3, amb0, amb1, amb2, amb3, amb4, lwn, drn, callee, wantedB, isW, eff, pev, pst0, retPost, resAll, resP, resV, intP, mkV, putC, pbin, sbin, strsEq, peq, pint, pshift, pstr, pun, pconv, isShift, isConstB, app, subS, lay, rowsOf, lkV, keyKind, keyEq, mfind, mput, oInt, isZeroInt, forall_const, exists_eq_left', implies_true, IntKind.bits, ↓reduceIte, Nat.reduceEqDiff, Nat.reduceAdd, Nat.reduceSub, Nat.reduceMul, Nat.reduceLT, Nat.reduceLeDiff, Nat.reduceBEq, Int.reduceLE, Int.reduceLT, Int.reduceToNat, reduceCtorEq, Ty.all, g0, g7, g8, hd, b1]))
        rw [hn, b1]; rfl
      | false =>
        cases b2 : decide ((s.size : Int) ≤ 32) with
        | false =>
          repeat' (first
            | (refine a_seq (fun K hK => ?_))
            | (refine a_block ?_)
            | ((first | refine a_regionS ?_ | refine a_region (fun K hK => ?_) | refine a_ret ?_); simp (maxSteps := 2000000) only [undef, am0, am1, am2, am3, amb0, amb1, amb2, amb3, amb4, lwn, drn, callee, wantedB, isW, eff, pev, pst0, retPost, resAll, resP, resV, intP, mkV, putC, pbin, sbin, strsEq, peq, pint, pshift, pstr, pun, pconv, isShift, isConstB, app, subS, lay, rowsOf, lkV, keyKind, keyEq, mfind, mput, oInt, isZeroInt, forall_const, exists_eq_left', implies_true, IntKind.bits, ↓reduceIte, Nat.reduceEqDiff, Nat.reduceAdd, Nat.reduceSub, Nat.reduceMul, Nat.reduceLT, Nat.reduceLeDiff, Nat.reduceBEq, Int.reduceLE, Int.reduceLT, Int.reduceToNat, reduceCtorEq, Ty.all, g0, g7, g8, hd, b1, b2])
            | (refine a_skip ?_; try simp only [pst0, ↓reduceIte, Nat.reduceEqDiff])
            | (refine a_exit ?_; try simp only [pst0, ↓reduceIte, Nat.reduceEqDiff])
            | (refine a_cond _ (by (try simp (maxSteps := 2000000) only [undef, am0, am1, am2, am3, amb0, amb1, amb2, amb3, amb4, lwn, drn, callee, wantedB, isW, eff, pev, pst0, retPost, resAll, resP, resV, intP, mkV, putC, pbin, sbin, strsEq, peq, pint, pshift, pstr, pun, pconv, isShift, isConstB, app, subS, lay, rowsOf, lkV, keyKind, keyEq, mfind, mput, oInt, isZeroInt, forall_const, exists_eq_left', implies_true, IntKind.bits, ↓reduceIte, Nat.reduceEqDiff, Nat.reduceAdd, Nat.reduceSub, Nat.reduceMul, Nat.reduceLT, Nat.reduceLeDiff, Nat.reduceBEq, Int.reduceLE, Int.reduceLT, Int.reduceToNat, reduceCtorEq, Ty.all, g0, g7, g8, hd, b1, b2]); rfl) (fun hb => ?_) (fun hb => ?_) <;> (try simp only [hb0, decide_eq_true_eq, decide_eq_false_iff_not, reduceCtorEq] at hb) <;> (try (exfalso; omega)))
            | (with_reducible refine ite_in (fun hb => ?_) (fun hb => ?_) <;> (try simp only [Decidable.not_not] at hb) <;> (try simp only [hb, if_true, if_false, not_false_eq_true, not_true_eq_false, ↓reduceIte]) <;> (try simp only [hb0, decide_eq_true_eq, decide_eq_false_iff_not, reduceCtorEq] at hb) <;> (try (exfalso; omega)))
            | (refine hK _ _ ?_; clear hK; try simp only [pst0, ↓reduceIte, Nat.reduceEqDiff])
            | (clear hK; refine hK _ _ ?_; clear hK; try simp only [pst0, ↓reduceIte, Nat.reduceEqDiff])
            | (clear hK; clear hK; refine hK _ _ ?_; clear hK; try simp only [pst0, ↓reduceIte, Nat.reduceEqDiff])
            | (clear hK; clear hK; clear hK; refine hK _ _ ?_; clear hK; try simp only [pst0, ↓reduceIte, Nat.reduceEqDiff])
            | (rw [if_pos]; rotate_left 1; omega; simp (maxSteps := 2000000) only [undef, am0, am1, am2, am3, amb0, amb1, amb2, amb3, amb4, lwn, drn, callee, wantedB, isW, eff, pev, pst0, retPost, resAll, resP, resV, intP, mkV, putC, pbin, sbin, strsEq, peq, pint, pshift, pstr, pun, pconv, isShift, isConstB, app, subS, lay, rowsOf, lkV, keyKind, keyEq, mfind, mput, oInt, isZeroInt, forall_const, exists_eq_left', implies_true, IntKind.bits, ↓reduceIte, Nat.reduceEqDiff, Nat.reduceAdd, Nat.reduceSub, Nat.reduceMul, Nat.reduceLT, Nat.reduceLeDiff, Nat.reduceBEq, Int.reduceLE, Int.reduceLT, Int.reduceToNat, reduceCtorEq, Ty.all, g0, g7, g8, hd, b1, b2]))
          rw [hn, b1, b2]; rfl
        | true =>
          repeat' (first
            | (refine a_seq (fun K hK => ?_))
            | (refine a_block ?_)
            | ((first | refine a_regionS ?_ | refine a_region (fun K hK => ?_) | refine a_ret ?_); simp (maxSteps := 2000000) only [undef, am0, am1, am2, am3, amb0, amb1, amb2, amb3, amb4, lwn, drn, callee, wantedB, isW, eff, pev, pst0, retPost, resAll, resP, resV, intP, mkV, putC, pbin, sbin, strsEq, peq, pint, pshift, pstr, pun, pconv, isShift, isConstB, app, subS, lay, rowsOf, lkV, keyKind, keyEq, mfind, mput, oInt, isZeroInt, forall_const, exists_eq_left', implies_true, IntKind.bits, ↓reduceIte, Nat.reduceEqDiff, Nat.reduceAdd, Nat.reduceSub, Nat.reduceMul, Nat.reduceLT, Nat.reduceLeDiff, Nat.reduceBEq, Int.reduceLE, Int.reduceLT, Int.reduceToNat, reduceCtorEq, Ty.all, g0, g7, g8, hd, b1, b2])
            | (refine a_skip ?_; try simp only [pst0, ↓reduceIte, Nat.reduceEqDiff])
            | (refine a_exit ?_; try simp only [pst0, ↓reduceIte, Nat.reduceEqDiff])
            | (refine a_cond _ (by (try simp (maxSteps := 2000000) only [undef, am0, am1, am2, am3, amb0, amb1, amb2, amb3, amb4, lwn, drn, callee, wantedB, isW, eff, pev, pst0, retPost, resAll, resP, resV, intP, mkV, putC, pbin, sbin, strsEq, peq, pint, pshift, pstr, pun, pconv, isShift, isConstB, app, subS, lay, rowsOf, lkV, keyKind, keyEq, mfind, mput, oInt, isZeroInt, forall_const, exists_eq_left', implies_true, IntKind.bits, ↓reduceIte, Nat.reduceEqDiff, Nat.reduceAdd, Nat.reduceSub, Nat.reduceMul, Nat.reduceLT, Nat.reduceLeDiff, Nat.reduceBEq, Int.reduceLE, Int.reduceLT, Int.reduceToNat, reduceCtorEq, Ty.all, g0, g7, g8, hd, b1, b2]); rfl) (fun hb => ?_) (fun hb => ?_) <;> (try simp only [hb0, decide_eq_true_eq, decide_eq_false_iff_not, reduceCtorEq] at hb) <;> (try (exfalso; omega)))
            | (with_reducible refine ite_in (fun hb => ?_) (fun hb => ?_) <;> (try simp only [Decidable.not_not] at hb) <;> (try simp only [hb, if_true, if_false, not_false_eq_true, not_true_eq_false, ↓reduceIte]) <;> (try simp only [hb0, decide_eq_true_eq, decide_eq_false_iff_not, reduceCtorEq] at hb) <;> (try (exfalso; omega)))
            | (refine hK _ _ ?_; clear hK; try simp only [pst0, ↓reduceIte, Nat.reduceEqDiff])
            | (clear hK; refine hK _ _ ?_; clear hK; try simp only [pst0, ↓reduceIte, Nat.reduceEqDiff])
            | (clear hK; clear hK; refine hK _ _ ?_; clear hK; try simp only [pst0, ↓reduceIte, Nat.reduceEqDiff])
            | (clear hK; clear hK; clear hK; refine hK _ _ ?_; clear hK; try simp only [pst0, ↓reduceIte, Nat.reduceEqDiff])
            | (rw [if_pos]; rotate_left 1; omega; simp (maxSteps := 2000000) only [undef, am0, am1, am2, am3, amb0, amb1, amb2, amb3, amb4, lwn, drn, callee, wantedB, isW, eff, pev, pst0, retPost, resAll, resP, resV, intP, mkV, putC, pbin, sbin, strsEq, peq, pint, pshift, pstr, pun, pconv, isShift, isConstB, app, subS, lay, rowsOf, lkV, keyKind, keyEq, mfind, mput, oInt, isZeroInt, forall_const, exists_eq_left', implies_true, IntKind.bits, ↓reduceIte, Nat.reduceEqDiff, Nat.reduceAdd, Nat.reduceSub, Nat.reduceMul, Nat.reduceLT, Nat.reduceLeDiff, Nat.reduceBEq, Int.reduceLE, Int.reduceLT, Int.reduceToNat, reduceCtorEq, Ty.all, g0, g7, g8, hd, b1, b2]))
          have hwl : words.length ≤ 9223372036854775807 := by rw [words_len]; omega
          refine owp_useQ (reserved_c) (by (try simp only [undef, am0, am1, am2, am3, amb0, amb1, amb2, amb3, amb4, lwn, drn, callee, wantedB, isW, eff, pev, pst0, retPost, resAll, resP, resV, intP, mkV, putC, pbin, sbin, strsEq, peq, pint, pshift, pstr, pun, pconv, isShift, isConstB, app, subS, lay, rowsOf, lkV, keyKind, keyEq, mfind, mput, oInt, isZeroInt, forall_const, exists_eq_left', implies_true, IntKind.bits, ↓reduceIte, Nat.reduceEqDiff, Nat.reduceAdd, Nat.reduceSub, Nat.reduceMul, Nat.reduceLT, Nat.reduceLeDiff, Nat.reduceBEq, Int.reduceLE, Int.reduceLT, Int.reduceToNat, reduceCtorEq, ]); try rfl) ?_
          simp (maxSteps := 2000000) only [undef, am0, am1, am2, am3, amb0, amb1, amb2, amb3, amb4, lwn, drn, callee, wantedB, isW, eff, pev, pst0, retPost, resAll, resP, resV, intP, mkV, putC, pbin, sbin, strsEq, peq, pint, pshift, pstr, pun, pconv, isShift, isConstB, app, subS, lay, rowsOf, lkV, keyKind, keyEq, mfind, mput, oInt, isZeroInt, forall_const, exists_eq_left', implies_true, IntKind.bits, ↓reduceIte, Nat.reduceEqDiff, Nat.reduceAdd, Nat.reduceSub, Nat.reduceMul, Nat.reduceLT, Nat.reduceLeDiff, Nat.reduceBEq, Int.reduceLE, Int.reduceLT, Int.reduceToNat, reduceCtorEq, Ty.all, ]
          refine owp_useQ (contains_c (l := words) (s := s) hwl) (by (try simp only [undef, am0, am1, am2, am3, amb0, amb1, amb2, amb3, amb4, lwn, drn, callee, wantedB, isW, eff, pev, pst0, retPost, resAll, resP, resV, intP, mkV, putC, pbin, sbin, strsEq, peq, pint, pshift, pstr, pun, pconv, isShift, isConstB, app, subS, lay, rowsOf, lkV, keyKind, keyEq, mfind, mput, oInt, isZeroInt, forall_const, exists_eq_left', implies_true, IntKind.bits, ↓reduceIte, Nat.reduceEqDiff, Nat.reduceAdd, Nat.reduceSub, Nat.reduceMul, Nat.reduceLT, Nat.reduceLeDiff, Nat.reduceBEq, Int.reduceLE, Int.reduceLT, Int.reduceToNat, reduceCtorEq, b1, b2, g0]); try rfl) ?_
          simp (maxSteps := 2000000) only [undef, am0, am1, am2, am3, amb0, amb1, amb2, amb3, amb4, lwn, drn, callee, wantedB, isW, eff, pev, pst0, retPost, resAll, resP, resV, intP, mkV, putC, pbin, sbin, strsEq, peq, pint, pshift, pstr, pun, pconv, isShift, isConstB, app, subS, lay, rowsOf, lkV, keyKind, keyEq, mfind, mput, oInt, isZeroInt, forall_const, exists_eq_left', implies_true, IntKind.bits, ↓reduceIte, Nat.reduceEqDiff, Nat.reduceAdd, Nat.reduceSub, Nat.reduceMul, Nat.reduceLT, Nat.reduceLeDiff, Nat.reduceBEq, Int.reduceLE, Int.reduceLT, Int.reduceToNat, reduceCtorEq, Ty.all, b1, b2, g0]
          repeat' (first
            | (refine a_seq (fun K hK => ?_))
            | (refine a_block ?_)
            | ((first | refine a_regionS ?_ | refine a_region (fun K hK => ?_) | refine a_ret ?_); simp (maxSteps := 2000000) only [undef, am0, am1, am2, am3, amb0, amb1, amb2, amb3, amb4, lwn, drn, callee, wantedB, isW, eff, pev, pst0, retPost, resAll, resP, resV, intP, mkV, putC, pbin, sbin, strsEq, peq, pint, pshift, pstr, pun, pconv, isShift, isConstB, app, subS, lay, rowsOf, lkV, keyKind, keyEq, mfind, mput, oInt, isZeroInt, forall_const, exists_eq_left', implies_true, IntKind.bits, ↓reduceIte, Nat.reduceEqDiff, Nat.reduceAdd, Nat.reduceSub, Nat.reduceMul, Nat.reduceLT, Nat.reduceLeDiff, Nat.reduceBEq, Int.reduceLE, Int.reduceLT, Int.reduceToNat, reduceCtorEq, Ty.all, g0, b1, b2])
            | (refine a_skip ?_; try simp only [pst0, ↓reduceIte, Nat.reduceEqDiff])
            | (refine a_exit ?_; try simp only [pst0, ↓reduceIte, Nat.reduceEqDiff])
            | (refine a_cond _ (by (try simp (maxSteps := 2000000) only [undef, am0, am1, am2, am3, amb0, amb1, amb2, amb3, amb4, lwn, drn, callee, wantedB, isW, eff, pev, pst0, retPost, resAll, resP, resV, intP, mkV, putC, pbin, sbin, strsEq, peq, pint, pshift, pstr, pun, pconv, isShift, isConstB, app, subS, lay, rowsOf, lkV, keyKind, keyEq, mfind, mput, oInt, isZeroInt, forall_const, exists_eq_left', implies_true, IntKind.bits, ↓reduceIte, Nat.reduceEqDiff, Nat.reduceAdd, Nat.reduceSub, Nat.reduceMul, Nat.reduceLT, Nat.reduceLeDiff, Nat.reduceBEq, Int.reduceLE, Int.reduceLT, Int.reduceToNat, reduceCtorEq, Ty.all, g0, b1, b2]); rfl) (fun hb => ?_) (fun hb => ?_) <;> (try simp only [hb0, decide_eq_true_eq, decide_eq_false_iff_not, reduceCtorEq] at hb) <;> (try (exfalso; omega)))
            | (with_reducible refine ite_in (fun hb => ?_) (fun hb => ?_) <;> (try simp only [Decidable.not_not] at hb) <;> (try simp only [hb, if_true, if_false, not_false_eq_true, not_true_eq_false, ↓reduceIte]) <;> (try simp only [hb0, decide_eq_true_eq, decide_eq_false_iff_not, reduceCtorEq] at hb) <;> (try (exfalso; omega)))
            | (refine hK _ _ ?_; clear hK; try simp only [pst0, ↓reduceIte, Nat.reduceEqDiff])
            | (clear hK; refine hK _ _ ?_; clear hK; try simp only [pst0, ↓reduceIte, Nat.reduceEqDiff])
            | (clear hK; clear hK; refine hK _ _ ?_; clear hK; try simp only [pst0, ↓reduceIte, Nat.reduceEqDiff])
            | (clear hK; clear hK; clear hK; refine hK _ _ ?_; clear hK; try simp only [pst0, ↓reduceIte, Nat.reduceEqDiff])
            | (rw [if_pos]; rotate_left 1; omega; simp (maxSteps := 2000000) only [undef, am0, am1, am2, am3, amb0, amb1, amb2, amb3, amb4, lwn, drn, callee, wantedB, isW, eff, pev, pst0, retPost, resAll, resP, resV, intP, mkV, putC, pbin, sbin, strsEq, peq, pint, pshift, pstr, pun, pconv, isShift, isConstB, app, subS, lay, rowsOf, lkV, keyKind, keyEq, mfind, mput, oInt, isZeroInt, forall_const, exists_eq_left', implies_true, IntKind.bits, ↓reduceIte, Nat.reduceEqDiff, Nat.reduceAdd, Nat.reduceSub, Nat.reduceMul, Nat.reduceLT, Nat.reduceLeDiff, Nat.reduceBEq, Int.reduceLE, Int.reduceLT, Int.reduceToNat, reduceCtorEq, Ty.all, g0, b1, b2]))
          rw [hn, b1, b2]; rfl
theorem fvariable_c {h : Heap} {s : ByteArray} (hs : s.size ≤ 9223372036854775807) : PCall Tryz.prog 108 [sPV s] h fun r h' => r = .sc (.bool (varB s)) ∧ h' = h := by
  cases b1 : decide ((s.size : Int) > 1) with
  | false =>
    have : varB s = false := by simp at b1; simp [varB]; omega
    refine pcall_body (ow := fun _ => false) (wf := fun _ => false) Ty.mixed Tryz.func108 rfl Ty.hb_108 (by rw [Tryz.ntmps108]; simp) ?_
    rw [Tryz.ntmps108, Tryz.results108]
    repeat' (first
      | (refine a_seq (fun K hK => ?_))
      | (refine a_block ?_)
      | ((first | refine a_regionS ?_ | refine a_region (fun K hK => ?_) | refine a_ret ?_); simp (maxSteps := 2000000) only [undef, am0, am1, am2, am3, amb0, amb1, amb2, amb3, amb4, lwn, drn, callee, wantedB, isW, eff, pev, pst0, retPost, resAll, resP, resV, intP, mkV, putC, pbin, sbin, strsEq, peq, pint, pshift, pstr, pun, pconv, isShift, isConstB, app, subS, lay, rowsOf, lkV, keyKind, keyEq, mfind, mput, oInt, isZeroInt, forall_const, exists_eq_left', implies_true, IntKind.bits, ↓reduceIte, Nat.reduceEqDiff, Nat.reduceAdd, Nat.reduceSub, Nat.reduceMul, Nat.reduceLT, Nat.reduceLeDiff, Nat.reduceBEq, Int.reduceLE, Int.reduceLT, Int.reduceToNat, reduceCtorEq, Ty.all, b1])
      | (refine a_skip ?_; try simp only [pst0, ↓reduceIte, Nat.reduceEqDiff])
      | (refine a_exit ?_; try simp only [pst0, ↓reduceIte, Nat.reduceEqDiff])
      | (refine a_cond _ (by (try simp (maxSteps := 2000000) only [undef, am0, am1, am2, am3, amb0, amb1, amb2, amb3, amb4, lwn, drn, callee, wantedB, isW, eff, pev, pst0, retPost, resAll, resP, resV, intP, mkV, putC, pbin, sbin, strsEq, peq, pint, pshift, pstr, pun, pconv, isShift, isConstB, app, subS, lay, rowsOf, lkV, keyKind, keyEq, mfind, mput, oInt, isZeroInt, forall_const, exists_eq_left', implies_true, IntKind.bits, ↓reduceIte, Nat.reduceEqDiff, Nat.reduceAdd, Nat.reduceSub, Nat.reduceMul, Nat.reduceLT, Nat.reduceLeDiff, Nat.reduceBEq, Int.reduceLE, Int.reduceLT, Int.reduceToNat, reduceCtorEq, Ty.all, b1]); rfl) (fun hb => ?_) (fun hb => ?_) <;> (try simp only [hb0, decide_eq_true_eq, decide_eq_false_iff_not, reduceCtorEq] at hb) <;> (try (exfalso; omega)))
      | (with_reducible refine ite_in (fun hb => ?_) (fun hb => ?_) <;> (try simp only [Decidable.not_not] at hb) <;> (try simp only [hb, if_true, if_false, not_false_eq_true, not_true_eq_false, ↓reduceIte]) <;> (try simp only [hb0, decide_eq_true_eq, decide_eq_false_iff_not, reduceCtorEq] at hb) <;> (try (exfalso; omega)))
      | (refine hK _ _ ?_; clear hK; try simp only [pst0, ↓reduceIte, Nat.reduceEqDiff])
      | (clear hK; refine hK _ _ ?_; clear hK; try simp only [pst0, ↓reduceIte, Nat.reduceEqDiff])
      | (clear hK; clear hK; refine hK _ _ ?_; clear hK; try simp only [pst0, ↓reduceIte, Nat.reduceEqDiff])
      | (clear hK; clear hK; clear hK; refine hK _ _ ?_; clear hK; try simp only [pst0, ↓reduceIte, Nat.reduceEqDiff])
      | (rw [if_pos]; rotate_left 1; omega; simp (maxSteps := 2000000) only [undef, am0, am1, am2, am3, amb0, amb1, amb2, amb3, amb4, lwn, drn, callee, wantedB, isW, eff, pev, pst0, retPost, resAll, resP, resV, intP, mkV, putC, pbin, sbin, strsEq, peq, pint, pshift, pstr, pun, pconv, isShift, isConstB, app, subS, lay, rowsOf, lkV, keyKind, keyEq, mfind, mput, oInt, isZeroInt, forall_const, exists_eq_left', implies_true, IntKind.bits, ↓reduceIte, Nat.reduceEqDiff, Nat.reduceAdd, Nat.reduceSub, Nat.reduceMul, Nat.reduceLT, Nat.reduceLeDiff, Nat.reduceBEq, Int.reduceLE, Int.reduceLT, Int.reduceToNat, reduceCtorEq, Ty.all, b1]))
    rw [this]
  | true =>
    cases b2 : decide ((s.size : Int) ≤ 32) with
    | false =>
      have : varB s = false := by simp at b2; simp [varB]; omega
      refine pcall_body (ow := fun _ => false) (wf := fun _ => false) Ty.mixed Tryz.func108 rfl Ty.hb_108 (by rw [Tryz.ntmps108]; simp) ?_
      rw [Tryz.ntmps108, Tryz.results108]
      repeat' (first
        | (refine a_seq (fun K hK => ?_))
        | (refine a_block ?_)
        | ((first | refine a_regionS ?_ | refine a_region (fun K hK => ?_) | refine a_ret ?_); simp (maxSteps := 2000000) only [undef, am0, am1, am2, am3, amb0, amb1, amb2, amb3, amb4, lwn, drn, callee, wantedB, isW, eff, pev, pst0, retPost, resAll, resP, resV, intP, mkV, putC, pbin, sbin, strsEq, peq, pint, pshift, pstr, pun, pconv, isShift, isConstB, app, subS, lay, rowsOf, lkV, keyKind, keyEq, mfind, mput, oInt, isZeroInt, forall_const, exists_eq_left', implies_true, IntKind.bits, ↓reduceIte, Nat.reduceEqDiff, Nat.reduceAdd, Nat.reduceSub, Nat.reduceMul, Nat.reduceLT, Nat.reduceLeDiff, Nat.reduceBEq, Int.reduceLE, Int.reduceLT, Int.reduceToNat, reduceCtorEq, Ty.all, b1, b2])
        | (refine a_skip ?_; try simp only [pst0, ↓reduceIte, Nat.reduceEqDiff])
        | (refine a_exit ?_; try simp only [pst0, ↓reduceIte, Nat.reduceEqDiff])
        | (refine a_cond _ (by (try simp (maxSteps := 2000000) only [undef, am0, am1, am2, am3, amb0, amb1, amb2, amb3, amb4, lwn, drn, callee, wantedB, isW, eff, pev, pst0, retPost, resAll, resP, resV, intP, mkV, putC, pbin, sbin, strsEq, peq, pint, pshift, pstr, pun, pconv, isShift, isConstB, app, subS, lay, rowsOf, lkV, keyKind, keyEq, mfind, mput, oInt, isZeroInt, forall_const, exists_eq_left', implies_true, IntKind.bits, ↓reduceIte, Nat.reduceEqDiff, Nat.reduceAdd, Nat.reduceSub, Nat.reduceMul, Nat.reduceLT, Nat.reduceLeDiff, Nat.reduceBEq, Int.reduceLE, Int.reduceLT, Int.reduceToNat, reduceCtorEq, Ty.all, b1, b2]); rfl) (fun hb => ?_) (fun hb => ?_) <;> (try simp only [hb0, decide_eq_true_eq, decide_eq_false_iff_not, reduceCtorEq] at hb) <;> (try (exfalso; omega)))
        | (with_reducible refine ite_in (fun hb => ?_) (fun hb => ?_) <;> (try simp only [Decidable.not_not] at hb) <;> (try simp only [hb, if_true, if_false, not_false_eq_true, not_true_eq_false, ↓reduceIte]) <;> (try simp only [hb0, decide_eq_true_eq, decide_eq_false_iff_not, reduceCtorEq] at hb) <;> (try (exfalso; omega)))
        | (refine hK _ _ ?_; clear hK; try simp only [pst0, ↓reduceIte, Nat.reduceEqDiff])
        | (clear hK; refine hK _ _ ?_; clear hK; try simp only [pst0, ↓reduceIte, Nat.reduceEqDiff])
        | (clear hK; clear hK; refine hK _ _ ?_; clear hK; try simp only [pst0, ↓reduceIte, Nat.reduceEqDiff])
        | (clear hK; clear hK; clear hK; refine hK _ _ ?_; clear hK; try simp only [pst0, ↓reduceIte, Nat.reduceEqDiff])
        | (rw [if_pos]; rotate_left 1; omega; simp (maxSteps := 2000000) only [undef, am0, am1, am2, am3, amb0, amb1, amb2, amb3, amb4, lwn, drn, callee, wantedB, isW, eff, pev, pst0, retPost, resAll, resP, resV, intP, mkV, putC, pbin, sbin, strsEq, peq, pint, pshift, pstr, pun, pconv, isShift, isConstB, app, subS, lay, rowsOf, lkV, keyKind, keyEq, mfind, mput, oInt, isZeroInt, forall_const, exists_eq_left', implies_true, IntKind.bits, ↓reduceIte, Nat.reduceEqDiff, Nat.reduceAdd, Nat.reduceSub, Nat.reduceMul, Nat.reduceLT, Nat.reduceLeDiff, Nat.reduceBEq, Int.reduceLE, Int.reduceLT, Int.reduceToNat, reduceCtorEq, Ty.all, b1, b2]))
      rw [this]
    | true =>
      simp at b1 b2
      have hsl : s.data.toList.length = s.size := by rw [Array.length_toList]; rfl
      obtain ⟨c, hx⟩ : ∃ c, s.data.toList[0]? = some c := ⟨_, List.getElem?_eq_getElem (by omega)⟩
      have hr : s[0]? = some c := by rw [ba_get]; exact hx
      have d1 : decide ((s.size : Int) > 1) = true := by simp; omega
      have d2 : decide ((s.size : Int) ≤ 32) = true := by simp; omega
      have q1 : (1 : Int) ≤ (s.size : Int) := by omega
      have hv : varB s = (decide (c.toNat = 63) && nameB (s.extract 1 s.size)) := by
        have e1 : decide (2 ≤ s.size) = true := by simp; omega
        have e2 : decide (s.size ≤ 32) = true := by simp; omega
        simp only [varB, e1, e2, hx, Bool.true_and]
      cases b3 : ((c.toNat : Int) == 63) with
      | false =>
        have : ¬ c.toNat = 63 := by simp at b3; omega
        refine pcall_body (ow := fun _ => false) (wf := fun _ => false) Ty.mixed Tryz.func108 rfl Ty.hb_108 (by rw [Tryz.ntmps108]; simp) ?_
        rw [Tryz.ntmps108, Tryz.results108]
        repeat' (first
          | (refine a_seq (fun K hK => ?_))
          | (refine a_block ?_)
          | ((first | refine a_regionS ?_ | refine a_region (fun K hK => ?_) | refine a_ret ?_); simp (maxSteps := 2000000) only [undef, am0, am1, am2, am3, amb0, amb1, amb2, amb3, amb4, lwn, drn, callee, wantedB, isW, eff, pev, pst0, retPost, resAll, resP, resV, intP, mkV, putC, pbin, sbin, strsEq, peq, pint, pshift, pstr, pun, pconv, isShift, isConstB, app, subS, lay, rowsOf, lkV, keyKind, keyEq, mfind, mput, oInt, isZeroInt, forall_const, exists_eq_left', implies_true, IntKind.bits, ↓reduceIte, Nat.reduceEqDiff, Nat.reduceAdd, Nat.reduceSub, Nat.reduceMul, Nat.reduceLT, Nat.reduceLeDiff, Nat.reduceBEq, Int.reduceLE, Int.reduceLT, Int.reduceToNat, reduceCtorEq, Ty.all, d1, d2, hr, b3])
          | (refine a_skip ?_; try simp only [pst0, ↓reduceIte, Nat.reduceEqDiff])
          | (refine a_exit ?_; try simp only [pst0, ↓reduceIte, Nat.reduceEqDiff])
          | (refine a_cond _ (by (try simp (maxSteps := 2000000) only [undef, am0, am1, am2, am3, amb0, amb1, amb2, amb3, amb4, lwn, drn, callee, wantedB, isW, eff, pev, pst0, retPost, resAll, resP, resV, intP, mkV, putC, pbin, sbin, strsEq, peq, pint, pshift, pstr, pun, pconv, isShift, isConstB, app, subS, lay, rowsOf, lkV, keyKind, keyEq, mfind, mput, oInt, isZeroInt, forall_const, exists_eq_left', implies_true, IntKind.bits, ↓reduceIte, Nat.reduceEqDiff, Nat.reduceAdd, Nat.reduceSub, Nat.reduceMul, Nat.reduceLT, Nat.reduceLeDiff, Nat.reduceBEq, Int.reduceLE, Int.reduceLT, Int.reduceToNat, reduceCtorEq, Ty.all, d1, d2, hr, b3]); rfl) (fun hb => ?_) (fun hb => ?_) <;> (try simp only [hb0, decide_eq_true_eq, decide_eq_false_iff_not, reduceCtorEq] at hb) <;> (try (exfalso; omega)))
          | (with_reducible refine ite_in (fun hb => ?_) (fun hb => ?_) <;> (try simp only [Decidable.not_not] at hb) <;> (try simp only [hb, if_true, if_false, not_false_eq_true, not_true_eq_false, ↓reduceIte]) <;> (try simp only [hb0, decide_eq_true_eq, decide_eq_false_iff_not, reduceCtorEq] at hb) <;> (try (exfalso; omega)))
          | (refine hK _ _ ?_; clear hK; try simp only [pst0, ↓reduceIte, Nat.reduceEqDiff])
          | (clear hK; refine hK _ _ ?_; clear hK; try simp only [pst0, ↓reduceIte, Nat.reduceEqDiff])
          | (clear hK; clear hK; refine hK _ _ ?_; clear hK; try simp only [pst0, ↓reduceIte, Nat.reduceEqDiff])
          | (clear hK; clear hK; clear hK; refine hK _ _ ?_; clear hK; try simp only [pst0, ↓reduceIte, Nat.reduceEqDiff])
          | (rw [if_pos]; rotate_left 1; omega; simp (maxSteps := 2000000) only [undef, am0, am1, am2, am3, amb0, amb1, amb2, amb3, amb4, lwn, drn, callee, wantedB, isW, eff, pev, pst0, retPost, resAll, resP, resV, intP, mkV, putC, pbin, sbin, strsEq, peq, pint, pshift, pstr, pun, pconv, isShift, isConstB, app, subS, lay, rowsOf, lkV, keyKind, keyEq, mfind, mput, oInt, isZeroInt, forall_const, exists_eq_left', implies_true, IntKind.bits, ↓reduceIte, Nat.reduceEqDiff, Nat.reduceAdd, Nat.reduceSub, Nat.reduceMul, Nat.reduceLT, Nat.reduceLeDiff, Nat.reduceBEq, Int.reduceLE, Int.reduceLT, Int.reduceToNat, reduceCtorEq, Ty.all, d1, d2, hr, b3]))
        rw [hv]; simp [this]
      | true =>
        have : c.toNat = 63 := by simp at b3; omega
        refine pcall_body (ow := fun _ => false) (wf := fun _ => false) Ty.mixed Tryz.func108 rfl Ty.hb_108 (by rw [Tryz.ntmps108]; simp) ?_
        rw [Tryz.ntmps108, Tryz.results108]
        have hsz : (s.extract 1 s.size).size ≤ 9223372036854775807 := by simp; omega
        repeat' (first
          | (refine a_seq (fun K hK => ?_))
          | (refine a_block ?_)
          | ((first | refine a_regionS ?_ | refine a_region (fun K hK => ?_) | refine a_ret ?_); simp (maxSteps := 2000000) only [undef, am0, am1, am2, am3, amb0, amb1, amb2, amb3, amb4, lwn, drn, callee, wantedB, isW, eff, pev, pst0, retPost, resAll, resP, resV, intP, mkV, putC, pbin, sbin, strsEq, peq, pint, pshift, pstr, pun, pconv, isShift, isConstB, app, subS, lay, rowsOf, lkV, keyKind, keyEq, mfind, mput, oInt, isZeroInt, forall_const, exists_eq_left', implies_true, IntKind.bits, ↓reduceIte, Nat.reduceEqDiff, Nat.reduceAdd, Nat.reduceSub, Nat.reduceMul, Nat.reduceLT, Nat.reduceLeDiff, Nat.reduceBEq, Int.reduceLE, Int.reduceLT, Int.reduceToNat, reduceCtorEq, Ty.all, d1, d2, hr, b3, q1, Option.getD_some, Option.getD_none, Int.le_refl])
          | (refine a_skip ?_; try simp only [pst0, ↓reduceIte, Nat.reduceEqDiff])
          | (refine a_exit ?_; try simp only [pst0, ↓reduceIte, Nat.reduceEqDiff])
          | (refine a_cond _ (by (try simp (maxSteps := 2000000) only [undef, am0, am1, am2, am3, amb0, amb1, amb2, amb3, amb4, lwn, drn, callee, wantedB, isW, eff, pev, pst0, retPost, resAll, resP, resV, intP, mkV, putC, pbin, sbin, strsEq, peq, pint, pshift, pstr, pun, pconv, isShift, isConstB, app, subS, lay, rowsOf, lkV, keyKind, keyEq, mfind, mput, oInt, isZeroInt, forall_const, exists_eq_left', implies_true, IntKind.bits, ↓reduceIte, Nat.reduceEqDiff, Nat.reduceAdd, Nat.reduceSub, Nat.reduceMul, Nat.reduceLT, Nat.reduceLeDiff, Nat.reduceBEq, Int.reduceLE, Int.reduceLT, Int.reduceToNat, reduceCtorEq, Ty.all, d1, d2, hr, b3, q1, Option.getD_some, Option.getD_none, Int.le_refl]); rfl) (fun hb => ?_) (fun hb => ?_) <;> (try simp only [hb0, decide_eq_true_eq, decide_eq_false_iff_not, reduceCtorEq] at hb) <;> (try (exfalso; omega)))
          | (with_reducible refine ite_in (fun hb => ?_) (fun hb => ?_) <;> (try simp only [Decidable.not_not] at hb) <;> (try simp only [hb, if_true, if_false, not_false_eq_true, not_true_eq_false, ↓reduceIte]) <;> (try simp only [hb0, decide_eq_true_eq, decide_eq_false_iff_not, reduceCtorEq] at hb) <;> (try (exfalso; omega)))
          | (refine hK _ _ ?_; clear hK; try simp only [pst0, ↓reduceIte, Nat.reduceEqDiff])
          | (clear hK; refine hK _ _ ?_; clear hK; try simp only [pst0, ↓reduceIte, Nat.reduceEqDiff])
          | (clear hK; clear hK; refine hK _ _ ?_; clear hK; try simp only [pst0, ↓reduceIte, Nat.reduceEqDiff])
          | (clear hK; clear hK; clear hK; refine hK _ _ ?_; clear hK; try simp only [pst0, ↓reduceIte, Nat.reduceEqDiff])
          | (rw [if_pos]; rotate_left 1; omega; simp (maxSteps := 2000000) only [undef, am0, am1, am2, am3, amb0, amb1, amb2, amb3, amb4, lwn, drn, callee, wantedB, isW, eff, pev, pst0, retPost, resAll, resP, resV, intP, mkV, putC, pbin, sbin, strsEq, peq, pint, pshift, pstr, pun, pconv, isShift, isConstB, app, subS, lay, rowsOf, lkV, keyKind, keyEq, mfind, mput, oInt, isZeroInt, forall_const, exists_eq_left', implies_true, IntKind.bits, ↓reduceIte, Nat.reduceEqDiff, Nat.reduceAdd, Nat.reduceSub, Nat.reduceMul, Nat.reduceLT, Nat.reduceLeDiff, Nat.reduceBEq, Int.reduceLE, Int.reduceLT, Int.reduceToNat, reduceCtorEq, Ty.all, d1, d2, hr, b3, q1, Option.getD_some, Option.getD_none, Int.le_refl]))
        refine owp_useQ (fname_c (s := s.extract 1 s.size) hsz) (by (try simp only [undef, am0, am1, am2, am3, amb0, amb1, amb2, amb3, amb4, lwn, drn, callee, wantedB, isW, eff, pev, pst0, retPost, resAll, resP, resV, intP, mkV, putC, pbin, sbin, strsEq, peq, pint, pshift, pstr, pun, pconv, isShift, isConstB, app, subS, lay, rowsOf, lkV, keyKind, keyEq, mfind, mput, oInt, isZeroInt, forall_const, exists_eq_left', implies_true, IntKind.bits, ↓reduceIte, Nat.reduceEqDiff, Nat.reduceAdd, Nat.reduceSub, Nat.reduceMul, Nat.reduceLT, Nat.reduceLeDiff, Nat.reduceBEq, Int.reduceLE, Int.reduceLT, Int.reduceToNat, reduceCtorEq, d1, d2, hr, b3, q1, Option.getD_some, Option.getD_none, Int.le_refl]); try rfl) ?_
        simp (maxSteps := 2000000) only [undef, am0, am1, am2, am3, amb0, amb1, amb2, amb3, amb4, lwn, drn, callee, wantedB, isW, eff, pev, pst0, retPost, resAll, resP, resV, intP, mkV, putC, pbin, sbin, strsEq, peq, pint, pshift, pstr, pun, pconv, isShift, isConstB, app, subS, lay, rowsOf, lkV, keyKind, keyEq, mfind, mput, oInt, isZeroInt, forall_const, exists_eq_left', implies_true, IntKind.bits, ↓reduceIte, Nat.reduceEqDiff, Nat.reduceAdd, Nat.reduceSub, Nat.reduceMul, Nat.reduceLT, Nat.reduceLeDiff, Nat.reduceBEq, Int.reduceLE, Int.reduceLT, Int.reduceToNat, reduceCtorEq, Ty.all, d1, d2, hr, b3, q1, Option.getD_some, Option.getD_none, Int.le_refl]
        repeat' (first
          | (refine a_seq (fun K hK => ?_))
          | (refine a_block ?_)
          | ((first | refine a_regionS ?_ | refine a_region (fun K hK => ?_) | refine a_ret ?_); simp (maxSteps := 2000000) only [undef, am0, am1, am2, am3, amb0, amb1, amb2, amb3, amb4, lwn, drn, callee, wantedB, isW, eff, pev, pst0, retPost, resAll, resP, resV, intP, mkV, putC, pbin, sbin, strsEq, peq, pint, pshift, pstr, pun, pconv, isShift, isConstB, app, subS, lay, rowsOf, lkV, keyKind, keyEq, mfind, mput, oInt, isZeroInt, forall_const, exists_eq_left', implies_true, IntKind.bits, ↓reduceIte, Nat.reduceEqDiff, Nat.reduceAdd, Nat.reduceSub, Nat.reduceMul, Nat.reduceLT, Nat.reduceLeDiff, Nat.reduceBEq, Int.reduceLE, Int.reduceLT, Int.reduceToNat, reduceCtorEq, Ty.all, d1, d2, b3])
          | (refine a_skip ?_; try simp only [pst0, ↓reduceIte, Nat.reduceEqDiff])
          | (refine a_exit ?_; try simp only [pst0, ↓reduceIte, Nat.reduceEqDiff])
          | (refine a_cond _ (by (try simp (maxSteps := 2000000) only [undef, am0, am1, am2, am3, amb0, amb1, amb2, amb3, amb4, lwn, drn, callee, wantedB, isW, eff, pev, pst0, retPost, resAll, resP, resV, intP, mkV, putC, pbin, sbin, strsEq, peq, pint, pshift, pstr, pun, pconv, isShift, isConstB, app, subS, lay, rowsOf, lkV, keyKind, keyEq, mfind, mput, oInt, isZeroInt, forall_const, exists_eq_left', implies_true, IntKind.bits, ↓reduceIte, Nat.reduceEqDiff, Nat.reduceAdd, Nat.reduceSub, Nat.reduceMul, Nat.reduceLT, Nat.reduceLeDiff, Nat.reduceBEq, Int.reduceLE, Int.reduceLT, Int.reduceToNat, reduceCtorEq, Ty.all, d1, d2, b3]); rfl) (fun hb => ?_) (fun hb => ?_) <;> (try simp only [hb0, decide_eq_true_eq, decide_eq_false_iff_not, reduceCtorEq] at hb) <;> (try (exfalso; omega)))
          | (with_reducible refine ite_in (fun hb => ?_) (fun hb => ?_) <;> (try simp only [Decidable.not_not] at hb) <;> (try simp only [hb, if_true, if_false, not_false_eq_true, not_true_eq_false, ↓reduceIte]) <;> (try simp only [hb0, decide_eq_true_eq, decide_eq_false_iff_not, reduceCtorEq] at hb) <;> (try (exfalso; omega)))
          | (refine hK _ _ ?_; clear hK; try simp only [pst0, ↓reduceIte, Nat.reduceEqDiff])
          | (clear hK; refine hK _ _ ?_; clear hK; try simp only [pst0, ↓reduceIte, Nat.reduceEqDiff])
          | (clear hK; clear hK; refine hK _ _ ?_; clear hK; try simp only [pst0, ↓reduceIte, Nat.reduceEqDiff])
          | (clear hK; clear hK; clear hK; refine hK _ _ ?_; clear hK; try simp only [pst0, ↓reduceIte, Nat.reduceEqDiff])
          | (rw [if_pos]; rotate_left 1; omega; simp (maxSteps := 2000000) only [undef, am0, am1, am2, am3, amb0, amb1, amb2, amb3, amb4, lwn, drn, callee, wantedB, isW, eff, pev, pst0, retPost, resAll, resP, resV, intP, mkV, putC, pbin, sbin, strsEq, peq, pint, pshift, pstr, pun, pconv, isShift, isConstB, app, subS, lay, rowsOf, lkV, keyKind, keyEq, mfind, mput, oInt, isZeroInt, forall_const, exists_eq_left', implies_true, IntKind.bits, ↓reduceIte, Nat.reduceEqDiff, Nat.reduceAdd, Nat.reduceSub, Nat.reduceMul, Nat.reduceLT, Nat.reduceLeDiff, Nat.reduceBEq, Int.reduceLE, Int.reduceLT, Int.reduceToNat, reduceCtorEq, Ty.all, d1, d2, b3]))
        rw [hv, this]; rfl
theorem rname_c {h : Heap} {s : ByteArray} (hs : s.size ≤ 9223372036854775807) : PCall Tryz.prog 30 [sPV s] h fun r h' => r = .sc (.bool (nameB s)) ∧ h' = h := by
  have hsl : s.data.toList.length = s.size := by rw [Array.length_toList]; rfl
  cases b1 : decide ((s.size : Int) < 1) with
  | true =>
    have : nameB s = false := by simp at b1; simp [nameB]; intros; omega
    refine pcall_body (ow := fun _ => false) (wf := fun _ => false) Ty.mixed Tryz.func30 rfl Ty.hb_30 (by rw [Tryz.ntmps30]; simp) ?_
    rw [Tryz.ntmps30, Tryz.results30]
    repeat' (first
      | (refine a_seq (fun K hK => ?_))
      | (refine a_block ?_)
      | ((first | refine a_regionS ?_ | refine a_region (fun K hK => ?_) | refine a_ret ?_); simp (maxSteps := 2000000) only [undef, am0, am1, am2, am3, amb0, amb1, amb2, amb3, amb4, lwn, drn, callee, wantedB, isW, eff, pev, pst0, retPost, resAll, resP, resV, intP, mkV, putC, pbin, sbin, strsEq, peq, pint, pshift, pstr, pun, pconv, isShift, isConstB, app, subS, lay, rowsOf, lkV, keyKind, keyEq, mfind, mput, oInt, isZeroInt, forall_const, exists_eq_left', implies_true, IntKind.bits, ↓reduceIte, Nat.reduceEqDiff, Nat.reduceAdd, Nat.reduceSub, Nat.reduceMul, Nat.reduceLT, Nat.reduceLeDiff, Nat.reduceBEq, Int.reduceLE, Int.reduceLT, Int.reduceToNat, reduceCtorEq, Ty.all, b1])
      | (refine a_skip ?_; try simp only [pst0, ↓reduceIte, Nat.reduceEqDiff])
      | (refine a_exit ?_; try simp only [pst0, ↓reduceIte, Nat.reduceEqDiff])
      | (refine a_cond _ (by (try simp (maxSteps := 2000000) only [undef, am0, am1, am2, am3, amb0, amb1, amb2, amb3, amb4, lwn, drn, callee, wantedB, isW, eff, pev, pst0, retPost, resAll, resP, resV, intP, mkV, putC, pbin, sbin, strsEq, peq, pint, pshift, pstr, pun, pconv, isShift, isConstB, app, subS, lay, rowsOf, lkV, keyKind, keyEq, mfind, mput, oInt, isZeroInt, forall_const, exists_eq_left', implies_true, IntKind.bits, ↓reduceIte, Nat.reduceEqDiff, Nat.reduceAdd, Nat.reduceSub, Nat.reduceMul, Nat.reduceLT, Nat.reduceLeDiff, Nat.reduceBEq, Int.reduceLE, Int.reduceLT, Int.reduceToNat, reduceCtorEq, Ty.all, b1]); rfl) (fun hb => ?_) (fun hb => ?_) <;> (try simp only [hb0, decide_eq_true_eq, decide_eq_false_iff_not, reduceCtorEq] at hb) <;> (try (exfalso; omega)))
      | (with_reducible refine ite_in (fun hb => ?_) (fun hb => ?_) <;> (try simp only [Decidable.not_not] at hb) <;> (try simp only [hb, if_true, if_false, not_false_eq_true, not_true_eq_false, ↓reduceIte]) <;> (try simp only [hb0, decide_eq_true_eq, decide_eq_false_iff_not, reduceCtorEq] at hb) <;> (try (exfalso; omega)))
      | (refine hK _ _ ?_; clear hK; try simp only [pst0, ↓reduceIte, Nat.reduceEqDiff])
      | (clear hK; refine hK _ _ ?_; clear hK; try simp only [pst0, ↓reduceIte, Nat.reduceEqDiff])
      | (clear hK; clear hK; refine hK _ _ ?_; clear hK; try simp only [pst0, ↓reduceIte, Nat.reduceEqDiff])
      | (clear hK; clear hK; clear hK; refine hK _ _ ?_; clear hK; try simp only [pst0, ↓reduceIte, Nat.reduceEqDiff])
      | (rw [if_pos]; rotate_left 1; omega; simp (maxSteps := 2000000) only [undef, am0, am1, am2, am3, amb0, amb1, amb2, amb3, amb4, lwn, drn, callee, wantedB, isW, eff, pev, pst0, retPost, resAll, resP, resV, intP, mkV, putC, pbin, sbin, strsEq, peq, pint, pshift, pstr, pun, pconv, isShift, isConstB, app, subS, lay, rowsOf, lkV, keyKind, keyEq, mfind, mput, oInt, isZeroInt, forall_const, exists_eq_left', implies_true, IntKind.bits, ↓reduceIte, Nat.reduceEqDiff, Nat.reduceAdd, Nat.reduceSub, Nat.reduceMul, Nat.reduceLT, Nat.reduceLeDiff, Nat.reduceBEq, Int.reduceLE, Int.reduceLT, Int.reduceToNat, reduceCtorEq, Ty.all, b1]))
    rw [this]
  | false =>
    cases b2 : decide ((s.size : Int) > 32) with
    | true =>
      have : nameB s = false := by simp at b2; have : ¬ s.size ≤ 32 := by omega
                                   simp [nameB, this]
      refine pcall_body (ow := fun _ => false) (wf := fun _ => false) Ty.mixed Tryz.func30 rfl Ty.hb_30 (by rw [Tryz.ntmps30]; simp) ?_
      rw [Tryz.ntmps30, Tryz.results30]
      repeat' (first
        | (refine a_seq (fun K hK => ?_))
        | (refine a_block ?_)
        | ((first | refine a_regionS ?_ | refine a_region (fun K hK => ?_) | refine a_ret ?_); simp (maxSteps := 2000000) only [undef, am0, am1, am2, am3, amb0, amb1, amb2, amb3, amb4, lwn, drn, callee, wantedB, isW, eff, pev, pst0, retPost, resAll, resP, resV, intP, mkV, putC, pbin, sbin, strsEq, peq, pint, pshift, pstr, pun, pconv, isShift, isConstB, app, subS, lay, rowsOf, lkV, keyKind, keyEq, mfind, mput, oInt, isZeroInt, forall_const, exists_eq_left', implies_true, IntKind.bits, ↓reduceIte, Nat.reduceEqDiff, Nat.reduceAdd, Nat.reduceSub, Nat.reduceMul, Nat.reduceLT, Nat.reduceLeDiff, Nat.reduceBEq, Int.reduceLE, Int.reduceLT, Int.reduceToNat, reduceCtorEq, Ty.all, b1, b2])
        | (refine a_skip ?_; try simp only [pst0, ↓reduceIte, Nat.reduceEqDiff])
        | (refine a_exit ?_; try simp only [pst0, ↓reduceIte, Nat.reduceEqDiff])
        | (refine a_cond _ (by (try simp (maxSteps := 2000000) only [undef, am0, am1, am2, am3, amb0, amb1, amb2, amb3, amb4, lwn, drn, callee, wantedB, isW, eff, pev, pst0, retPost, resAll, resP, resV, intP, mkV, putC, pbin, sbin, strsEq, peq, pint, pshift, pstr, pun, pconv, isShift, isConstB, app, subS, lay, rowsOf, lkV, keyKind, keyEq, mfind, mput, oInt, isZeroInt, forall_const, exists_eq_left', implies_true, IntKind.bits, ↓reduceIte, Nat.reduceEqDiff, Nat.reduceAdd, Nat.reduceSub, Nat.reduceMul, Nat.reduceLT, Nat.reduceLeDiff, Nat.reduceBEq, Int.reduceLE, Int.reduceLT, Int.reduceToNat, reduceCtorEq, Ty.all, b1, b2]); rfl) (fun hb => ?_) (fun hb => ?_) <;> (try simp only [hb0, decide_eq_true_eq, decide_eq_false_iff_not, reduceCtorEq] at hb) <;> (try (exfalso; omega)))
        | (with_reducible refine ite_in (fun hb => ?_) (fun hb => ?_) <;> (try simp only [Decidable.not_not] at hb) <;> (try simp only [hb, if_true, if_false, not_false_eq_true, not_true_eq_false, ↓reduceIte]) <;> (try simp only [hb0, decide_eq_true_eq, decide_eq_false_iff_not, reduceCtorEq] at hb) <;> (try (exfalso; omega)))
        | (refine hK _ _ ?_; clear hK; try simp only [pst0, ↓reduceIte, Nat.reduceEqDiff])
        | (clear hK; refine hK _ _ ?_; clear hK; try simp only [pst0, ↓reduceIte, Nat.reduceEqDiff])
        | (clear hK; clear hK; refine hK _ _ ?_; clear hK; try simp only [pst0, ↓reduceIte, Nat.reduceEqDiff])
        | (clear hK; clear hK; clear hK; refine hK _ _ ?_; clear hK; try simp only [pst0, ↓reduceIte, Nat.reduceEqDiff])
        | (rw [if_pos]; rotate_left 1; omega; simp (maxSteps := 2000000) only [undef, am0, am1, am2, am3, amb0, amb1, amb2, amb3, amb4, lwn, drn, callee, wantedB, isW, eff, pev, pst0, retPost, resAll, resP, resV, intP, mkV, putC, pbin, sbin, strsEq, peq, pint, pshift, pstr, pun, pconv, isShift, isConstB, app, subS, lay, rowsOf, lkV, keyKind, keyEq, mfind, mput, oInt, isZeroInt, forall_const, exists_eq_left', implies_true, IntKind.bits, ↓reduceIte, Nat.reduceEqDiff, Nat.reduceAdd, Nat.reduceSub, Nat.reduceMul, Nat.reduceLT, Nat.reduceLeDiff, Nat.reduceBEq, Int.reduceLE, Int.reduceLT, Int.reduceToNat, reduceCtorEq, Ty.all, b1, b2]))
      rw [this]
    | false =>
      have b1' := b1
      have b2' := b2
      simp at b1' b2'
      obtain ⟨c, hx⟩ : ∃ c, s.data.toList[0]? = some c := ⟨_, List.getElem?_eq_getElem (by omega)⟩
      have hr : s[0]? = some c := by rw [ba_get]; exact hx
      cases b3 : decide ((c.toNat : Int) < 97) with
      | true =>
        have : letB c = false := by simp at b3; simp [letB]; omega
        have : nameB s = false := by simp [nameB, bytesOk_false hx (by simp [okAt, this])]
        refine pcall_body (ow := fun _ => false) (wf := fun _ => false) Ty.mixed Tryz.func30 rfl Ty.hb_30 (by rw [Tryz.ntmps30]; simp) ?_
        rw [Tryz.ntmps30, Tryz.results30]
        repeat' (first
          | (refine a_seq (fun K hK => ?_))
          | (refine a_block ?_)
          | ((first | refine a_regionS ?_ | refine a_region (fun K hK => ?_) | refine a_ret ?_); simp (maxSteps := 2000000) only [undef, am0, am1, am2, am3, amb0, amb1, amb2, amb3, amb4, lwn, drn, callee, wantedB, isW, eff, pev, pst0, retPost, resAll, resP, resV, intP, mkV, putC, pbin, sbin, strsEq, peq, pint, pshift, pstr, pun, pconv, isShift, isConstB, app, subS, lay, rowsOf, lkV, keyKind, keyEq, mfind, mput, oInt, isZeroInt, forall_const, exists_eq_left', implies_true, IntKind.bits, ↓reduceIte, Nat.reduceEqDiff, Nat.reduceAdd, Nat.reduceSub, Nat.reduceMul, Nat.reduceLT, Nat.reduceLeDiff, Nat.reduceBEq, Int.reduceLE, Int.reduceLT, Int.reduceToNat, reduceCtorEq, Ty.all, b1, b2, b3, hr])
          | (refine a_skip ?_; try simp only [pst0, ↓reduceIte, Nat.reduceEqDiff])
          | (refine a_exit ?_; try simp only [pst0, ↓reduceIte, Nat.reduceEqDiff])
          | (refine a_cond _ (by (try simp (maxSteps := 2000000) only [undef, am0, am1, am2, am3, amb0, amb1, amb2, amb3, amb4, lwn, drn, callee, wantedB, isW, eff, pev, pst0, retPost, resAll, resP, resV, intP, mkV, putC, pbin, sbin, strsEq, peq, pint, pshift, pstr, pun, pconv, isShift, isConstB, app, subS, lay, rowsOf, lkV, keyKind, keyEq, mfind, mput, oInt, isZeroInt, forall_const, exists_eq_left', implies_true, IntKind.bits, ↓reduceIte, Nat.reduceEqDiff, Nat.reduceAdd, Nat.reduceSub, Nat.reduceMul, Nat.reduceLT, Nat.reduceLeDiff, Nat.reduceBEq, Int.reduceLE, Int.reduceLT, Int.reduceToNat, reduceCtorEq, Ty.all, b1, b2, b3, hr]); rfl) (fun hb => ?_) (fun hb => ?_) <;> (try simp only [hb0, decide_eq_true_eq, decide_eq_false_iff_not, reduceCtorEq] at hb) <;> (try (exfalso; omega)))
          | (with_reducible refine ite_in (fun hb => ?_) (fun hb => ?_) <;> (try simp only [Decidable.not_not] at hb) <;> (try simp only [hb, if_true, if_false, not_false_eq_true, not_true_eq_false, ↓reduceIte]) <;> (try simp only [hb0, decide_eq_true_eq, decide_eq_false_iff_not, reduceCtorEq] at hb) <;> (try (exfalso; omega)))
          | (refine hK _ _ ?_; clear hK; try simp only [pst0, ↓reduceIte, Nat.reduceEqDiff])
          | (clear hK; refine hK _ _ ?_; clear hK; try simp only [pst0, ↓reduceIte, Nat.reduceEqDiff])
          | (clear hK; clear hK; refine hK _ _ ?_; clear hK; try simp only [pst0, ↓reduceIte, Nat.reduceEqDiff])
          | (clear hK; clear hK; clear hK; refine hK _ _ ?_; clear hK; try simp only [pst0, ↓reduceIte, Nat.reduceEqDiff])
          | (rw [if_pos]; rotate_left 1; omega; simp (maxSteps := 2000000) only [undef, am0, am1, am2, am3, amb0, amb1, amb2, amb3, amb4, lwn, drn, callee, wantedB, isW, eff, pev, pst0, retPost, resAll, resP, resV, intP, mkV, putC, pbin, sbin, strsEq, peq, pint, pshift, pstr, pun, pconv, isShift, isConstB, app, subS, lay, rowsOf, lkV, keyKind, keyEq, mfind, mput, oInt, isZeroInt, forall_const, exists_eq_left', implies_true, IntKind.bits, ↓reduceIte, Nat.reduceEqDiff, Nat.reduceAdd, Nat.reduceSub, Nat.reduceMul, Nat.reduceLT, Nat.reduceLeDiff, Nat.reduceBEq, Int.reduceLE, Int.reduceLT, Int.reduceToNat, reduceCtorEq, Ty.all, b1, b2, b3, hr]))
        rw [this]
      | false =>
        cases b4 : decide ((c.toNat : Int) > 122) with
        | true =>
          have : letB c = false := by simp at b4; simp [letB]; omega
          have : nameB s = false := by simp [nameB, bytesOk_false hx (by simp [okAt, this])]
          refine pcall_body (ow := fun _ => false) (wf := fun _ => false) Ty.mixed Tryz.func30 rfl Ty.hb_30 (by rw [Tryz.ntmps30]; simp) ?_
          rw [Tryz.ntmps30, Tryz.results30]
          repeat' (first
            | (refine a_seq (fun K hK => ?_))
            | (refine a_block ?_)
            | ((first | refine a_regionS ?_ | refine a_region (fun K hK => ?_) | refine a_ret ?_); simp (maxSteps := 2000000) only [undef, am0, am1, am2, am3, amb0, amb1, amb2, amb3, amb4, lwn, drn, callee, wantedB, isW, eff, pev, pst0, retPost, resAll, resP, resV, intP, mkV, putC, pbin, sbin, strsEq, peq, pint, pshift, pstr, pun, pconv, isShift, isConstB, app, subS, lay, rowsOf, lkV, keyKind, keyEq, mfind, mput, oInt, isZeroInt, forall_const, exists_eq_left', implies_true, IntKind.bits, ↓reduceIte, Nat.reduceEqDiff, Nat.reduceAdd, Nat.reduceSub, Nat.reduceMul, Nat.reduceLT, Nat.reduceLeDiff, Nat.reduceBEq, Int.reduceLE, Int.reduceLT, Int.reduceToNat, reduceCtorEq, Ty.all, b1, b2, b3, b4, hr])
            | (refine a_skip ?_; try simp only [pst0, ↓reduceIte, Nat.reduceEqDiff])
            | (refine a_exit ?_; try simp only [pst0, ↓reduceIte, Nat.reduceEqDiff])
            | (refine a_cond _ (by (try simp (maxSteps := 2000000) only [undef, am0, am1, am2, am3, amb0, amb1, amb2, amb3, amb4, lwn, drn, callee, wantedB, isW, eff, pev, pst0, retPost, resAll, resP, resV, intP, mkV, putC, pbin, sbin, strsEq, peq, pint, pshift, pstr, pun, pconv, isShift, isConstB, app, subS, lay, rowsOf, lkV, keyKind, keyEq, mfind, mput, oInt, isZeroInt, forall_const, exists_eq_left', implies_true, IntKind.bits, ↓reduceIte, Nat.reduceEqDiff, Nat.reduceAdd, Nat.reduceSub, Nat.reduceMul, Nat.reduceLT, Nat.reduceLeDiff, Nat.reduceBEq, Int.reduceLE, Int.reduceLT, Int.reduceToNat, reduceCtorEq, Ty.all, b1, b2, b3, b4, hr]); rfl) (fun hb => ?_) (fun hb => ?_) <;> (try simp only [hb0, decide_eq_true_eq, decide_eq_false_iff_not, reduceCtorEq] at hb) <;> (try (exfalso; omega)))
            | (with_reducible refine ite_in (fun hb => ?_) (fun hb => ?_) <;> (try simp only [Decidable.not_not] at hb) <;> (try simp only [hb, if_true, if_false, not_false_eq_true, not_true_eq_false, ↓reduceIte]) <;> (try simp only [hb0, decide_eq_true_eq, decide_eq_false_iff_not, reduceCtorEq] at hb) <;> (try (exfalso; omega)))
            | (refine hK _ _ ?_; clear hK; try simp only [pst0, ↓reduceIte, Nat.reduceEqDiff])
            | (clear hK; refine hK _ _ ?_; clear hK; try simp only [pst0, ↓reduceIte, Nat.reduceEqDiff])
            | (clear hK; clear hK; refine hK _ _ ?_; clear hK; try simp only [pst0, ↓reduceIte, Nat.reduceEqDiff])
            | (clear hK; clear hK; clear hK; refine hK _ _ ?_; clear hK; try simp only [pst0, ↓reduceIte, Nat.reduceEqDiff])
            | (rw [if_pos]; rotate_left 1; omega; simp (maxSteps := 2000000) only [undef, am0, am1, am2, am3, amb0, amb1, amb2, amb3, amb4, lwn, drn, callee, wantedB, isW, eff, pev, pst0, retPost, resAll, resP, resV, intP, mkV, putC, pbin, sbin, strsEq, peq, pint, pshift, pstr, pun, pconv, isShift, isConstB, app, subS, lay, rowsOf, lkV, keyKind, keyEq, mfind, mput, oInt, isZeroInt, forall_const, exists_eq_left', implies_true, IntKind.bits, ↓reduceIte, Nat.reduceEqDiff, Nat.reduceAdd, Nat.reduceSub, Nat.reduceMul, Nat.reduceLT, Nat.reduceLeDiff, Nat.reduceBEq, Int.reduceLE, Int.reduceLT, Int.reduceToNat, reduceCtorEq, Ty.all, b1, b2, b3, b4, hr]))
          rw [this]
        | false =>
          have hlet : letB c = true := by simp at b3 b4; simp [letB]; omega
          refine pcall_body (ow := fun _ => false) (wf := fun _ => false) Ty.mixed Tryz.func30 rfl Ty.hb_30 (by rw [Tryz.ntmps30]; simp) ?_
          rw [Tryz.ntmps30, Tryz.results30]
          repeat' (first
            | (refine a_seq (fun K hK => ?_))
            | (refine a_block ?_)
            | ((first | refine a_regionS ?_ | refine a_region (fun K hK => ?_) | refine a_ret ?_); simp (maxSteps := 2000000) only [undef, am0, am1, am2, am3, amb0, amb1, amb2, amb3, amb4, lwn, drn, callee, wantedB, isW, eff, pev, pst0, retPost, resAll, resP, resV, intP, mkV, putC, pbin, sbin, strsEq, peq, pint, pshift, pstr, pun, pconv, isShift, isConstB, app, subS, lay, rowsOf, lkV, keyKind, keyEq, mfind, mput, oInt, isZeroInt, forall_const, exists_eq_left', implies_true, IntKind.bits, ↓reduceIte, Nat.reduceEqDiff, Nat.reduceAdd, Nat.reduceSub, Nat.reduceMul, Nat.reduceLT, Nat.reduceLeDiff, Nat.reduceBEq, Int.reduceLE, Int.reduceLT, Int.reduceToNat, reduceCtorEq, Ty.all, b1, b2, b3, b4, hr])
            | (refine a_skip ?_; try simp only [pst0, ↓reduceIte, Nat.reduceEqDiff])
            | (refine a_exit ?_; try simp only [pst0, ↓reduceIte, Nat.reduceEqDiff])
            | (refine a_cond _ (by (try simp (maxSteps := 2000000) only [undef, am0, am1, am2, am3, amb0, amb1, amb2, amb3, amb4, lwn, drn, callee, wantedB, isW, eff, pev, pst0, retPost, resAll, resP, resV, intP, mkV, putC, pbin, sbin, strsEq, peq, pint, pshift, pstr, pun, pconv, isShift, isConstB, app, subS, lay, rowsOf, lkV, keyKind, keyEq, mfind, mput, oInt, isZeroInt, forall_const, exists_eq_left', implies_true, IntKind.bits, ↓reduceIte, Nat.reduceEqDiff, Nat.reduceAdd, Nat.reduceSub, Nat.reduceMul, Nat.reduceLT, Nat.reduceLeDiff, Nat.reduceBEq, Int.reduceLE, Int.reduceLT, Int.reduceToNat, reduceCtorEq, Ty.all, b1, b2, b3, b4, hr]); rfl) (fun hb => ?_) (fun hb => ?_) <;> (try simp only [hb0, decide_eq_true_eq, decide_eq_false_iff_not, reduceCtorEq] at hb) <;> (try (exfalso; omega)))
            | (with_reducible refine ite_in (fun hb => ?_) (fun hb => ?_) <;> (try simp only [Decidable.not_not] at hb) <;> (try simp only [hb, if_true, if_false, not_false_eq_true, not_true_eq_false, ↓reduceIte]) <;> (try simp only [hb0, decide_eq_true_eq, decide_eq_false_iff_not, reduceCtorEq] at hb) <;> (try (exfalso; omega)))
            | (refine hK _ _ ?_; clear hK; try simp only [pst0, ↓reduceIte, Nat.reduceEqDiff])
            | (clear hK; refine hK _ _ ?_; clear hK; try simp only [pst0, ↓reduceIte, Nat.reduceEqDiff])
            | (clear hK; clear hK; refine hK _ _ ?_; clear hK; try simp only [pst0, ↓reduceIte, Nat.reduceEqDiff])
            | (clear hK; clear hK; clear hK; refine hK _ _ ?_; clear hK; try simp only [pst0, ↓reduceIte, Nat.reduceEqDiff])
            | (rw [if_pos]; rotate_left 1; omega; simp (maxSteps := 2000000) only [undef, am0, am1, am2, am3, amb0, amb1, amb2, amb3, amb4, lwn, drn, callee, wantedB, isW, eff, pev, pst0, retPost, resAll, resP, resV, intP, mkV, putC, pbin, sbin, strsEq, peq, pint, pshift, pstr, pun, pconv, isShift, isConstB, app, subS, lay, rowsOf, lkV, keyKind, keyEq, mfind, mput, oInt, isZeroInt, forall_const, exists_eq_left', implies_true, IntKind.bits, ↓reduceIte, Nat.reduceEqDiff, Nat.reduceAdd, Nat.reduceSub, Nat.reduceMul, Nat.reduceLT, Nat.reduceLeDiff, Nat.reduceBEq, Int.reduceLE, Int.reduceLT, Int.reduceToNat, reduceCtorEq, Ty.all, b1, b2, b3, b4, hr]))
          cases b5 : (words.any fun w => bEq s w) with
          | true =>
            have : nameB s = false := by simp [nameB, b5]
            refine owp_useQ (rreserved_c (s := s)) (by (try simp only [undef, am0, am1, am2, am3, amb0, amb1, amb2, amb3, amb4, lwn, drn, callee, wantedB, isW, eff, pev, pst0, retPost, resAll, resP, resV, intP, mkV, putC, pbin, sbin, strsEq, peq, pint, pshift, pstr, pun, pconv, isShift, isConstB, app, subS, lay, rowsOf, lkV, keyKind, keyEq, mfind, mput, oInt, isZeroInt, forall_const, exists_eq_left', implies_true, IntKind.bits, ↓reduceIte, Nat.reduceEqDiff, Nat.reduceAdd, Nat.reduceSub, Nat.reduceMul, Nat.reduceLT, Nat.reduceLeDiff, Nat.reduceBEq, Int.reduceLE, Int.reduceLT, Int.reduceToNat, reduceCtorEq, b1, b2, b3, b4, hr]); try rfl) ?_
            simp (maxSteps := 2000000) only [undef, am0, am1, am2, am3, amb0, amb1, amb2, amb3, amb4, lwn, drn, callee, wantedB, isW, eff, pev, pst0, retPost, resAll, resP, resV, intP, mkV, putC, pbin, sbin, strsEq, peq, pint, pshift, pstr, pun, pconv, isShift, isConstB, app, subS, lay, rowsOf, lkV, keyKind, keyEq, mfind, mput, oInt, isZeroInt, forall_const, exists_eq_left', implies_true, IntKind.bits, ↓reduceIte, Nat.reduceEqDiff, Nat.reduceAdd, Nat.reduceSub, Nat.reduceMul, Nat.reduceLT, Nat.reduceLeDiff, Nat.reduceBEq, Int.reduceLE, Int.reduceLT, Int.reduceToNat, reduceCtorEq, Ty.all, b1, b2, b3, b4, hr]
            repeat' (first
              | (refine a_seq (fun K hK => ?_))
              | (refine a_block ?_)
              | ((first | refine a_regionS ?_ | refine a_region (fun K hK => ?_) | refine a_ret ?_); simp (maxSteps := 2000000) only [undef, am0, am1, am2, am3, amb0, amb1, amb2, amb3, amb4, lwn, drn, callee, wantedB, isW, eff, pev, pst0, retPost, resAll, resP, resV, intP, mkV, putC, pbin, sbin, strsEq, peq, pint, pshift, pstr, pun, pconv, isShift, isConstB, app, subS, lay, rowsOf, lkV, keyKind, keyEq, mfind, mput, oInt, isZeroInt, forall_const, exists_eq_left', implies_true, IntKind.bits, ↓reduceIte, Nat.reduceEqDiff, Nat.reduceAdd, Nat.reduceSub, Nat.reduceMul, Nat.reduceLT, Nat.reduceLeDiff, Nat.reduceBEq, Int.reduceLE, Int.reduceLT, Int.reduceToNat, reduceCtorEq, Ty.all, b5])
              | (refine a_skip ?_; try simp only [pst0, ↓reduceIte, Nat.reduceEqDiff])
              | (refine a_exit ?_; try simp only [pst0, ↓reduceIte, Nat.reduceEqDiff])
              | (refine a_cond _ (by (try simp (maxSteps := 2000000) only [undef, am0, am1, am2, am3, amb0, amb1, amb2, amb3, amb4, lwn, drn, callee, wantedB, isW, eff, pev, pst0, retPost, resAll, resP, resV, intP, mkV, putC, pbin, sbin, strsEq, peq, pint, pshift, pstr, pun, pconv, isShift, isConstB, app, subS, lay, rowsOf, lkV, keyKind, keyEq, mfind, mput, oInt, isZeroInt, forall_const, exists_eq_left', implies_true, IntKind.bits, ↓reduceIte, Nat.reduceEqDiff, Nat.reduceAdd, Nat.reduceSub, Nat.reduceMul, Nat.reduceLT, Nat.reduceLeDiff, Nat.reduceBEq, Int.reduceLE, Int.reduceLT, Int.reduceToNat, reduceCtorEq, Ty.all, b5]); rfl) (fun hb => ?_) (fun hb => ?_) <;> (try simp only [hb0, decide_eq_true_eq, decide_eq_false_iff_not, reduceCtorEq] at hb) <;> (try (exfalso; omega)))
              | (with_reducible refine ite_in (fun hb => ?_) (fun hb => ?_) <;> (try simp only [Decidable.not_not] at hb) <;> (try simp only [hb, if_true, if_false, not_false_eq_true, not_true_eq_false, ↓reduceIte]) <;> (try simp only [hb0, decide_eq_true_eq, decide_eq_false_iff_not, reduceCtorEq] at hb) <;> (try (exfalso; omega)))
              | (refine hK _ _ ?_; clear hK; try simp only [pst0, ↓reduceIte, Nat.reduceEqDiff])
              | (clear hK; refine hK _ _ ?_; clear hK; try simp only [pst0, ↓reduceIte, Nat.reduceEqDiff])
              | (clear hK; clear hK; refine hK _ _ ?_; clear hK; try simp only [pst0, ↓reduceIte, Nat.reduceEqDiff])
              | (clear hK; clear hK; clear hK; refine hK _ _ ?_; clear hK; try simp only [pst0, ↓reduceIte, Nat.reduceEqDiff])
              | (rw [if_pos]; rotate_left 1; omega; simp (maxSteps := 2000000) only [undef, am0, am1, am2, am3, amb0, amb1, amb2, amb3, amb4, lwn, drn, callee, wantedB, isW, eff, pev, pst0, retPost, resAll, resP, resV, intP, mkV, putC, pbin, sbin, strsEq, peq, pint, pshift, pstr, pun, pconv, isShift, isConstB, app, subS, lay, rowsOf, lkV, keyKind, keyEq, mfind, mput, oInt, isZeroInt, forall_const, exists_eq_left', implies_true, IntKind.bits, ↓reduceIte, Nat.reduceEqDiff, Nat.reduceAdd, Nat.reduceSub, Nat.reduceMul, Nat.reduceLT, Nat.reduceLeDiff, Nat.reduceBEq, Int.reduceLE, Int.reduceLT, Int.reduceToNat, reduceCtorEq, Ty.all, b5]))
            rw [this]
          | false =>
            refine owp_useQ (rreserved_c (s := s)) (by (try simp only [undef, am0, am1, am2, am3, amb0, amb1, amb2, amb3, amb4, lwn, drn, callee, wantedB, isW, eff, pev, pst0, retPost, resAll, resP, resV, intP, mkV, putC, pbin, sbin, strsEq, peq, pint, pshift, pstr, pun, pconv, isShift, isConstB, app, subS, lay, rowsOf, lkV, keyKind, keyEq, mfind, mput, oInt, isZeroInt, forall_const, exists_eq_left', implies_true, IntKind.bits, ↓reduceIte, Nat.reduceEqDiff, Nat.reduceAdd, Nat.reduceSub, Nat.reduceMul, Nat.reduceLT, Nat.reduceLeDiff, Nat.reduceBEq, Int.reduceLE, Int.reduceLT, Int.reduceToNat, reduceCtorEq, b1, b2, b3, b4, hr]); try rfl) ?_
            simp (maxSteps := 2000000) only [undef, am0, am1, am2, am3, amb0, amb1, amb2, amb3, amb4, lwn, drn, callee, wantedB, isW, eff, pev, pst0, retPost, resAll, resP, resV, intP, mkV, putC, pbin, sbin, strsEq, peq, pint, pshift, pstr, pun, pconv, isShift, isConstB, app, subS, lay, rowsOf, lkV, keyKind, keyEq, mfind, mput, oInt, isZeroInt, forall_const, exists_eq_left', implies_true, IntKind.bits, ↓reduceIte, Nat.reduceEqDiff, Nat.reduceAdd, Nat.reduceSub, Nat.reduceMul, Nat.reduceLT, Nat.reduceLeDiff, Nat.reduceBEq, Int.reduceLE, Int.reduceLT, Int.reduceToNat, reduceCtorEq, Ty.all, b1, b2, b3, b4, hr]
            repeat' (first
              | (refine a_seq (fun K hK => ?_))
              | (refine a_block ?_)
              | ((first | refine a_regionS ?_ | refine a_region (fun K hK => ?_) | refine a_ret ?_); simp (maxSteps := 2000000) only [undef, am0, am1, am2, am3, amb0, amb1, amb2, amb3, amb4, lwn, drn, callee, wantedB, isW, eff, pev, pst0, retPost, resAll, resP, resV, intP, mkV, putC, pbin, sbin, strsEq, peq, pint, pshift, pstr, pun, pconv, isShift, isConstB, app, subS, lay, rowsOf, lkV, keyKind, keyEq, mfind, mput, oInt, isZeroInt, forall_const, exists_eq_left', implies_true, IntKind.bits, ↓reduceIte, Nat.reduceEqDiff, Nat.reduceAdd, Nat.reduceSub, Nat.reduceMul, Nat.reduceLT, Nat.reduceLeDiff, Nat.reduceBEq, Int.reduceLE, Int.reduceLT, Int.reduceToNat, reduceCtorEq, Ty.all, b5])
              | (refine a_skip ?_; try simp only [pst0, ↓reduceIte, Nat.reduceEqDiff])
              | (refine a_exit ?_; try simp only [pst0, ↓reduceIte, Nat.reduceEqDiff])
              | (refine a_cond _ (by (try simp (maxSteps := 2000000) only [undef, am0, am1, am2, am3, amb0, amb1, amb2, amb3, amb4, lwn, drn, callee, wantedB, isW, eff, pev, pst0, retPost, resAll, resP, resV, intP, mkV, putC, pbin, sbin, strsEq, peq, pint, pshift, pstr, pun, pconv, isShift, isConstB, app, subS, lay, rowsOf, lkV, keyKind, keyEq, mfind, mput, oInt, isZeroInt, forall_const, exists_eq_left', implies_true, IntKind.bits, ↓reduceIte, Nat.reduceEqDiff, Nat.reduceAdd, Nat.reduceSub, Nat.reduceMul, Nat.reduceLT, Nat.reduceLeDiff, Nat.reduceBEq, Int.reduceLE, Int.reduceLT, Int.reduceToNat, reduceCtorEq, Ty.all, b5]); rfl) (fun hb => ?_) (fun hb => ?_) <;> (try simp only [hb0, decide_eq_true_eq, decide_eq_false_iff_not, reduceCtorEq] at hb) <;> (try (exfalso; omega)))
              | (with_reducible refine ite_in (fun hb => ?_) (fun hb => ?_) <;> (try simp only [Decidable.not_not] at hb) <;> (try simp only [hb, if_true, if_false, not_false_eq_true, not_true_eq_false, ↓reduceIte]) <;> (try simp only [hb0, decide_eq_true_eq, decide_eq_false_iff_not, reduceCtorEq] at hb) <;> (try (exfalso; omega)))
              | (refine hK _ _ ?_; clear hK; try simp only [pst0, ↓reduceIte, Nat.reduceEqDiff])
              | (clear hK; refine hK _ _ ?_; clear hK; try simp only [pst0, ↓reduceIte, Nat.reduceEqDiff])
              | (clear hK; clear hK; refine hK _ _ ?_; clear hK; try simp only [pst0, ↓reduceIte, Nat.reduceEqDiff])
              | (clear hK; clear hK; clear hK; refine hK _ _ ?_; clear hK; try simp only [pst0, ↓reduceIte, Nat.reduceEqDiff])
              | (rw [if_pos]; rotate_left 1; omega; simp (maxSteps := 2000000) only [undef, am0, am1, am2, am3, amb0, amb1, amb2, amb3, amb4, lwn, drn, callee, wantedB, isW, eff, pev, pst0, retPost, resAll, resP, resV, intP, mkV, putC, pbin, sbin, strsEq, peq, pint, pshift, pstr, pun, pconv, isShift, isConstB, app, subS, lay, rowsOf, lkV, keyKind, keyEq, mfind, mput, oInt, isZeroInt, forall_const, exists_eq_left', implies_true, IntKind.bits, ↓reduceIte, Nat.reduceEqDiff, Nat.reduceAdd, Nat.reduceSub, Nat.reduceMul, Nat.reduceLT, Nat.reduceLeDiff, Nat.reduceBEq, Int.reduceLE, Int.reduceLT, Int.reduceToNat, reduceCtorEq, Ty.all, b5]))
            refine a_loop (fun m S h' => h' = h ∧ S 0 = sPV s ∧ ∃ k : Nat, S 3 = .sc (.int .i64 k) ∧ k ≤ s.size ∧ m = s.size - k ∧ ∀ (i : Nat) (c : UInt8), i < k → s.data.toList[i]? = some c → midB c = true) s.size ?_ ?_
            · simp only [undef, am0, am1, am2, am3, amb0, amb1, amb2, amb3, amb4, lwn, drn, callee, wantedB, isW, eff, pev, pst0, retPost, resAll, resP, resV, intP, mkV, putC, pbin, sbin, strsEq, peq, pint, pshift, pstr, pun, pconv, isShift, isConstB, app, subS, lay, rowsOf, lkV, keyKind, keyEq, mfind, mput, oInt, isZeroInt, forall_const, exists_eq_left', implies_true, IntKind.bits, ↓reduceIte, Nat.reduceEqDiff, Nat.reduceAdd, Nat.reduceSub, Nat.reduceMul, Nat.reduceLT, Nat.reduceLeDiff, Nat.reduceBEq, Int.reduceLE, Int.reduceLT, Int.reduceToNat, reduceCtorEq]
              exact ⟨0, rfl, by omega, rfl, by omega⟩
            · rintro m S h' ⟨rfl, g0, k, g3, hk, rfl, hall⟩
              by_cases hlt : k < s.size
              · have hd : decide ((k : Int) < (s.size : Int)) = true := by simp; omega
                have w7 : IntKind.i64.wrap ((k : Int) + 1) = k + 1 := by rw [wrap64 (by omega) (by omega)]
                obtain ⟨d, hx2⟩ : ∃ d, s.data.toList[k]? = some d := ⟨_, List.getElem?_eq_getElem (by omega)⟩
                have hr2 : s[k]? = some d := by rw [ba_get]; exact hx2
                have bad : midB d = false → nameB s = false := fun e => by
                  by_cases hk0 : k = 0
                  · subst hk0; rw [hx] at hx2; simp at hx2; subst hx2; rw [letB_mid hlet] at e; simp at e
                  · simp [nameB, bytesOk_false hx2 (by simp [okAt, e]; cases hl : letB d <;> simp; rw [letB_mid hl] at e; simp at e)]
                have good : midB d = true → ∃ m', m' < s.size - k ∧ ∃ k' : Nat, (k : Int) + 1 = k' ∧ k' ≤ s.size ∧ m' = s.size - k' ∧ ∀ (i : Nat) (c : UInt8), i < k' → s.data.toList[i]? = some c → midB c = true := fun e => by
                  refine ⟨s.size - (k + 1), by omega, k + 1, by simp, by omega, rfl, fun i c2 hi hw => ?_⟩
                  by_cases hik : i = k
                  · subst hik; rw [hx2] at hw; simp at hw; rw [← hw]; exact e
                  · exact hall i c2 (by omega) hw
                clear hall
                rcases byte_cls3 d with ⟨m1, c1, c2⟩ | ⟨m1, c1, c2, c3, c4, c5, c6⟩ | ⟨c1, c2⟩
                · repeat' (first
                    | (refine a_seq (fun K hK => ?_))
                    | (refine a_block ?_)
                    | ((first | refine a_regionS ?_ | refine a_region (fun K hK => ?_) | refine a_ret ?_); simp (maxSteps := 2000000) only [undef, am0, am1, am2, am3, amb0, amb1, amb2, amb3, amb4, lwn, drn, callee, wantedB, isW, eff, pev, pst0, retPost, resAll, resP, resV, intP, mkV, putC, pbin, sbin, strsEq, peq, pint, pshift, pstr, pun, pconv, isShift, isConstB, app, subS, lay, rowsOf, lkV, keyKind, keyEq, mfind, mput, oInt, isZeroInt, forall_const, exists_eq_left', implies_true, IntKind.bits, ↓reduceIte, Nat.reduceEqDiff, Nat.reduceAdd, Nat.reduceSub, Nat.reduceMul, Nat.reduceLT, Nat.reduceLeDiff, Nat.reduceBEq, Int.reduceLE, Int.reduceLT, Int.reduceToNat, reduceCtorEq, Ty.all, g0, g3, hd, hr2, w7, c1, c2])
                    | (refine a_skip ?_; try simp only [pst0, ↓reduceIte, Nat.reduceEqDiff])
                    | (refine a_exit ?_; try simp only [pst0, ↓reduceIte, Nat.reduceEqDiff])
                    | (refine a_cond _ (by (try simp (maxSteps := 2000000) only [undef, am0, am1, am2, am3, amb0, amb1, amb2, amb3, amb4, lwn, drn, callee, wantedB, isW, eff, pev, pst0, retPost, resAll, resP, resV, intP, mkV, putC, pbin, sbin, strsEq, peq, pint, pshift, pstr, pun, pconv, isShift, isConstB, app, subS, lay, rowsOf, lkV, keyKind, keyEq, mfind, mput, oInt, isZeroInt, forall_const, exists_eq_left', implies_true, IntKind.bits, ↓reduceIte, Nat.reduceEqDiff, Nat.reduceAdd, Nat.reduceSub, Nat.reduceMul, Nat.reduceLT, Nat.reduceLeDiff, Nat.reduceBEq, Int.reduceLE, Int.reduceLT, Int.reduceToNat, reduceCtorEq, Ty.all, g0, g3, hd, hr2, w7, c1, c2]); rfl) (fun hb => ?_) (fun hb => ?_) <;> (try simp only [hb0, decide_eq_true_eq, decide_eq_false_iff_not, reduceCtorEq] at hb) <;> (try (exfalso; omega)))
                    | (with_reducible refine ite_in (fun hb => ?_) (fun hb => ?_) <;> (try simp only [Decidable.not_not] at hb) <;> (try simp only [hb, if_true, if_false, not_false_eq_true, not_true_eq_false, ↓reduceIte]) <;> (try simp only [hb0, decide_eq_true_eq, decide_eq_false_iff_not, reduceCtorEq] at hb) <;> (try (exfalso; omega)))
                    | (refine hK _ _ ?_; clear hK; try simp only [pst0, ↓reduceIte, Nat.reduceEqDiff])
                    | (clear hK; refine hK _ _ ?_; clear hK; try simp only [pst0, ↓reduceIte, Nat.reduceEqDiff])
                    | (clear hK; clear hK; refine hK _ _ ?_; clear hK; try simp only [pst0, ↓reduceIte, Nat.reduceEqDiff])
                    | (clear hK; clear hK; clear hK; refine hK _ _ ?_; clear hK; try simp only [pst0, ↓reduceIte, Nat.reduceEqDiff])
                    | (rw [if_pos]; rotate_left 1; omega; simp (maxSteps := 2000000) only [undef, am0, am1, am2, am3, amb0, amb1, amb2, amb3, amb4, lwn, drn, callee, wantedB, isW, eff, pev, pst0, retPost, resAll, resP, resV, intP, mkV, putC, pbin, sbin, strsEq, peq, pint, pshift, pstr, pun, pconv, isShift, isConstB, app, subS, lay, rowsOf, lkV, keyKind, keyEq, mfind, mput, oInt, isZeroInt, forall_const, exists_eq_left', implies_true, IntKind.bits, ↓reduceIte, Nat.reduceEqDiff, Nat.reduceAdd, Nat.reduceSub, Nat.reduceMul, Nat.reduceLT, Nat.reduceLeDiff, Nat.reduceBEq, Int.reduceLE, Int.reduceLT, Int.reduceToNat, reduceCtorEq, Ty.all, g0, g3, hd, hr2, w7, c1, c2]))
                  have := good m1
                  simpa using this
                · have hbad := bad m1
                  repeat' (first
                    | (refine a_seq (fun K hK => ?_))
                    | (refine a_block ?_)
                    | ((first | refine a_regionS ?_ | refine a_region (fun K hK => ?_) | refine a_ret ?_); simp (maxSteps := 2000000) only [undef, am0, am1, am2, am3, amb0, amb1, amb2, amb3, amb4, lwn, drn, callee, wantedB, isW, eff, pev, pst0, retPost, resAll, resP, resV, intP, mkV, putC, pbin, sbin, strsEq, peq, pint, pshift, pstr, pun, pconv, isShift, isConstB, app, subS, lay, rowsOf, lkV, keyKind, keyEq, mfind, mput, oInt, isZeroInt, forall_const, exists_eq_left', implies_true, IntKind.bits, ↓reduceIte, Nat.reduceEqDiff, Nat.reduceAdd, Nat.reduceSub, Nat.reduceMul, Nat.reduceLT, Nat.reduceLeDiff, Nat.reduceBEq, Int.reduceLE, Int.reduceLT, Int.reduceToNat, reduceCtorEq, Ty.all, g0, g3, hd, hr2, w7, c1, c2, c3, c4, c5, c6])
                    | (refine a_skip ?_; try simp only [pst0, ↓reduceIte, Nat.reduceEqDiff])
                    | (refine a_exit ?_; try simp only [pst0, ↓reduceIte, Nat.reduceEqDiff])
                    | (refine a_cond _ (by (try simp (maxSteps := 2000000) only [undef, am0, am1, am2, am3, amb0, amb1, amb2, amb3, amb4, lwn, drn, callee, wantedB, isW, eff, pev, pst0, retPost, resAll, resP, resV, intP, mkV, putC, pbin, sbin, strsEq, peq, pint, pshift, pstr, pun, pconv, isShift, isConstB, app, subS, lay, rowsOf, lkV, keyKind, keyEq, mfind, mput, oInt, isZeroInt, forall_const, exists_eq_left', implies_true, IntKind.bits, ↓reduceIte, Nat.reduceEqDiff, Nat.reduceAdd, Nat.reduceSub, Nat.reduceMul, Nat.reduceLT, Nat.reduceLeDiff, Nat.reduceBEq, Int.reduceLE, Int.reduceLT, Int.reduceToNat, reduceCtorEq, Ty.all, g0, g3, hd, hr2, w7, c1, c2, c3, c4, c5, c6]); rfl) (fun hb => ?_) (fun hb => ?_) <;> (try simp only [hb0, decide_eq_true_eq, decide_eq_false_iff_not, reduceCtorEq] at hb) <;> (try (exfalso; omega)))
                    | (with_reducible refine ite_in (fun hb => ?_) (fun hb => ?_) <;> (try simp only [Decidable.not_not] at hb) <;> (try simp only [hb, if_true, if_false, not_false_eq_true, not_true_eq_false, ↓reduceIte]) <;> (try simp only [hb0, decide_eq_true_eq, decide_eq_false_iff_not, reduceCtorEq] at hb) <;> (try (exfalso; omega)))
                    | (refine hK _ _ ?_; clear hK; try simp only [pst0, ↓reduceIte, Nat.reduceEqDiff])
                    | (clear hK; refine hK _ _ ?_; clear hK; try simp only [pst0, ↓reduceIte, Nat.reduceEqDiff])
                    | (clear hK; clear hK; refine hK _ _ ?_; clear hK; try simp only [pst0, ↓reduceIte, Nat.reduceEqDiff])
                    | (clear hK; clear hK; clear hK; refine hK _ _ ?_; clear hK; try simp only [pst0, ↓reduceIte, Nat.reduceEqDiff])
                    | (rw [if_pos]; rotate_left 1; omega; simp (maxSteps := 2000000) only [undef, am0, am1, am2, am3, amb0, amb1, amb2, amb3, amb4, lwn, drn, callee, wantedB, isW, eff, pev, pst0, retPost, resAll, resP, resV, intP, mkV, putC, pbin, sbin, strsEq, peq, pint, pshift, pstr, pun, pconv, isShift, isConstB, app, subS, lay, rowsOf, lkV, keyKind, keyEq, mfind, mput, oInt, isZeroInt, forall_const, exists_eq_left', implies_true, IntKind.bits, ↓reduceIte, Nat.reduceEqDiff, Nat.reduceAdd, Nat.reduceSub, Nat.reduceMul, Nat.reduceLT, Nat.reduceLeDiff, Nat.reduceBEq, Int.reduceLE, Int.reduceLT, Int.reduceToNat, reduceCtorEq, Ty.all, g0, g3, hd, hr2, w7, c1, c2, c3, c4, c5, c6]))
                  rw [hbad]
                · rcases byte_cls2 c2 with ⟨m1, c3, c5⟩ | ⟨m1, c3, c5, c6⟩ | ⟨m1, c3, c4⟩ | ⟨m1, c3, c4, c5, c6⟩ | ⟨m1, c3, c4, c5, c6⟩
                  · repeat' (first
                      | (refine a_seq (fun K hK => ?_))
                      | (refine a_block ?_)
                      | ((first | refine a_regionS ?_ | refine a_region (fun K hK => ?_) | refine a_ret ?_); simp (maxSteps := 2000000) only [undef, am0, am1, am2, am3, amb0, amb1, amb2, amb3, amb4, lwn, drn, callee, wantedB, isW, eff, pev, pst0, retPost, resAll, resP, resV, intP, mkV, putC, pbin, sbin, strsEq, peq, pint, pshift, pstr, pun, pconv, isShift, isConstB, app, subS, lay, rowsOf, lkV, keyKind, keyEq, mfind, mput, oInt, isZeroInt, forall_const, exists_eq_left', implies_true, IntKind.bits, ↓reduceIte, Nat.reduceEqDiff, Nat.reduceAdd, Nat.reduceSub, Nat.reduceMul, Nat.reduceLT, Nat.reduceLeDiff, Nat.reduceBEq, Int.reduceLE, Int.reduceLT, Int.reduceToNat, reduceCtorEq, Ty.all, g0, g3, hd, hr2, w7, c1, c3, c5])
                      | (refine a_skip ?_; try simp only [pst0, ↓reduceIte, Nat.reduceEqDiff])
                      | (refine a_exit ?_; try simp only [pst0, ↓reduceIte, Nat.reduceEqDiff])
                      | (refine a_cond _ (by (try simp (maxSteps := 2000000) only [undef, am0, am1, am2, am3, amb0, amb1, amb2, amb3, amb4, lwn, drn, callee, wantedB, isW, eff, pev, pst0, retPost, resAll, resP, resV, intP, mkV, putC, pbin, sbin, strsEq, peq, pint, pshift, pstr, pun, pconv, isShift, isConstB, app, subS, lay, rowsOf, lkV, keyKind, keyEq, mfind, mput, oInt, isZeroInt, forall_const, exists_eq_left', implies_true, IntKind.bits, ↓reduceIte, Nat.reduceEqDiff, Nat.reduceAdd, Nat.reduceSub, Nat.reduceMul, Nat.reduceLT, Nat.reduceLeDiff, Nat.reduceBEq, Int.reduceLE, Int.reduceLT, Int.reduceToNat, reduceCtorEq, Ty.all, g0, g3, hd, hr2, w7, c1, c3, c5]); rfl) (fun hb => ?_) (fun hb => ?_) <;> (try simp only [hb0, decide_eq_true_eq, decide_eq_false_iff_not, reduceCtorEq] at hb) <;> (try (exfalso; omega)))
                      | (with_reducible refine ite_in (fun hb => ?_) (fun hb => ?_) <;> (try simp only [Decidable.not_not] at hb) <;> (try simp only [hb, if_true, if_false, not_false_eq_true, not_true_eq_false, ↓reduceIte]) <;> (try simp only [hb0, decide_eq_true_eq, decide_eq_false_iff_not, reduceCtorEq] at hb) <;> (try (exfalso; omega)))
                      | (refine hK _ _ ?_; clear hK; try simp only [pst0, ↓reduceIte, Nat.reduceEqDiff])
                      | (clear hK; refine hK _ _ ?_; clear hK; try simp only [pst0, ↓reduceIte, Nat.reduceEqDiff])
                      | (clear hK; clear hK; refine hK _ _ ?_; clear hK; try simp only [pst0, ↓reduceIte, Nat.reduceEqDiff])
                      | (clear hK; clear hK; clear hK; refine hK _ _ ?_; clear hK; try simp only [pst0, ↓reduceIte, Nat.reduceEqDiff])
                      | (rw [if_pos]; rotate_left 1; omega; simp (maxSteps := 2000000) only [undef, am0, am1, am2, am3, amb0, amb1, amb2, amb3, amb4, lwn, drn, callee, wantedB, isW, eff, pev, pst0, retPost, resAll, resP, resV, intP, mkV, putC, pbin, sbin, strsEq, peq, pint, pshift, pstr, pun, pconv, isShift, isConstB, app, subS, lay, rowsOf, lkV, keyKind, keyEq, mfind, mput, oInt, isZeroInt, forall_const, exists_eq_left', implies_true, IntKind.bits, ↓reduceIte, Nat.reduceEqDiff, Nat.reduceAdd, Nat.reduceSub, Nat.reduceMul, Nat.reduceLT, Nat.reduceLeDiff, Nat.reduceBEq, Int.reduceLE, Int.reduceLT, Int.reduceToNat, reduceCtorEq, Ty.all, g0, g3, hd, hr2, w7, c1, c3, c5]))
                    have := good m1
                    simpa using this
                  · have hbad := bad m1
                    repeat' (first
                      | (refine a_seq (fun K hK => ?_))
                      | (refine a_block ?_)
                      | ((first | refine a_regionS ?_ | refine a_region (fun K hK => ?_) | refine a_ret ?_); simp (maxSteps := 2000000) only [undef, am0, am1, am2, am3, amb0, amb1, amb2, amb3, amb4, lwn, drn, callee, wantedB, isW, eff, pev, pst0, retPost, resAll, resP, resV, intP, mkV, putC, pbin, sbin, strsEq, peq, pint, pshift, pstr, pun, pconv, isShift, isConstB, app, subS, lay, rowsOf, lkV, keyKind, keyEq, mfind, mput, oInt, isZeroInt, forall_const, exists_eq_left', implies_true, IntKind.bits, ↓reduceIte, Nat.reduceEqDiff, Nat.reduceAdd, Nat.reduceSub, Nat.reduceMul, Nat.reduceLT, Nat.reduceLeDiff, Nat.reduceBEq, Int.reduceLE, Int.reduceLT, Int.reduceToNat, reduceCtorEq, Ty.all, g0, g3, hd, hr2, w7, c1, c3, c5, c6])
                      | (refine a_skip ?_; try simp only [pst0, ↓reduceIte, Nat.reduceEqDiff])
                      | (refine a_exit ?_; try simp only [pst0, ↓reduceIte, Nat.reduceEqDiff])
                      | (refine a_cond _ (by (try simp (maxSteps := 2000000) only [undef, am0, am1, am2, am3, amb0, amb1, amb2, amb3, amb4, lwn, drn, callee, wantedB, isW, eff, pev, pst0, retPost, resAll, resP, resV, intP, mkV, putC, pbin, sbin, strsEq, peq, pint, pshift, pstr, pun, pconv, isShift, isConstB, app, subS, lay, rowsOf, lkV, keyKind, keyEq, mfind, mput, oInt, isZeroInt, forall_const, exists_eq_left', implies_true, IntKind.bits, ↓reduceIte, Nat.reduceEqDiff, Nat.reduceAdd, Nat.reduceSub, Nat.reduceMul, Nat.reduceLT, Nat.reduceLeDiff, Nat.reduceBEq, Int.reduceLE, Int.reduceLT, Int.reduceToNat, reduceCtorEq, Ty.all, g0, g3, hd, hr2, w7, c1, c3, c5, c6]); rfl) (fun hb => ?_) (fun hb => ?_) <;> (try simp only [hb0, decide_eq_true_eq, decide_eq_false_iff_not, reduceCtorEq] at hb) <;> (try (exfalso; omega)))
                      | (with_reducible refine ite_in (fun hb => ?_) (fun hb => ?_) <;> (try simp only [Decidable.not_not] at hb) <;> (try simp only [hb, if_true, if_false, not_false_eq_true, not_true_eq_false, ↓reduceIte]) <;> (try simp only [hb0, decide_eq_true_eq, decide_eq_false_iff_not, reduceCtorEq] at hb) <;> (try (exfalso; omega)))
                      | (refine hK _ _ ?_; clear hK; try simp only [pst0, ↓reduceIte, Nat.reduceEqDiff])
                      | (clear hK; refine hK _ _ ?_; clear hK; try simp only [pst0, ↓reduceIte, Nat.reduceEqDiff])
                      | (clear hK; clear hK; refine hK _ _ ?_; clear hK; try simp only [pst0, ↓reduceIte, Nat.reduceEqDiff])
                      | (clear hK; clear hK; clear hK; refine hK _ _ ?_; clear hK; try simp only [pst0, ↓reduceIte, Nat.reduceEqDiff])
                      | (rw [if_pos]; rotate_left 1; omega; simp (maxSteps := 2000000) only [undef, am0, am1, am2, am3, amb0, amb1, amb2, amb3, amb4, lwn, drn, callee, wantedB, isW, eff, pev, pst0, retPost, resAll, resP, resV, intP, mkV, putC, pbin, sbin, strsEq, peq, pint, pshift, pstr, pun, pconv, isShift, isConstB, app, subS, lay, rowsOf, lkV, keyKind, keyEq, mfind, mput, oInt, isZeroInt, forall_const, exists_eq_left', implies_true, IntKind.bits, ↓reduceIte, Nat.reduceEqDiff, Nat.reduceAdd, Nat.reduceSub, Nat.reduceMul, Nat.reduceLT, Nat.reduceLeDiff, Nat.reduceBEq, Int.reduceLE, Int.reduceLT, Int.reduceToNat, reduceCtorEq, Ty.all, g0, g3, hd, hr2, w7, c1, c3, c5, c6]))
                    rw [hbad]
                  · repeat' (first
                      | (refine a_seq (fun K hK => ?_))
                      | (refine a_block ?_)
                      | ((first | refine a_regionS ?_ | refine a_region (fun K hK => ?_) | refine a_ret ?_); simp (maxSteps := 2000000) only [undef, am0, am1, am2, am3, amb0, amb1, amb2, amb3, amb4, lwn, drn, callee, wantedB, isW, eff, pev, pst0, retPost, resAll, resP, resV, intP, mkV, putC, pbin, sbin, strsEq, peq, pint, pshift, pstr, pun, pconv, isShift, isConstB, app, subS, lay, rowsOf, lkV, keyKind, keyEq, mfind, mput, oInt, isZeroInt, forall_const, exists_eq_left', implies_true, IntKind.bits, ↓reduceIte, Nat.reduceEqDiff, Nat.reduceAdd, Nat.reduceSub, Nat.reduceMul, Nat.reduceLT, Nat.reduceLeDiff, Nat.reduceBEq, Int.reduceLE, Int.reduceLT, Int.reduceToNat, reduceCtorEq, Ty.all, g0, g3, hd, hr2, w7, c1, c3, c4])
                      | (refine a_skip ?_; try simp only [pst0, ↓reduceIte, Nat.reduceEqDiff])
                      | (refine a_exit ?_; try simp only [pst0, ↓reduceIte, Nat.reduceEqDiff])
                      | (refine a_cond _ (by (try simp (maxSteps := 2000000) only [undef, am0, am1, am2, am3, amb0, amb1, amb2, amb3, amb4, lwn, drn, callee, wantedB, isW, eff, pev, pst0, retPost, resAll, resP, resV, intP, mkV, putC, pbin, sbin, strsEq, peq, pint, pshift, pstr, pun, pconv, isShift, isConstB, app, subS, lay, rowsOf, lkV, keyKind, keyEq, mfind, mput, oInt, isZeroInt, forall_const, exists_eq_left', implies_true, IntKind.bits, ↓reduceIte, Nat.reduceEqDiff, Nat.reduceAdd, Nat.reduceSub, Nat.reduceMul, Nat.reduceLT, Nat.reduceLeDiff, Nat.reduceBEq, Int.reduceLE, Int.reduceLT, Int.reduceToNat, reduceCtorEq, Ty.all, g0, g3, hd, hr2, w7, c1, c3, c4]); rfl) (fun hb => ?_) (fun hb => ?_) <;> (try simp only [hb0, decide_eq_true_eq, decide_eq_false_iff_not, reduceCtorEq] at hb) <;> (try (exfalso; omega)))
                      | (with_reducible refine ite_in (fun hb => ?_) (fun hb => ?_) <;> (try simp only [Decidable.not_not] at hb) <;> (try simp only [hb, if_true, if_false, not_false_eq_true, not_true_eq_false, ↓reduceIte]) <;> (try simp only [hb0, decide_eq_true_eq, decide_eq_false_iff_not, reduceCtorEq] at hb) <;> (try (exfalso; omega)))
                      | (refine hK _ _ ?_; clear hK; try simp only [pst0, ↓reduceIte, Nat.reduceEqDiff])
                      | (clear hK; refine hK _ _ ?_; clear hK; try simp only [pst0, ↓reduceIte, Nat.reduceEqDiff])
                      | (clear hK; clear hK; refine hK _ _ ?_; clear hK; try simp only [pst0, ↓reduceIte, Nat.reduceEqDiff])
                      | (clear hK; clear hK; clear hK; refine hK _ _ ?_; clear hK; try simp only [pst0, ↓reduceIte, Nat.reduceEqDiff])
                      | (rw [if_pos]; rotate_left 1; omega; simp (maxSteps := 2000000) only [undef, am0, am1, am2, am3, amb0, amb1, amb2, amb3, amb4, lwn, drn, callee, wantedB, isW, eff, pev, pst0, retPost, resAll, resP, resV, intP, mkV, putC, pbin, sbin, strsEq, peq, pint, pshift, pstr, pun, pconv, isShift, isConstB, app, subS, lay, rowsOf, lkV, keyKind, keyEq, mfind, mput, oInt, isZeroInt, forall_const, exists_eq_left', implies_true, IntKind.bits, ↓reduceIte, Nat.reduceEqDiff, Nat.reduceAdd, Nat.reduceSub, Nat.reduceMul, Nat.reduceLT, Nat.reduceLeDiff, Nat.reduceBEq, Int.reduceLE, Int.reduceLT, Int.reduceToNat, reduceCtorEq, Ty.all, g0, g3, hd, hr2, w7, c1, c3, c4]))
                    have := good m1
                    simpa using this
                  · repeat' (first
                      | (refine a_seq (fun K hK => ?_))
                      | (refine a_block ?_)
                      | ((first | refine a_regionS ?_ | refine a_region (fun K hK => ?_) | refine a_ret ?_); simp (maxSteps := 2000000) only [undef, am0, am1, am2, am3, amb0, amb1, amb2, amb3, amb4, lwn, drn, callee, wantedB, isW, eff, pev, pst0, retPost, resAll, resP, resV, intP, mkV, putC, pbin, sbin, strsEq, peq, pint, pshift, pstr, pun, pconv, isShift, isConstB, app, subS, lay, rowsOf, lkV, keyKind, keyEq, mfind, mput, oInt, isZeroInt, forall_const, exists_eq_left', implies_true, IntKind.bits, ↓reduceIte, Nat.reduceEqDiff, Nat.reduceAdd, Nat.reduceSub, Nat.reduceMul, Nat.reduceLT, Nat.reduceLeDiff, Nat.reduceBEq, Int.reduceLE, Int.reduceLT, Int.reduceToNat, reduceCtorEq, Ty.all, g0, g3, hd, hr2, w7, c1, c3, c4, c5, c6])
                      | (refine a_skip ?_; try simp only [pst0, ↓reduceIte, Nat.reduceEqDiff])
                      | (refine a_exit ?_; try simp only [pst0, ↓reduceIte, Nat.reduceEqDiff])
                      | (refine a_cond _ (by (try simp (maxSteps := 2000000) only [undef, am0, am1, am2, am3, amb0, amb1, amb2, amb3, amb4, lwn, drn, callee, wantedB, isW, eff, pev, pst0, retPost, resAll, resP, resV, intP, mkV, putC, pbin, sbin, strsEq, peq, pint, pshift, pstr, pun, pconv, isShift, isConstB, app, subS, lay, rowsOf, lkV, keyKind, keyEq, mfind, mput, oInt, isZeroInt, forall_const, exists_eq_left', implies_true, IntKind.bits, ↓reduceIte, Nat.reduceEqDiff, Nat.reduceAdd, Nat.reduceSub, Nat.reduceMul, Nat.reduceLT, Nat.reduceLeDiff, Nat.reduceBEq, Int.reduceLE, Int.reduceLT, Int.reduceToNat, reduceCtorEq, Ty.all, g0, g3, hd, hr2, w7, c1, c3, c4, c5, c6]); rfl) (fun hb => ?_) (fun hb => ?_) <;> (try simp only [hb0, decide_eq_true_eq, decide_eq_false_iff_not, reduceCtorEq] at hb) <;> (try (exfalso; omega)))
                      | (with_reducible refine ite_in (fun hb => ?_) (fun hb => ?_) <;> (try simp only [Decidable.not_not] at hb) <;> (try simp only [hb, if_true, if_false, not_false_eq_true, not_true_eq_false, ↓reduceIte]) <;> (try simp only [hb0, decide_eq_true_eq, decide_eq_false_iff_not, reduceCtorEq] at hb) <;> (try (exfalso; omega)))
                      | (refine hK _ _ ?_; clear hK; try simp only [pst0, ↓reduceIte, Nat.reduceEqDiff])
                      | (clear hK; refine hK _ _ ?_; clear hK; try simp only [pst0, ↓reduceIte, Nat.reduceEqDiff])
                      | (clear hK; clear hK; refine hK _ _ ?_; clear hK; try simp only [pst0, ↓reduceIte, Nat.reduceEqDiff])
                      | (clear hK; clear hK; clear hK; refine hK _ _ ?_; clear hK; try simp only [pst0, ↓reduceIte, Nat.reduceEqDiff])
                      | (rw [if_pos]; rotate_left 1; omega; simp (maxSteps := 2000000) only [undef, am0, am1, am2, am3, amb0, amb1, amb2, amb3, amb4, lwn, drn, callee, wantedB, isW, eff, pev, pst0, retPost, resAll, resP, resV, intP, mkV, putC, pbin, sbin, strsEq, peq, pint, pshift, pstr, pun, pconv, isShift, isConstB, app, subS, lay, rowsOf, lkV, keyKind, keyEq, mfind, mput, oInt, isZeroInt, forall_const, exists_eq_left', implies_true, IntKind.bits, ↓reduceIte, Nat.reduceEqDiff, Nat.reduceAdd, Nat.reduceSub, Nat.reduceMul, Nat.reduceLT, Nat.reduceLeDiff, Nat.reduceBEq, Int.reduceLE, Int.reduceLT, Int.reduceToNat, reduceCtorEq, Ty.all, g0, g3, hd, hr2, w7, c1, c3, c4, c5, c6]))
                    have := good m1
                    simpa using this
                  · have hbad := bad m1
                    repeat' (first
                      | (refine a_seq (fun K hK => ?_))
                      | (refine a_block ?_)
                      | ((first | refine a_regionS ?_ | refine a_region (fun K hK => ?_) | refine a_ret ?_); simp (maxSteps := 2000000) only [undef, am0, am1, am2, am3, amb0, amb1, amb2, amb3, amb4, lwn, drn, callee, wantedB, isW, eff, pev, pst0, retPost, resAll, resP, resV, intP, mkV, putC, pbin, sbin, strsEq, peq, pint, pshift, pstr, pun, pconv, isShift, isConstB, app, subS, lay, rowsOf, lkV, keyKind, keyEq, mfind, mput, oInt, isZeroInt, forall_const, exists_eq_left', implies_true, IntKind.bits, ↓reduceIte, Nat.reduceEqDiff, Nat.reduceAdd, Nat.reduceSub, Nat.reduceMul, Nat.reduceLT, Nat.reduceLeDiff, Nat.reduceBEq, Int.reduceLE, Int.reduceLT, Int.reduceToNat, reduceCtorEq, Ty.all, g0, g3, hd, hr2, w7, c1, c3, c4, c5, c6])
                      | (refine a_skip ?_; try simp only [pst0, ↓reduceIte, Nat.reduceEqDiff])
                      | (refine a_exit ?_; try simp only [pst0, ↓reduceIte, Nat.reduceEqDiff])
                      | (refine a_cond _ (by (try simp (maxSteps := 2000000) only [undef, am0, am1, am2, am3, amb0, amb1, amb2, amb3, amb4, lwn, drn, callee, wantedB, isW, eff, pev, pst0, retPost, resAll, resP, resV, intP, mkV, putC, pbin, sbin, strsEq, peq, pint, pshift, pstr, pun, pconv, isShift, isConstB, app, subS, lay, rowsOf, lkV, keyKind, keyEq, mfind, mput, oInt, isZeroInt, forall_const, exists_eq_left', implies_true, IntKind.bits, ↓reduceIte, Nat.reduceEqDiff, Nat.reduceAdd, Nat.reduceSub, Nat.reduceMul, Nat.reduceLT, Nat.reduceLeDiff, Nat.reduceBEq, Int.reduceLE, Int.reduceLT, Int.reduceToNat, reduceCtorEq, Ty.all, g0, g3, hd, hr2, w7, c1, c3, c4, c5, c6]); rfl) (fun hb => ?_) (fun hb => ?_) <;> (try simp only [hb0, decide_eq_true_eq, decide_eq_false_iff_not, reduceCtorEq] at hb) <;> (try (exfalso; omega)))
                      | (with_reducible refine ite_in (fun hb => ?_) (fun hb => ?_) <;> (try simp only [Decidable.not_not] at hb) <;> (try simp only [hb, if_true, if_false, not_false_eq_true, not_true_eq_false, ↓reduceIte]) <;> (try simp only [hb0, decide_eq_true_eq, decide_eq_false_iff_not, reduceCtorEq] at hb) <;> (try (exfalso; omega)))
                      | (refine hK _ _ ?_; clear hK; try simp only [pst0, ↓reduceIte, Nat.reduceEqDiff])
                      | (clear hK; refine hK _ _ ?_; clear hK; try simp only [pst0, ↓reduceIte, Nat.reduceEqDiff])
                      | (clear hK; clear hK; refine hK _ _ ?_; clear hK; try simp only [pst0, ↓reduceIte, Nat.reduceEqDiff])
                      | (clear hK; clear hK; clear hK; refine hK _ _ ?_; clear hK; try simp only [pst0, ↓reduceIte, Nat.reduceEqDiff])
                      | (rw [if_pos]; rotate_left 1; omega; simp (maxSteps := 2000000) only [undef, am0, am1, am2, am3, amb0, amb1, amb2, amb3, amb4, lwn, drn, callee, wantedB, isW, eff, pev, pst0, retPost, resAll, resP, resV, intP, mkV, putC, pbin, sbin, strsEq, peq, pint, pshift, pstr, pun, pconv, isShift, isConstB, app, subS, lay, rowsOf, lkV, keyKind, keyEq, mfind, mput, oInt, isZeroInt, forall_const, exists_eq_left', implies_true, IntKind.bits, ↓reduceIte, Nat.reduceEqDiff, Nat.reduceAdd, Nat.reduceSub, Nat.reduceMul, Nat.reduceLT, Nat.reduceLeDiff, Nat.reduceBEq, Int.reduceLE, Int.reduceLT, Int.reduceToNat, reduceCtorEq, Ty.all, g0, g3, hd, hr2, w7, c1, c3, c4, c5, c6]))
                    rw [hbad]
              · have hd : decide ((k : Int) < (s.size : Int)) = false := by simp; omega
                have hok : bytesOkB s.data.toList = true := by
                  refine bytesOk_true fun j d hj => ?_
                  by_cases hj0 : j = 0
                  · subst hj0; rw [hx] at hj; simp at hj; subst hj; simp [okAt, hlet]
                  · simp [okAt, hj0, hall j d (by have := (List.getElem?_eq_some_iff.1 hj).1; omega) hj]
                have hn : nameB s = true := by
                  have e1 : decide (0 < s.size) = true := by simp; omega
                  have e2 : decide (s.size ≤ 32) = true := by simp; omega
                  simp only [nameB, hok, b5, e1, e2]; rfl
                clear hall
                repeat' (first
                  | (refine a_seq (fun K hK => ?_))
                  | (refine a_block ?_)
                  | ((first | refine a_regionS ?_ | refine a_region (fun K hK => ?_) | refine a_ret ?_); simp (maxSteps := 2000000) only [undef, am0, am1, am2, am3, amb0, amb1, amb2, amb3, amb4, lwn, drn, callee, wantedB, isW, eff, pev, pst0, retPost, resAll, resP, resV, intP, mkV, putC, pbin, sbin, strsEq, peq, pint, pshift, pstr, pun, pconv, isShift, isConstB, app, subS, lay, rowsOf, lkV, keyKind, keyEq, mfind, mput, oInt, isZeroInt, forall_const, exists_eq_left', implies_true, IntKind.bits, ↓reduceIte, Nat.reduceEqDiff, Nat.reduceAdd, Nat.reduceSub, Nat.reduceMul, Nat.reduceLT, Nat.reduceLeDiff, Nat.reduceBEq, Int.reduceLE, Int.reduceLT, Int.reduceToNat, reduceCtorEq, Ty.all, g0, g3, hd])
                  | (refine a_skip ?_; try simp only [pst0, ↓reduceIte, Nat.reduceEqDiff])
                  | (refine a_exit ?_; try simp only [pst0, ↓reduceIte, Nat.reduceEqDiff])
                  | (refine a_cond _ (by (try simp (maxSteps := 2000000) only [undef, am0, am1, am2, am3, amb0, amb1, amb2, amb3, amb4, lwn, drn, callee, wantedB, isW, eff, pev, pst0, retPost, resAll, resP, resV, intP, mkV, putC, pbin, sbin, strsEq, peq, pint, pshift, pstr, pun, pconv, isShift, isConstB, app, subS, lay, rowsOf, lkV, keyKind, keyEq, mfind, mput, oInt, isZeroInt, forall_const, exists_eq_left', implies_true, IntKind.bits, ↓reduceIte, Nat.reduceEqDiff, Nat.reduceAdd, Nat.reduceSub, Nat.reduceMul, Nat.reduceLT, Nat.reduceLeDiff, Nat.reduceBEq, Int.reduceLE, Int.reduceLT, Int.reduceToNat, reduceCtorEq, Ty.all, g0, g3, hd]); rfl) (fun hb => ?_) (fun hb => ?_) <;> (try simp only [hb0, decide_eq_true_eq, decide_eq_false_iff_not, reduceCtorEq] at hb) <;> (try (exfalso; omega)))
                  | (with_reducible refine ite_in (fun hb => ?_) (fun hb => ?_) <;> (try simp only [Decidable.not_not] at hb) <;> (try simp only [hb, if_true, if_false, not_false_eq_true, not_true_eq_false, ↓reduceIte]) <;> (try simp only [hb0, decide_eq_true_eq, decide_eq_false_iff_not, reduceCtorEq] at hb) <;> (try (exfalso; omega)))
                  | (refine hK _ _ ?_; clear hK; try simp only [pst0, ↓reduceIte, Nat.reduceEqDiff])
                  | (clear hK; refine hK _ _ ?_; clear hK; try simp only [pst0, ↓reduceIte, Nat.reduceEqDiff])
                  | (clear hK; clear hK; refine hK _ _ ?_; clear hK; try simp only [pst0, ↓reduceIte, Nat.reduceEqDiff])
                  | (clear hK; clear hK; clear hK; refine hK _ _ ?_; clear hK; try simp only [pst0, ↓reduceIte, Nat.reduceEqDiff])
                  | (rw [if_pos]; rotate_left 1; omega; simp (maxSteps := 2000000) only [undef, am0, am1, am2, am3, amb0, amb1, amb2, amb3, amb4, lwn, drn, callee, wantedB, isW, eff, pev, pst0, retPost, resAll, resP, resV, intP, mkV, putC, pbin, sbin, strsEq, peq, pint, pshift, pstr, pun, pconv, isShift, isConstB, app, subS, lay, rowsOf, lkV, keyKind, keyEq, mfind, mput, oInt, isZeroInt, forall_const, exists_eq_left', implies_true, IntKind.bits, ↓reduceIte, Nat.reduceEqDiff, Nat.reduceAdd, Nat.reduceSub, Nat.reduceMul, Nat.reduceLT, Nat.reduceLeDiff, Nat.reduceBEq, Int.reduceLE, Int.reduceLT, Int.reduceToNat, reduceCtorEq, Ty.all, g0, g3, hd]))
                rw [hn]
end Go.Proofs.YtdnpmfjfgamaeaaGreat
