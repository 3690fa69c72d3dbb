/- pack.Pack: what it returns. -/
import Derived.Test.YtmooliecnbhbjaaPkNew
set_option linter.unusedVariables false
set_option linter.unusedSimpArgs false
set_option linter.unusedSectionVars false
namespace Go.Proofs.Ytmooliecnbhbjaa
open Go.AM
set_option maxHeartbeats 1000000
set_option maxRecDepth 20000

def nilS : PV := .sc (.slice none 0 0)
def putF (ws : List (BitVec 64)) (f : Fld) (x : Int) : List (BitVec 64) := ws.set f.word ((ws.getD f.word 0) ||| (BitVec.ofInt 64 x <<< f.bit))
def packL (l : List (Fld × Int)) (ws : List (BitVec 64)) : List (BitVec 64) := l.foldl (fun ws p => putF ws p.1 p.2) ws
def properM (xs ss : List Int) : Bool := decide (ss.length = xs.length) && (ss.zip xs).all fun p => decide (0 ≤ p.1) && decide (p.1 < p.2)
def packW (xs ss : List Int) : List (BitVec 64) := packL ((fieldsM xs).zip ss) (List.replicate (wordsM xs) 0)
def packM (xs ss : List Int) : PV := if properM xs ss = true then .tup [.imm 1 (rowsU (packW xs ss)), nilE] else .tup [nilS, errPV 2]
theorem packL_len (l : List (Fld × Int)) (ws : List (BitVec 64)) : (packL l ws).length = ws.length := by
  induction l generalizing ws with
  | nil => rfl
  | cons x l ih =>
    have := ih (putF ws x.1 x.2)
    simp only [packL, List.foldl_cons] at this ⊢
    rw [this]; simp [putF]
theorem fieldsFrom_get (wb : Nat × Nat) (xs : List Int) (hb : wb.2 ≤ 64) {k : Nat} (hk : k < xs.length) : ∃ f, (fieldsFrom wb xs)[k]? = some f ∧ f.size = xs[k] ∧ f.width = widthM xs[k] ∧ f.bit + f.width ≤ 64 ∧ f.word ≤ (endFrom wb xs).1 ∧ wb.1 ≤ (endFrom wb xs).1 := by
  induction xs generalizing wb k with
  | nil => simp at hk
  | cons x xs ih =>
    have hx := widthM_le x
    have hn : (nextF wb x).bit + (nextF wb x).width ≤ 64 ∧ wb.1 ≤ (nextF wb x).word ∧ (nextF wb x).size = x ∧ (nextF wb x).width = widthM x := by
      simp only [nextF]; split <;> simp <;> omega
    have hw : (nextF wb x).word ≤ (endFrom ((nextF wb x).word, (nextF wb x).bit + (nextF wb x).width) xs).1 := by
      clear ih hk
      have : ∀ (ys : List Int) (v : Nat × Nat), v.1 ≤ (endFrom v ys).1 := by
        intro ys
        induction ys with
        | nil => intro v; simp [endFrom]
        | cons y ys ih =>
          intro v
          have := ih ((nextF v y).word, (nextF v y).bit + (nextF v y).width)
          have h2 : v.1 ≤ (nextF v y).word := by simp only [nextF]; split <;> simp
          simp only [endFrom] at this ⊢
          omega
      exact this xs (_, _)
    cases k with
    | zero => exact ⟨nextF wb x, rfl, hn.2.2.1, hn.2.2.2, hn.1, by simp only [endFrom]; exact hw, by simp only [endFrom]; omega⟩
    | succ k =>
      obtain ⟨f, h1, h2, h3, h4, h5, h6⟩ := ih ((nextF wb x).word, (nextF wb x).bit + (nextF wb x).width) hn.1 (k := k) (by simpa using hk)
      exact ⟨f, by simpa [fieldsFrom] using h1, by simpa using h2, by simpa using h3, h4, by simp only [endFrom]; exact h5, by simp only [endFrom]; omega⟩
theorem fieldsM_get {xs : List Int} {k : Nat} (hk : k < xs.length) : ∃ f, (fieldsM xs)[k]? = some f ∧ f.size = xs[k] ∧ f.width = widthM xs[k] ∧ f.bit + f.width ≤ 64 ∧ f.word < wordsM xs := by
  obtain ⟨f, h1, h2, h3, h4, h5, _⟩ := fieldsFrom_get (0, 0) xs (by simp) hk
  exact ⟨f, h1, h2, h3, h4, Nat.lt_succ_of_le h5⟩
theorem fieldsM_len (xs : List Int) : (fieldsM xs).length = xs.length := fieldsFrom_len _ _
theorem wordsM_le (xs : List Int) : 1 ≤ wordsM xs ∧ wordsM xs ≤ xs.length + 1 := by
  have := endFrom_le (0, 0) xs (by simp)
  simp only [wordsM, endM]; omega

theorem rowsU_sc (l : List (BitVec 64)) : ∀ r ∈ rowsU l, ∀ p ∈ r, ∃ v, p = PV.sc v := by
  intro r hr p hp
  obtain ⟨f, _, rfl⟩ := List.mem_map.1 hr
  simp only [uPV, List.mem_cons, List.not_mem_nil, or_false] at hp
  exact ⟨_, hp⟩
theorem pack_nil_c {h : Heap} {p : PV} : PCall Try.prog 20 [nilP, p] h fun r h' => r = .tup [nilS, errPV 3] ∧ h' = h := by
  refine pcall_body (ow := fun _ => false) (wf := fun _ => false) Ty.mixed Try.func20 rfl Ty.hb_20 (by rw [Try.ntmps20]; simp) ?_
  rw [Try.ntmps20, Try.results20]
  unfold nilP
  repeat' (first
    | (refine a_seq (fun K hK => ?_))
    | (refine a_block ?_)
    | (first | refine a_regionS ?_ | refine a_drawS (by decide +kernel) ?_ | refine a_region (fun K hK => ?_) | refine a_draw (by decide +kernel) (fun K hK => ?_) | refine a_ret ?_)
    | (refine a_skip ?_; try simp only [pst0, ↓reduceIte, Nat.reduceEqDiff])
    | (refine a_exit ?_; try simp only [pst0, ↓reduceIte, Nat.reduceEqDiff])
    | (refine a_cond _ (by (try simp (maxSteps := 2000000) only [am0, am1, am2, am3, amb0, amb1, amb2, amb3, amb4, lwn, drn, callee, wantedB, isW, eff, pev, pst0, retPost, resAll, resP, resV, intP, mkV, putC, pbin, peq, pint, pshift, pstr, pun, pconv, isShift, isConstB, app, subS, lay, rowsOf, lkV, keyKind, keyEq, mfind, mput, oInt, isZeroInt, forall_const, exists_eq_left', implies_true, IntKind.bits, ↓reduceIte, Nat.reduceEqDiff, Nat.reduceAdd, Nat.reduceSub, Nat.reduceMul, Nat.reduceLT, Nat.reduceLeDiff, Nat.reduceBEq, Int.reduceLE, Int.reduceLT, Int.reduceToNat, reduceCtorEq, Ty.all]); rfl) (fun hb => ?_) (fun hb => ?_) <;> (try simp only [hb0, decide_eq_true_eq, decide_eq_false_iff_not, reduceCtorEq] at hb) <;> (try (exfalso; omega)))
    | (with_reducible refine ite_in (fun hb => ?_) (fun hb => ?_) <;> (try simp only [Decidable.not_not] at hb) <;> (try simp only [hb, if_true, if_false, not_false_eq_true, not_true_eq_false, ↓reduceIte]) <;> (try simp only [hb0, decide_eq_true_eq, decide_eq_false_iff_not, reduceCtorEq] at hb) <;> (try (exfalso; omega)))
    | (refine hK _ _ ?_; clear hK; try simp only [pst0, ↓reduceIte, Nat.reduceEqDiff])
    | (clear hK; refine hK _ _ ?_; clear hK; try simp only [pst0, ↓reduceIte, Nat.reduceEqDiff])
    | (clear hK; clear hK; refine hK _ _ ?_; clear hK; try simp only [pst0, ↓reduceIte, Nat.reduceEqDiff])
    | (clear hK; clear hK; clear hK; refine hK _ _ ?_; clear hK; try simp only [pst0, ↓reduceIte, Nat.reduceEqDiff])
    | (with_reducible refine a_past _ rfl (by decide +kernel) ?_)
    | (with_reducible refine a_past2 (by simp only [List.forall_mem_cons, am0, am1, am2, am3, amb0, amb1, amb2, amb3, amb4, lwn, drn, callee, wantedB, isW, eff, pev, pst0, retPost, resAll, resP, resV, intP, mkV, putC, pbin, peq, pint, pshift, pstr, pun, pconv, isShift, isConstB, app, subS, lay, rowsOf, lkV, keyKind, keyEq, mfind, mput, oInt, isZeroInt, forall_const, exists_eq_left', implies_true, IntKind.bits, ↓reduceIte, Nat.reduceEqDiff, Nat.reduceAdd, Nat.reduceSub, Nat.reduceMul, Nat.reduceLT, Nat.reduceLeDiff, Nat.reduceBEq, Int.reduceLE, Int.reduceLT, Int.reduceToNat, reduceCtorEq, Ty.all]; (repeat' apply And.intro) <;> first | trivial | exact .inl (by decide +kernel)) ?_)
    | (rw [if_pos]; rotate_left 1; omega)
    | (simp (maxSteps := 2000000) only [am0, am1, am2, am3, amb0, amb1, amb2, amb3, amb4, lwn, drn, callee, wantedB, isW, eff, pev, pst0, retPost, resAll, resP, resV, intP, mkV, putC, pbin, peq, pint, pshift, pstr, pun, pconv, isShift, isConstB, app, subS, lay, rowsOf, lkV, keyKind, keyEq, mfind, mput, oInt, isZeroInt, forall_const, exists_eq_left', implies_true, IntKind.bits, ↓reduceIte, Nat.reduceEqDiff, Nat.reduceAdd, Nat.reduceSub, Nat.reduceMul, Nat.reduceLT, Nat.reduceLeDiff, Nat.reduceBEq, Int.reduceLE, Int.reduceLT, Int.reduceToNat, reduceCtorEq, Ty.all]))
  rfl

theorem pack_c {h : Heap} {xs ss : List Int} {p : PV} (hp : Sl h 1 p (rowsI ss)) (hx : xs.length ≤ 64) : PCall Try.prog 20 [packerPV xs, p] h fun r h' => r = packM xs ss ∧ h' = h := by
  refine pcall_wf Ty.hb_20 (fun hwf => ?_)
  refine pcall_len hp (by simp) Ty.hb_20 (fun hl => ?_)
  rw [rowsI_len] at hl
  refine PCall.drop ?_
  have hlen := lenP_sl hp
  rw [rowsI_len] at hlen
  have hlk := hp.lk
  have hw := wordsM_le xs
  have hfl := fieldsM_len xs
  have hw0 : ¬ ((wordsM xs : Int) < 0) := by omega
  have hwn := Int.toNat_natCast (wordsM xs)
  unfold packerPV
  refine pcall_body (ow := fun _ => false) (wf := fun _ => false) Ty.mixed Try.func20 rfl Ty.hb_20 (by rw [Try.ntmps20]; simp) ?_
  rw [Try.ntmps20, Try.results20]
  repeat' (first
    | (refine a_seq (fun K hK => ?_))
    | (refine a_block ?_)
    | (first | refine a_regionS ?_ | refine a_drawS (by decide +kernel) ?_ | refine a_region (fun K hK => ?_) | refine a_draw (by decide +kernel) (fun K hK => ?_) | refine a_ret ?_)
    | (refine a_skip ?_; try simp only [pst0, ↓reduceIte, Nat.reduceEqDiff])
    | (refine a_exit ?_; try simp only [pst0, ↓reduceIte, Nat.reduceEqDiff])
    | (refine a_cond _ (by (try simp (maxSteps := 2000000) only [am0, am1, am2, am3, amb0, amb1, amb2, amb3, amb4, lwn, drn, callee, wantedB, isW, eff, pev, pst0, retPost, resAll, resP, resV, intP, mkV, putC, pbin, peq, pint, pshift, pstr, pun, pconv, isShift, isConstB, app, subS, lay, rowsOf, lkV, keyKind, keyEq, mfind, mput, oInt, isZeroInt, forall_const, exists_eq_left', implies_true, IntKind.bits, ↓reduceIte, Nat.reduceEqDiff, Nat.reduceAdd, Nat.reduceSub, Nat.reduceMul, Nat.reduceLT, Nat.reduceLeDiff, Nat.reduceBEq, Int.reduceLE, Int.reduceLT, Int.reduceToNat, reduceCtorEq, Ty.all, hlen, hlk, hfl, iPV, hw0, hwn]); rfl) (fun hb => ?_) (fun hb => ?_) <;> (try simp only [hb0, decide_eq_true_eq, decide_eq_false_iff_not, reduceCtorEq] at hb) <;> (try (exfalso; omega)))
    | (with_reducible refine ite_in (fun hb => ?_) (fun hb => ?_) <;> (try simp only [Decidable.not_not] at hb) <;> (try simp only [hb, if_true, if_false, not_false_eq_true, not_true_eq_false, ↓reduceIte]) <;> (try simp only [hb0, decide_eq_true_eq, decide_eq_false_iff_not, reduceCtorEq] at hb) <;> (try (exfalso; omega)))
    | (refine hK _ _ ?_; clear hK; try simp only [pst0, ↓reduceIte, Nat.reduceEqDiff])
    | (clear hK; refine hK _ _ ?_; clear hK; try simp only [pst0, ↓reduceIte, Nat.reduceEqDiff])
    | (clear hK; clear hK; refine hK _ _ ?_; clear hK; try simp only [pst0, ↓reduceIte, Nat.reduceEqDiff])
    | (clear hK; clear hK; clear hK; refine hK _ _ ?_; clear hK; try simp only [pst0, ↓reduceIte, Nat.reduceEqDiff])
    | (with_reducible refine a_past _ rfl (by decide +kernel) ?_)
    | (with_reducible refine a_past2 (by simp only [List.forall_mem_cons, am0, am1, am2, am3, amb0, amb1, amb2, amb3, amb4, lwn, drn, callee, wantedB, isW, eff, pev, pst0, retPost, resAll, resP, resV, intP, mkV, putC, pbin, peq, pint, pshift, pstr, pun, pconv, isShift, isConstB, app, subS, lay, rowsOf, lkV, keyKind, keyEq, mfind, mput, oInt, isZeroInt, forall_const, exists_eq_left', implies_true, IntKind.bits, ↓reduceIte, Nat.reduceEqDiff, Nat.reduceAdd, Nat.reduceSub, Nat.reduceMul, Nat.reduceLT, Nat.reduceLeDiff, Nat.reduceBEq, Int.reduceLE, Int.reduceLT, Int.reduceToNat, reduceCtorEq, Ty.all, hlen, hlk, hfl, iPV, hw0, hwn]; (repeat' apply And.intro) <;> first | trivial | exact .inl (by decide +kernel)) ?_)
    | (rw [if_pos]; rotate_left 1; omega)
    | (simp (maxSteps := 2000000) only [am0, am1, am2, am3, amb0, amb1, amb2, amb3, amb4, lwn, drn, callee, wantedB, isW, eff, pev, pst0, retPost, resAll, resP, resV, intP, mkV, putC, pbin, peq, pint, pshift, pstr, pun, pconv, isShift, isConstB, app, subS, lay, rowsOf, lkV, keyKind, keyEq, mfind, mput, oInt, isZeroInt, forall_const, exists_eq_left', implies_true, IntKind.bits, ↓reduceIte, Nat.reduceEqDiff, Nat.reduceAdd, Nat.reduceSub, Nat.reduceMul, Nat.reduceLT, Nat.reduceLeDiff, Nat.reduceBEq, Int.reduceLE, Int.reduceLT, Int.reduceToNat, reduceCtorEq, Ty.all, hlen, hlk, hfl, iPV, hw0, hwn]))
  · refine ⟨packM xs ss, h, ⟨rfl, rfl⟩, ?_, Nat.le_refl _, fun id o ho => ⟨ho, hwf id (by rw [ho]; rfl), .inl ho⟩⟩
    have : ¬ properM xs ss = true := by simp only [properM, Bool.and_eq_true, decide_eq_true_eq]; omega
    unfold packM
    rw [if_neg this]
    simp [FrzTo, FrzL, nilS, errPV]
  have hss : ss.length = xs.length := by omega
  refine a_loop (fun m s h' => s 1 = p ∧ s 6 = .own h.next 0 (wordsM xs) ∧ s 29 = .imm 4 ((fieldsM xs).map fldCells) ∧ s 30 = .sc (.int .i64 xs.length) ∧ Keep h h' ∧ h.next < h'.next ∧ ∃ k : Nat, s 31 = .sc (.int .i64 k) ∧ k ≤ xs.length ∧ m = xs.length - k ∧
    ((ss.zip xs).take k).all (fun p => decide (0 ≤ p.1) && decide (p.1 < p.2)) = true ∧ h'.obj h.next = some (.arr 1 (rowsU (packL (((fieldsM xs).zip ss).take k) (List.replicate (wordsM xs) 0))))) xs.length ?_ ?_
  · try simp only [am0, am1, am2, am3, amb0, amb1, amb2, amb3, amb4, lwn, drn, callee, wantedB, isW, eff, pev, pst0, retPost, resAll, resP, resV, intP, mkV, putC, pbin, peq, pint, pshift, pstr, pun, pconv, isShift, isConstB, app, subS, lay, rowsOf, lkV, keyKind, keyEq, mfind, mput, oInt, isZeroInt, forall_const, exists_eq_left', implies_true, IntKind.bits, ↓reduceIte, Nat.reduceEqDiff, Nat.reduceAdd, Nat.reduceSub, Nat.reduceMul, Nat.reduceLT, Nat.reduceLeDiff, Nat.reduceBEq, Int.reduceLE, Int.reduceLT, Int.reduceToNat, reduceCtorEq]
    refine ⟨keep_new (Keep.refl h), by omega, 0, rfl, by omega, rfl, rfl, ?_⟩
    simp [packL, rowsU, uPV]
  · rintro m s h' ⟨h1, h6, h29, h30, hkp, hnx, k, h31, hk, rfl, hall, hob⟩
    have same' : ∀ (id : Nat) (o : AObj), h.obj id = some o → h'.obj id = some o ∧ id < h.next ∧ (h.obj id = some o ∨ inNO h.next o) := fun id o ho => by
      have := hwf id (by rw [ho]; rfl)
      exact ⟨by rw [hkp.2 id this]; exact ho, this, .inl ho⟩
    by_cases hlt : k < xs.length
    · obtain ⟨F, hF, hF1, hF2, hF3, hF4⟩ := fieldsM_get hlt
      have hFg : ((fieldsM xs).map fldCells)[k]? = some (fldCells F) := by rw [List.getElem?_map, hF]; rfl
      obtain ⟨q, hq, hr⟩ := hp.kget hwf (rowsI_get (show k < ss.length by omega))
      have nne := Nat.ne_of_lt hnx
      have nne' := Nat.ne_of_gt hnx
      have hb0 : ¬ ((F.bit : Int) < 0) := by omega
      have w7 : IntKind.i64.wrap ((k : Int) + 1) = k + 1 := wrap64 (by omega) (by omega)
      repeat' (first
        | (refine a_seq (fun K hK => ?_))
        | (refine a_block ?_)
        | (first | refine a_regionS ?_ | refine a_drawS (by decide +kernel) ?_ | refine a_region (fun K hK => ?_) | refine a_draw (by decide +kernel) (fun K hK => ?_) | refine a_ret ?_)
        | (refine a_skip ?_; try simp only [pst0, ↓reduceIte, Nat.reduceEqDiff])
        | (refine a_exit ?_; try simp only [pst0, ↓reduceIte, Nat.reduceEqDiff])
        | (refine a_cond _ (by (try simp (maxSteps := 2000000) only [am0, am1, am2, am3, amb0, amb1, amb2, amb3, amb4, lwn, drn, callee, wantedB, isW, eff, pev, pst0, retPost, resAll, resP, resV, intP, mkV, putC, pbin, peq, pint, pshift, pstr, pun, pconv, isShift, isConstB, app, subS, lay, rowsOf, lkV, keyKind, keyEq, mfind, mput, oInt, isZeroInt, forall_const, exists_eq_left', implies_true, IntKind.bits, ↓reduceIte, Nat.reduceEqDiff, Nat.reduceAdd, Nat.reduceSub, Nat.reduceMul, Nat.reduceLT, Nat.reduceLeDiff, Nat.reduceBEq, Int.reduceLE, Int.reduceLT, Int.reduceToNat, reduceCtorEq, Ty.all, h1, h6, h29, h30, h31, hob, hlen, hlk]); rfl) (fun hb => ?_) (fun hb => ?_) <;> (try simp only [hb0, decide_eq_true_eq, decide_eq_false_iff_not, reduceCtorEq] at hb) <;> (try (exfalso; omega)))
        | (with_reducible refine ite_in (fun hb => ?_) (fun hb => ?_) <;> (try simp only [Decidable.not_not] at hb) <;> (try simp only [hb, if_true, if_false, not_false_eq_true, not_true_eq_false, ↓reduceIte]) <;> (try simp only [hb0, decide_eq_true_eq, decide_eq_false_iff_not, reduceCtorEq] at hb) <;> (try (exfalso; omega)))
        | (refine hK _ _ ?_; clear hK; try simp only [pst0, ↓reduceIte, Nat.reduceEqDiff])
        | (clear hK; refine hK _ _ ?_; clear hK; try simp only [pst0, ↓reduceIte, Nat.reduceEqDiff])
        | (clear hK; clear hK; refine hK _ _ ?_; clear hK; try simp only [pst0, ↓reduceIte, Nat.reduceEqDiff])
        | (clear hK; clear hK; clear hK; refine hK _ _ ?_; clear hK; try simp only [pst0, ↓reduceIte, Nat.reduceEqDiff])
        | (with_reducible refine a_past _ rfl (by decide +kernel) ?_)
        | (with_reducible refine a_past2 (by simp only [List.forall_mem_cons, am0, am1, am2, am3, amb0, amb1, amb2, amb3, amb4, lwn, drn, callee, wantedB, isW, eff, pev, pst0, retPost, resAll, resP, resV, intP, mkV, putC, pbin, peq, pint, pshift, pstr, pun, pconv, isShift, isConstB, app, subS, lay, rowsOf, lkV, keyKind, keyEq, mfind, mput, oInt, isZeroInt, forall_const, exists_eq_left', implies_true, IntKind.bits, ↓reduceIte, Nat.reduceEqDiff, Nat.reduceAdd, Nat.reduceSub, Nat.reduceMul, Nat.reduceLT, Nat.reduceLeDiff, Nat.reduceBEq, Int.reduceLE, Int.reduceLT, Int.reduceToNat, reduceCtorEq, Ty.all, h1, h6, h29, h30, h31, hob, hlen, hlk]; (repeat' apply And.intro) <;> first | trivial | exact .inl (by decide +kernel)) ?_)
        | (rw [if_pos]; rotate_left 1; omega)
        | (simp (maxSteps := 2000000) only [am0, am1, am2, am3, amb0, amb1, amb2, amb3, amb4, lwn, drn, callee, wantedB, isW, eff, pev, pst0, retPost, resAll, resP, resV, intP, mkV, putC, pbin, peq, pint, pshift, pstr, pun, pconv, isShift, isConstB, app, subS, lay, rowsOf, lkV, keyKind, keyEq, mfind, mput, oInt, isZeroInt, forall_const, exists_eq_left', implies_true, IntKind.bits, ↓reduceIte, Nat.reduceEqDiff, Nat.reduceAdd, Nat.reduceSub, Nat.reduceMul, Nat.reduceLT, Nat.reduceLeDiff, Nat.reduceBEq, Int.reduceLE, Int.reduceLT, Int.reduceToNat, reduceCtorEq, Ty.all, h1, h6, h29, h30, h31, hob, hlen, hlk]))
      try simp only [am0, am1, am2, am3, amb0, amb1, amb2, amb3, amb4, lwn, drn, callee, wantedB, isW, eff, pev, pst0, retPost, resAll, resP, resV, intP, mkV, putC, pbin, peq, pint, pshift, pstr, pun, pconv, isShift, isConstB, app, subS, lay, rowsOf, lkV, keyKind, keyEq, mfind, mput, oInt, isZeroInt, forall_const, exists_eq_left', implies_true, IntKind.bits, ↓reduceIte, Nat.reduceEqDiff, Nat.reduceAdd, Nat.reduceSub, Nat.reduceMul, Nat.reduceLT, Nat.reduceLeDiff, Nat.reduceBEq, Int.reduceLE, Int.reduceLT, Int.reduceToNat, reduceCtorEq, Ty.all, hF, hF1, fldCells, iPV]
      obtain ⟨H, hH⟩ : ∃ H, H = (h'.new (.arr 4 [[.sc (.int .i64 0), .sc (.int .i64 0), .sc (.int .i64 0), .sc (.int .i64 0)]])).set h'.next (.arr 4 [[.sc (.int .i64 F.word), .sc (.int .i64 F.bit), .sc (.int .i64 F.width), .sc (.int .i64 xs[k])]]) := ⟨_, rfl⟩
      have HK : Keep h H := by rw [hH]; exact keep_set hkp.1 (keep_new hkp)
      have H1 : H.obj h.next = some (.arr 1 (rowsU (packL (((fieldsM xs).zip ss).take k) (List.replicate (wordsM xs) 0)))) := by
        rw [hH, set_obj, if_neg nne, new_obj, if_neg nne]; exact hob
      have H2 : H.obj h'.next = some (.arr 4 [[.sc (.int .i64 F.word), .sc (.int .i64 F.bit), .sc (.int .i64 F.width), .sc (.int .i64 xs[k])]]) := by
        rw [hH, set_obj, if_pos rfl]
      have H3 : H.next = h'.next + 1 := by rw [hH]; rfl
      rw [← hH]; clear hH
      have hqH := hq H HK
      have hrH := hr H HK
      have sameH : ∀ (id : Nat) (o : AObj), h.obj id = some o → H.obj id = some o ∧ id < h.next ∧ (h.obj id = some o ∨ inNO h.next o) := fun id o ho => by
        have := hwf id (by rw [ho]; rfl)
        exact ⟨by rw [HK.2 id this]; exact ho, this, .inl ho⟩
      have bad : ¬ (0 ≤ ss[k] ∧ ss[k] < xs[k]) → packM xs ss = .tup [nilS, errPV 2] := by
        intro hb
        unfold packM
        rw [if_neg]
        intro hh
        simp only [properM, Bool.and_eq_true] at hh
        have hzl : k < (ss.zip xs).length := by rw [List.length_zip]; omega
        have := List.all_eq_true.1 hh.2 _ (List.getElem_mem hzl)
        rw [List.getElem_zip] at this
        simp at this; omega
      obtain ⟨W, hW⟩ : ∃ W, W = packL (((fieldsM xs).zip ss).take k) (List.replicate (wordsM xs) 0) := ⟨_, rfl⟩
      have hWl : W.length = wordsM xs := by rw [hW, packL_len]; simp
      have hWn : packL (((fieldsM xs).zip ss).take (k + 1)) (List.replicate (wordsM xs) 0) = putF W F ss[k] := by
        have hzl : k < ((fieldsM xs).zip ss).length := by rw [List.length_zip]; omega
        rw [List.take_succ_eq_append_getElem hzl, List.getElem_zip, hW]
        have : (fieldsM xs)[k]'(by omega) = F := by
          have := List.getElem?_eq_getElem (l := fieldsM xs) (i := k) (by omega)
          rw [hF] at this; simpa using this.symm
        rw [this]
        simp [packL, List.foldl_append]
      rw [← hW] at H1
      have hWg := rowsU_get (xs := W) (i := F.word) (by omega)
      have c1 := u_wrap ss[k]
      have hget : W.getD F.word 0 = W[F.word]'(by omega) := by simp [List.getD, hWl, hF4]
      by_cases hneg : ss[k] < 0
      · repeat' (first
          | (refine a_seq (fun K hK => ?_))
          | (refine a_block ?_)
          | (first | refine a_regionS ?_ | refine a_drawS (by decide +kernel) ?_ | refine a_region (fun K hK => ?_) | refine a_draw (by decide +kernel) (fun K hK => ?_) | refine a_ret ?_)
          | (refine a_skip ?_; try simp only [pst0, ↓reduceIte, Nat.reduceEqDiff])
          | (refine a_exit ?_; try simp only [pst0, ↓reduceIte, Nat.reduceEqDiff])
          | (refine a_cond _ (by (try simp (maxSteps := 2000000) only [am0, am1, am2, am3, amb0, amb1, amb2, amb3, amb4, lwn, drn, callee, wantedB, isW, eff, pev, pst0, retPost, resAll, resP, resV, intP, mkV, putC, pbin, peq, pint, pshift, pstr, pun, pconv, isShift, isConstB, app, subS, lay, rowsOf, lkV, keyKind, keyEq, mfind, mput, oInt, isZeroInt, forall_const, exists_eq_left', implies_true, IntKind.bits, ↓reduceIte, Nat.reduceEqDiff, Nat.reduceAdd, Nat.reduceSub, Nat.reduceMul, Nat.reduceLT, Nat.reduceLeDiff, Nat.reduceBEq, Int.reduceLE, Int.reduceLT, Int.reduceToNat, reduceCtorEq, Ty.all, h1, h6, h29, h30, h31, H1, H2, hqH, hrH, hlen, hlk, nne, nne', hb0, w7, hneg]); rfl) (fun hb => ?_) (fun hb => ?_) <;> (try simp only [hb0, decide_eq_true_eq, decide_eq_false_iff_not, reduceCtorEq] at hb) <;> (try (exfalso; omega)))
          | (with_reducible refine ite_in (fun hb => ?_) (fun hb => ?_) <;> (try simp only [Decidable.not_not] at hb) <;> (try simp only [hb, if_true, if_false, not_false_eq_true, not_true_eq_false, ↓reduceIte]) <;> (try simp only [hb0, decide_eq_true_eq, decide_eq_false_iff_not, reduceCtorEq] at hb) <;> (try (exfalso; omega)))
          | (refine hK _ _ ?_; clear hK; try simp only [pst0, ↓reduceIte, Nat.reduceEqDiff])
          | (clear hK; refine hK _ _ ?_; clear hK; try simp only [pst0, ↓reduceIte, Nat.reduceEqDiff])
          | (clear hK; clear hK; refine hK _ _ ?_; clear hK; try simp only [pst0, ↓reduceIte, Nat.reduceEqDiff])
          | (clear hK; clear hK; clear hK; refine hK _ _ ?_; clear hK; try simp only [pst0, ↓reduceIte, Nat.reduceEqDiff])
          | (with_reducible refine a_past _ rfl (by decide +kernel) ?_)
          | (with_reducible refine a_past2 (by simp only [List.forall_mem_cons, am0, am1, am2, am3, amb0, amb1, amb2, amb3, amb4, lwn, drn, callee, wantedB, isW, eff, pev, pst0, retPost, resAll, resP, resV, intP, mkV, putC, pbin, peq, pint, pshift, pstr, pun, pconv, isShift, isConstB, app, subS, lay, rowsOf, lkV, keyKind, keyEq, mfind, mput, oInt, isZeroInt, forall_const, exists_eq_left', implies_true, IntKind.bits, ↓reduceIte, Nat.reduceEqDiff, Nat.reduceAdd, Nat.reduceSub, Nat.reduceMul, Nat.reduceLT, Nat.reduceLeDiff, Nat.reduceBEq, Int.reduceLE, Int.reduceLT, Int.reduceToNat, reduceCtorEq, Ty.all, h1, h6, h29, h30, h31, H1, H2, hqH, hrH, hlen, hlk, nne, nne', hb0, w7, hneg]; (repeat' apply And.intro) <;> first | trivial | exact .inl (by decide +kernel)) ?_)
          | (rw [if_pos]; rotate_left 1; omega)
          | (simp (maxSteps := 2000000) only [am0, am1, am2, am3, amb0, amb1, amb2, amb3, amb4, lwn, drn, callee, wantedB, isW, eff, pev, pst0, retPost, resAll, resP, resV, intP, mkV, putC, pbin, peq, pint, pshift, pstr, pun, pconv, isShift, isConstB, app, subS, lay, rowsOf, lkV, keyKind, keyEq, mfind, mput, oInt, isZeroInt, forall_const, exists_eq_left', implies_true, IntKind.bits, ↓reduceIte, Nat.reduceEqDiff, Nat.reduceAdd, Nat.reduceSub, Nat.reduceMul, Nat.reduceLT, Nat.reduceLeDiff, Nat.reduceBEq, Int.reduceLE, Int.reduceLT, Int.reduceToNat, reduceCtorEq, Ty.all, h1, h6, h29, h30, h31, H1, H2, hqH, hrH, hlen, hlk, nne, nne', hb0, w7, hneg]))
        refine ⟨packM xs ss, h, ⟨rfl, rfl⟩, ?_, Nat.le_refl _, sameH⟩
        rw [bad (by omega)]
        simp [FrzTo, FrzL, nilS, errPV]
      · repeat' (first
          | (refine a_seq (fun K hK => ?_))
          | (refine a_block ?_)
          | (first | refine a_regionS ?_ | refine a_drawS (by decide +kernel) ?_ | refine a_region (fun K hK => ?_) | refine a_draw (by decide +kernel) (fun K hK => ?_) | refine a_ret ?_)
          | (refine a_skip ?_; try simp only [pst0, ↓reduceIte, Nat.reduceEqDiff])
          | (refine a_exit ?_; try simp only [pst0, ↓reduceIte, Nat.reduceEqDiff])
          | (refine a_cond _ (by (try simp (maxSteps := 2000000) only [am0, am1, am2, am3, amb0, amb1, amb2, amb3, amb4, lwn, drn, callee, wantedB, isW, eff, pev, pst0, retPost, resAll, resP, resV, intP, mkV, putC, pbin, peq, pint, pshift, pstr, pun, pconv, isShift, isConstB, app, subS, lay, rowsOf, lkV, keyKind, keyEq, mfind, mput, oInt, isZeroInt, forall_const, exists_eq_left', implies_true, IntKind.bits, ↓reduceIte, Nat.reduceEqDiff, Nat.reduceAdd, Nat.reduceSub, Nat.reduceMul, Nat.reduceLT, Nat.reduceLeDiff, Nat.reduceBEq, Int.reduceLE, Int.reduceLT, Int.reduceToNat, reduceCtorEq, Ty.all, h1, h6, h29, h30, h31, H1, H2, hqH, hrH, hlen, hlk, nne, nne', hb0, w7, hneg, hWg, c1, u_shl, u_of, u_nat, putC, rowsU_set]); rfl) (fun hb => ?_) (fun hb => ?_) <;> (try simp only [hb0, decide_eq_true_eq, decide_eq_false_iff_not, reduceCtorEq] at hb) <;> (try (exfalso; omega)))
          | (with_reducible refine ite_in (fun hb => ?_) (fun hb => ?_) <;> (try simp only [Decidable.not_not] at hb) <;> (try simp only [hb, if_true, if_false, not_false_eq_true, not_true_eq_false, ↓reduceIte]) <;> (try simp only [hb0, decide_eq_true_eq, decide_eq_false_iff_not, reduceCtorEq] at hb) <;> (try (exfalso; omega)))
          | (refine hK _ _ ?_; clear hK; try simp only [pst0, ↓reduceIte, Nat.reduceEqDiff])
          | (clear hK; refine hK _ _ ?_; clear hK; try simp only [pst0, ↓reduceIte, Nat.reduceEqDiff])
          | (clear hK; clear hK; refine hK _ _ ?_; clear hK; try simp only [pst0, ↓reduceIte, Nat.reduceEqDiff])
          | (clear hK; clear hK; clear hK; refine hK _ _ ?_; clear hK; try simp only [pst0, ↓reduceIte, Nat.reduceEqDiff])
          | (with_reducible refine a_past _ rfl (by decide +kernel) ?_)
          | (with_reducible refine a_past2 (by simp only [List.forall_mem_cons, am0, am1, am2, am3, amb0, amb1, amb2, amb3, amb4, lwn, drn, callee, wantedB, isW, eff, pev, pst0, retPost, resAll, resP, resV, intP, mkV, putC, pbin, peq, pint, pshift, pstr, pun, pconv, isShift, isConstB, app, subS, lay, rowsOf, lkV, keyKind, keyEq, mfind, mput, oInt, isZeroInt, forall_const, exists_eq_left', implies_true, IntKind.bits, ↓reduceIte, Nat.reduceEqDiff, Nat.reduceAdd, Nat.reduceSub, Nat.reduceMul, Nat.reduceLT, Nat.reduceLeDiff, Nat.reduceBEq, Int.reduceLE, Int.reduceLT, Int.reduceToNat, reduceCtorEq, Ty.all, h1, h6, h29, h30, h31, H1, H2, hqH, hrH, hlen, hlk, nne, nne', hb0, w7, hneg, hWg, c1, u_shl, u_of, u_nat, putC, rowsU_set]; (repeat' apply And.intro) <;> first | trivial | exact .inl (by decide +kernel)) ?_)
          | (rw [if_pos]; rotate_left 1; omega)
          | (simp (maxSteps := 2000000) only [am0, am1, am2, am3, amb0, amb1, amb2, amb3, amb4, lwn, drn, callee, wantedB, isW, eff, pev, pst0, retPost, resAll, resP, resV, intP, mkV, putC, pbin, peq, pint, pshift, pstr, pun, pconv, isShift, isConstB, app, subS, lay, rowsOf, lkV, keyKind, keyEq, mfind, mput, oInt, isZeroInt, forall_const, exists_eq_left', implies_true, IntKind.bits, ↓reduceIte, Nat.reduceEqDiff, Nat.reduceAdd, Nat.reduceSub, Nat.reduceMul, Nat.reduceLT, Nat.reduceLeDiff, Nat.reduceBEq, Int.reduceLE, Int.reduceLT, Int.reduceToNat, reduceCtorEq, Ty.all, h1, h6, h29, h30, h31, H1, H2, hqH, hrH, hlen, hlk, nne, nne', hb0, w7, hneg, hWg, c1, u_shl, u_of, u_nat, putC, rowsU_set]))
        · refine ⟨packM xs ss, h, ⟨rfl, rfl⟩, ?_, Nat.le_refl _, sameH⟩
          rw [bad (by omega)]
          simp [FrzTo, FrzL, nilS, errPV]
        refine ⟨xs.length - (k + 1), by omega, keep_set (Nat.le_refl _) HK, by omega, k + 1, by rw [show ((k + 1 : Nat) : Int) = k + 1 by omega], by omega, rfl, ?_, ?_⟩
        · have hzl : k < (ss.zip xs).length := by rw [List.length_zip]; omega
          rw [List.take_succ_eq_append_getElem hzl, List.all_append, hall, List.getElem_zip]
          simp; omega
        · rw [hWn, putF, hget]; try rfl
    · repeat' (first
        | (refine a_seq (fun K hK => ?_))
        | (refine a_block ?_)
        | (first | refine a_regionS ?_ | refine a_drawS (by decide +kernel) ?_ | refine a_region (fun K hK => ?_) | refine a_draw (by decide +kernel) (fun K hK => ?_) | refine a_ret ?_)
        | (refine a_skip ?_; try simp only [pst0, ↓reduceIte, Nat.reduceEqDiff])
        | (refine a_exit ?_; try simp only [pst0, ↓reduceIte, Nat.reduceEqDiff])
        | (refine a_cond _ (by (try simp (maxSteps := 2000000) only [am0, am1, am2, am3, amb0, amb1, amb2, amb3, amb4, lwn, drn, callee, wantedB, isW, eff, pev, pst0, retPost, resAll, resP, resV, intP, mkV, putC, pbin, peq, pint, pshift, pstr, pun, pconv, isShift, isConstB, app, subS, lay, rowsOf, lkV, keyKind, keyEq, mfind, mput, oInt, isZeroInt, forall_const, exists_eq_left', implies_true, IntKind.bits, ↓reduceIte, Nat.reduceEqDiff, Nat.reduceAdd, Nat.reduceSub, Nat.reduceMul, Nat.reduceLT, Nat.reduceLeDiff, Nat.reduceBEq, Int.reduceLE, Int.reduceLT, Int.reduceToNat, reduceCtorEq, Ty.all, h1, h6, h29, h30, h31, hob, hlen, hlk]); rfl) (fun hb => ?_) (fun hb => ?_) <;> (try simp only [hb0, decide_eq_true_eq, decide_eq_false_iff_not, reduceCtorEq] at hb) <;> (try (exfalso; omega)))
        | (with_reducible refine ite_in (fun hb => ?_) (fun hb => ?_) <;> (try simp only [Decidable.not_not] at hb) <;> (try simp only [hb, if_true, if_false, not_false_eq_true, not_true_eq_false, ↓reduceIte]) <;> (try simp only [hb0, decide_eq_true_eq, decide_eq_false_iff_not, reduceCtorEq] at hb) <;> (try (exfalso; omega)))
        | (refine hK _ _ ?_; clear hK; try simp only [pst0, ↓reduceIte, Nat.reduceEqDiff])
        | (clear hK; refine hK _ _ ?_; clear hK; try simp only [pst0, ↓reduceIte, Nat.reduceEqDiff])
        | (clear hK; clear hK; refine hK _ _ ?_; clear hK; try simp only [pst0, ↓reduceIte, Nat.reduceEqDiff])
        | (clear hK; clear hK; clear hK; refine hK _ _ ?_; clear hK; try simp only [pst0, ↓reduceIte, Nat.reduceEqDiff])
        | (with_reducible refine a_past _ rfl (by decide +kernel) ?_)
        | (with_reducible refine a_past2 (by simp only [List.forall_mem_cons, am0, am1, am2, am3, amb0, amb1, amb2, amb3, amb4, lwn, drn, callee, wantedB, isW, eff, pev, pst0, retPost, resAll, resP, resV, intP, mkV, putC, pbin, peq, pint, pshift, pstr, pun, pconv, isShift, isConstB, app, subS, lay, rowsOf, lkV, keyKind, keyEq, mfind, mput, oInt, isZeroInt, forall_const, exists_eq_left', implies_true, IntKind.bits, ↓reduceIte, Nat.reduceEqDiff, Nat.reduceAdd, Nat.reduceSub, Nat.reduceMul, Nat.reduceLT, Nat.reduceLeDiff, Nat.reduceBEq, Int.reduceLE, Int.reduceLT, Int.reduceToNat, reduceCtorEq, Ty.all, h1, h6, h29, h30, h31, hob, hlen, hlk]; (repeat' apply And.intro) <;> first | trivial | exact .inl (by decide +kernel)) ?_)
        | (rw [if_pos]; rotate_left 1; omega)
        | (simp (maxSteps := 2000000) only [am0, am1, am2, am3, amb0, amb1, amb2, amb3, amb4, lwn, drn, callee, wantedB, isW, eff, pev, pst0, retPost, resAll, resP, resV, intP, mkV, putC, pbin, peq, pint, pshift, pstr, pun, pconv, isShift, isConstB, app, subS, lay, rowsOf, lkV, keyKind, keyEq, mfind, mput, oInt, isZeroInt, forall_const, exists_eq_left', implies_true, IntKind.bits, ↓reduceIte, Nat.reduceEqDiff, Nat.reduceAdd, Nat.reduceSub, Nat.reduceMul, Nat.reduceLT, Nat.reduceLeDiff, Nat.reduceBEq, Int.reduceLE, Int.reduceLT, Int.reduceToNat, reduceCtorEq, Ty.all, h1, h6, h29, h30, h31, hob, hlen, hlk]))
      have hk' : k = xs.length := by omega
      subst hk'
      have hz : (ss.zip xs).take xs.length = ss.zip xs := List.take_of_length_le (by rw [List.length_zip]; omega)
      have hz2 : ((fieldsM xs).zip ss).take xs.length = (fieldsM xs).zip ss := List.take_of_length_le (by rw [List.length_zip]; omega)
      rw [hz] at hall
      rw [hz2] at hob
      refine ⟨packM xs ss, h, ⟨rfl, rfl⟩, ?_, Nat.le_refl _, same'⟩
      have : properM xs ss = true := by simp only [properM, hall, hss, decide_true, Bool.and_self]
      unfold packM
      rw [if_pos this]
      simp only [FrzTo]
      refine ⟨_, rfl, ?_⟩
      simp only [FrzL, nilE]
      refine ⟨?_, by simp only [FrzTo], trivial⟩
      simp only [FrzTo]
      refine .inr (.inr ⟨h.next, 0, _, _, rfl, Nat.le_refl _, hob, by rw [rowsU_len, packL_len]; simp, ?_⟩)
      rw [List.drop_zero, List.take_of_length_le (by rw [rowsU_len, packL_len]; simp)]
      exact FrzR_same _ (rowsU_sc _)
end Go.Proofs.Ytmooliecnbhbjaa
