/- pack.New: what it returns. -/
import Derived.Test.YtmooliecnbhbjaaPkRef
set_option linter.unusedVariables false
set_option linter.unusedSimpArgs false
set_option linter.unusedSectionVars false
namespace Go.Proofs.Ytmooliecnbhbjaa
open Go.AM
set_option maxHeartbeats 1000000
set_option maxRecDepth 20000

def widthM (n : Int) : Nat := if n ≤ 1 then 0 else if n ≤ 2 then 1 else if n ≤ 4 then 2 else if n ≤ 8 then 3 else if n ≤ 16 then 4 else if n ≤ 32 then 5 else 6
theorem widthM_le (n : Int) : widthM n ≤ 6 := by unfold widthM; repeat' split
                                                 all_goals omega
/-- below the width a power of two is less than n; at the width it is not -/
theorem widthM_lt {n : Int} {w : Nat} (h : w < widthM n) : (2 : Int) ^ w < n := by
  unfold widthM at h
  repeat' split at h
  all_goals
    have hw : w = 0 ∨ w = 1 ∨ w = 2 ∨ w = 3 ∨ w = 4 ∨ w = 5 := by omega
    rcases hw with rfl | rfl | rfl | rfl | rfl | rfl <;> simp <;> omega
theorem widthM_ge {n : Int} (h : n ≤ 64) : n ≤ (2 : Int) ^ widthM n := by
  unfold widthM; repeat' split
  all_goals (simp; omega)
/-- 1 << w -/
theorem shl_one {w : Nat} (h : w ≤ 6) : IntKind.i64.wrap (1 * 2 ^ (min ((w : Int).toNat) IntKind.i64.bits)) = 2 ^ w := by
  have hw : w = 0 ∨ w = 1 ∨ w = 2 ∨ w = 3 ∨ w = 4 ∨ w = 5 ∨ w = 6 := by omega
  rcases hw with rfl | rfl | rfl | rfl | rfl | rfl | rfl <;> rfl

/-- the places: word and bit where the next field begins, then word, bit and width of each field -/
structure Fld where
  word : Nat
  bit : Nat
  width : Nat
  size : Int
def nextF (wb : Nat × Nat) (n : Int) : Fld := if wb.2 + widthM n > 64 then ⟨wb.1 + 1, 0, widthM n, n⟩ else ⟨wb.1, wb.2, widthM n, n⟩
def fieldsFrom : Nat × Nat → List Int → List Fld
  | _, [] => []
  | wb, n :: ns => nextF wb n :: fieldsFrom ((nextF wb n).word, (nextF wb n).bit + (nextF wb n).width) ns
def endFrom : Nat × Nat → List Int → Nat × Nat
  | wb, [] => wb
  | wb, n :: ns => endFrom ((nextF wb n).word, (nextF wb n).bit + (nextF wb n).width) ns
def fieldsM (xs : List Int) : List Fld := fieldsFrom (0, 0) xs
def endM (xs : List Int) : Nat × Nat := endFrom (0, 0) xs
def wordsM (xs : List Int) : Nat := (endM xs).1 + 1
theorem fieldsFrom_append (wb : Nat × Nat) (xs : List Int) (n : Int) : fieldsFrom wb (xs ++ [n]) = fieldsFrom wb xs ++ [nextF (endFrom wb xs) n] := by
  induction xs generalizing wb with
  | nil => rfl
  | cons x xs ih => simp [fieldsFrom, endFrom, ih]
theorem endFrom_append (wb : Nat × Nat) (xs : List Int) (n : Int) : endFrom wb (xs ++ [n]) = ((nextF (endFrom wb xs) n).word, (nextF (endFrom wb xs) n).bit + (nextF (endFrom wb xs) n).width) := by
  induction xs generalizing wb with
  | nil => rfl
  | cons x xs ih => simp [endFrom, ih]
theorem fieldsFrom_len (wb : Nat × Nat) (xs : List Int) : (fieldsFrom wb xs).length = xs.length := by
  induction xs generalizing wb with
  | nil => rfl
  | cons x xs ih => simp [fieldsFrom, ih]
theorem endFrom_le (wb : Nat × Nat) (xs : List Int) (hb : wb.2 ≤ 64) : (endFrom wb xs).1 ≤ wb.1 + xs.length ∧ (endFrom wb xs).2 ≤ 64 := by
  induction xs generalizing wb with
  | nil => simp [endFrom, hb]
  | cons x xs ih =>
    have := widthM_le x
    have h := ih ((nextF wb x).word, (nextF wb x).bit + (nextF wb x).width) (by simp only [nextF]; split <;> simp <;> omega)
    simp only [endFrom, List.length_cons]
    have hw : (nextF wb x).word ≤ wb.1 + 1 := by simp only [nextF]; split <;> simp
    simp only at h
    omega
def fldCells (f : Fld) : List PV := [iPV f.word, iPV f.bit, iPV f.width, iPV f.size]
def packerPV (xs : List Int) : PV := .cptr [.imm 4 ((fieldsM xs).map fldCells), iPV (wordsM xs)]
def errPV (n : Int) : PV := .sc (.iface 36 (.int .i64 n))
def nilE : PV := .sc .nilIface
def nilP : PV := .sc (.pointer none)
def newM (xs : List Int) : PV := if checkM xs = 0 then .tup [packerPV xs, nilE] else .tup [nilP, errPV (checkM xs)]

theorem fldRows_inN (n : Nat) (fs : List Fld) : inNR n (fs.map fldCells) := by
  induction fs with
  | nil => simp only [List.map_nil, inNR]
  | cons f fs ih => simp only [List.map_cons, inNR, fldCells, iPV, inNL, inN, and_self, true_and]; exact ih
theorem FrzL_same {n : Nat} {h : Heap} : (l : List PV) → (∀ p ∈ l, ∃ v, p = .sc v) → FrzL n h l l
  | [], _ => by simp only [FrzL]
  | p :: ps, hp => by
    obtain ⟨v, rfl⟩ := hp p (by simp)
    simp only [FrzL, FrzTo, true_and]
    exact FrzL_same ps fun q hq => hp q (by simp [hq])
theorem FrzR_same {n : Nat} {h : Heap} : (l : List (List PV)) → (∀ r ∈ l, ∀ p ∈ r, ∃ v, p = .sc v) → FrzR n h l l
  | [], _ => by simp only [FrzR]
  | r :: rs, hp => by
    simp only [FrzR]
    exact ⟨FrzL_same r (hp r (by simp)), FrzR_same rs fun q hq => hp q (by simp [hq])⟩
theorem fldRows_sc (fs : List Fld) : ∀ r ∈ fs.map fldCells, ∀ p ∈ r, ∃ v, p = PV.sc v := by
  intro r hr p hp
  obtain ⟨f, _, rfl⟩ := List.mem_map.1 hr
  simp only [fldCells, iPV, List.mem_cons, List.not_mem_nil, or_false] at hp
  rcases hp with rfl | rfl | rfl | rfl <;> exact ⟨_, rfl⟩

/-- the packer's slice of fields while New builds it -/
def FsAt (h : Heap) (id0 : Nat) (fs : PV) (l : List Fld) : Prop :=
  (fs = .sc (.slice none 0 0) ∧ l = []) ∨ ∃ id, id0 < id ∧ id < h.next ∧ fs = .own id 0 l.length ∧ h.obj id = some (.arr 4 (l.map fldCells))

theorem new_c {h : Heap} {xs : List Int} {p : PV} (hp : Sl h 1 p (rowsI xs)) : PCall Try.prog 19 [p] h fun r h' => r = newM xs ∧ h' = h := by
  refine pcall_wf Ty.hb_19 (fun hwf => ?_)
  refine pcall_len hp (by simp) Ty.hb_19 (fun hl => ?_)
  rw [rowsI_len] at hl
  refine PCall.drop ?_
  have hlen := lenP_sl hp
  rw [rowsI_len] at hlen
  have hlk := hp.lk
  have same : ∀ (id : Nat) (o : AObj), h.obj id = some o → h.obj id = some o ∧ id < h.next ∧ (h.obj id = some o ∨ inNO h.next o) := fun id o ho => ⟨ho, hwf id (by rw [ho]; rfl), .inl ho⟩
  refine pcall_body (ow := fun d => d == 14) (wf := fun _ => false) Ty.mixed Try.func19 rfl Ty.hb_19 (by rw [Try.ntmps19]; simp) ?_
  rw [Try.ntmps19, Try.results19]
  repeat' (first
    | (refine a_seq (fun K hK => ?_))
    | (refine a_block ?_)
    | (first | refine a_regionS ?_ | refine a_drawS (by decide +kernel) ?_ | refine a_region (fun K hK => ?_) | refine a_draw (by decide +kernel) (fun K hK => ?_) | refine a_ret ?_)
    | (refine a_skip ?_; try simp only [pst0, ↓reduceIte, Nat.reduceEqDiff])
    | (refine a_exit ?_; try simp only [pst0, ↓reduceIte, Nat.reduceEqDiff])
    | (refine a_cond _ (by (try simp (maxSteps := 2000000) only [am0, am1, am2, am3, amb0, amb1, amb2, amb3, amb4, lwn, drn, callee, wantedB, isW, eff, pev, pst0, retPost, resAll, resP, resV, intP, mkV, putC, pbin, peq, pint, pshift, pstr, pun, pconv, isShift, isConstB, app, subS, lay, rowsOf, lkV, keyKind, keyEq, mfind, mput, oInt, isZeroInt, forall_const, exists_eq_left', implies_true, IntKind.bits, ↓reduceIte, Nat.reduceEqDiff, Nat.reduceAdd, Nat.reduceSub, Nat.reduceMul, Nat.reduceLT, Nat.reduceLeDiff, Nat.reduceBEq, Int.reduceLE, Int.reduceLT, Int.reduceToNat, reduceCtorEq, Ty.all, hlen, hlk]); rfl) (fun hb => ?_) (fun hb => ?_) <;> (try simp only [hb0, decide_eq_true_eq, decide_eq_false_iff_not, reduceCtorEq] at hb) <;> (try (exfalso; omega)))
    | (with_reducible refine ite_in (fun hb => ?_) (fun hb => ?_) <;> (try simp only [Decidable.not_not] at hb) <;> (try simp only [hb, if_true, if_false, not_false_eq_true, not_true_eq_false, ↓reduceIte]) <;> (try simp only [hb0, decide_eq_true_eq, decide_eq_false_iff_not, reduceCtorEq] at hb) <;> (try (exfalso; omega)))
    | (refine hK _ _ ?_; clear hK; try simp only [pst0, ↓reduceIte, Nat.reduceEqDiff])
    | (clear hK; refine hK _ _ ?_; clear hK; try simp only [pst0, ↓reduceIte, Nat.reduceEqDiff])
    | (clear hK; clear hK; refine hK _ _ ?_; clear hK; try simp only [pst0, ↓reduceIte, Nat.reduceEqDiff])
    | (clear hK; clear hK; clear hK; refine hK _ _ ?_; clear hK; try simp only [pst0, ↓reduceIte, Nat.reduceEqDiff])
    | (with_reducible refine a_past _ rfl (by decide +kernel) ?_)
    | (with_reducible refine a_past2 (by simp only [List.forall_mem_cons, am0, am1, am2, am3, amb0, amb1, amb2, amb3, amb4, lwn, drn, callee, wantedB, isW, eff, pev, pst0, retPost, resAll, resP, resV, intP, mkV, putC, pbin, peq, pint, pshift, pstr, pun, pconv, isShift, isConstB, app, subS, lay, rowsOf, lkV, keyKind, keyEq, mfind, mput, oInt, isZeroInt, forall_const, exists_eq_left', implies_true, IntKind.bits, ↓reduceIte, Nat.reduceEqDiff, Nat.reduceAdd, Nat.reduceSub, Nat.reduceMul, Nat.reduceLT, Nat.reduceLeDiff, Nat.reduceBEq, Int.reduceLE, Int.reduceLT, Int.reduceToNat, reduceCtorEq, Ty.all, hlen, hlk]; (repeat' apply And.intro) <;> first | trivial | exact .inl (by decide +kernel)) ?_)
    | (rw [if_pos]; rotate_left 1; omega)
    | (simp (maxSteps := 2000000) only [am0, am1, am2, am3, amb0, amb1, amb2, amb3, amb4, lwn, drn, callee, wantedB, isW, eff, pev, pst0, retPost, resAll, resP, resV, intP, mkV, putC, pbin, peq, pint, pshift, pstr, pun, pconv, isShift, isConstB, app, subS, lay, rowsOf, lkV, keyKind, keyEq, mfind, mput, oInt, isZeroInt, forall_const, exists_eq_left', implies_true, IntKind.bits, ↓reduceIte, Nat.reduceEqDiff, Nat.reduceAdd, Nat.reduceSub, Nat.reduceMul, Nat.reduceLT, Nat.reduceLeDiff, Nat.reduceBEq, Int.reduceLE, Int.reduceLT, Int.reduceToNat, reduceCtorEq, Ty.all, hlen, hlk]))
  · refine ⟨newM xs, h, ⟨rfl, rfl⟩, ?_, Nat.le_refl _, same⟩
    have : checkM xs = 5 := by unfold checkM; rw [if_pos (by omega)]
    unfold newM
    rw [this, if_neg (by omega)]
    simp [FrzTo, FrzL, nilP, errPV]
  refine a_loop (fun m s h' => s 4 = .ptr h.next 0 0 ∧ s 15 = p ∧ s 16 = .sc (.int .i64 xs.length) ∧ ∃ (k : Nat) (fs : PV), s 17 = .sc (.int .i64 k) ∧ k ≤ xs.length ∧ m = xs.length - k ∧
    (xs.take k).all okSize = true ∧ s 5 = .sc (.int .i64 (endM (xs.take k)).2) ∧ FsAt h' h.next fs (fieldsM (xs.take k)) ∧ h'.obj h.next = some (.arr 2 [[fs, iPV (wordsM (xs.take k))]]) ∧ h.next < h'.next ∧ (∀ id, id < h.next → h'.obj id = h.obj id)) xs.length ?_ ?_
  · try simp only [am0, am1, am2, am3, amb0, amb1, amb2, amb3, amb4, lwn, drn, callee, wantedB, isW, eff, pev, pst0, retPost, resAll, resP, resV, intP, mkV, putC, pbin, peq, pint, pshift, pstr, pun, pconv, isShift, isConstB, app, subS, lay, rowsOf, lkV, keyKind, keyEq, mfind, mput, oInt, isZeroInt, forall_const, exists_eq_left', implies_true, IntKind.bits, ↓reduceIte, Nat.reduceEqDiff, Nat.reduceAdd, Nat.reduceSub, Nat.reduceMul, Nat.reduceLT, Nat.reduceLeDiff, Nat.reduceBEq, Int.reduceLE, Int.reduceLT, Int.reduceToNat, reduceCtorEq]
    refine ⟨0, .sc (.slice none 0 0), rfl, Nat.zero_le _, rfl, rfl, rfl, .inl ⟨rfl, rfl⟩, rfl, by omega, fun id hid => ?_⟩
    rw [if_neg (by omega)]
  · rintro m s h' ⟨h4, h15, h16, k, fs, h17, hk, rfl, hall, h5, hfs, hob, hnx, hold⟩
    have same' : ∀ (id : Nat) (o : AObj), h.obj id = some o → h'.obj id = some o ∧ id < h.next ∧ (h.obj id = some o ∨ inNO h.next o) := fun id o ho => by
      have := hwf id (by rw [ho]; rfl)
      exact ⟨by rw [hold id this]; exact ho, this, .inl ho⟩
    by_cases hlt : k < xs.length
    · have hkp : Keep h h' := ⟨by omega, hold⟩
      obtain ⟨q, hq0, hr0⟩ := hp.kget hwf (rowsI_get hlt)
      have hq := hq0 h' hkp
      have hr := hr0 h' hkp
      have bad : ¬ (1 ≤ xs[k] ∧ xs[k] ≤ 64) → newM xs = .tup [nilP, errPV 1] := by
        intro hb
        have : checkM xs = 1 := by
          unfold checkM
          rw [if_neg (by omega), if_neg]
          intro hh
          have := List.all_eq_true.1 hh _ (List.getElem_mem hlt)
          simp [okSize] at this; omega
        unfold newM
        rw [this, if_neg (by omega)]
      repeat' (first
        | (refine a_seq (fun K hK => ?_))
        | (refine a_block ?_)
        | (first | refine a_regionS ?_ | refine a_drawS (by decide +kernel) ?_ | refine a_region (fun K hK => ?_) | refine a_draw (by decide +kernel) (fun K hK => ?_) | refine a_ret ?_)
        | (refine a_skip ?_; try simp only [pst0, ↓reduceIte, Nat.reduceEqDiff])
        | (refine a_exit ?_; try simp only [pst0, ↓reduceIte, Nat.reduceEqDiff])
        | (refine a_cond _ (by (try simp (maxSteps := 2000000) only [am0, am1, am2, am3, amb0, amb1, amb2, amb3, amb4, lwn, drn, callee, wantedB, isW, eff, pev, pst0, retPost, resAll, resP, resV, intP, mkV, putC, pbin, peq, pint, pshift, pstr, pun, pconv, isShift, isConstB, app, subS, lay, rowsOf, lkV, keyKind, keyEq, mfind, mput, oInt, isZeroInt, forall_const, exists_eq_left', implies_true, IntKind.bits, ↓reduceIte, Nat.reduceEqDiff, Nat.reduceAdd, Nat.reduceSub, Nat.reduceMul, Nat.reduceLT, Nat.reduceLeDiff, Nat.reduceBEq, Int.reduceLE, Int.reduceLT, Int.reduceToNat, reduceCtorEq, Ty.all, h4, h15, h16, h17, h5, hq, hr, hlen, hlk, hob]); rfl) (fun hb => ?_) (fun hb => ?_) <;> (try simp only [hb0, decide_eq_true_eq, decide_eq_false_iff_not, reduceCtorEq] at hb) <;> (try (exfalso; omega)))
        | (with_reducible refine ite_in (fun hb => ?_) (fun hb => ?_) <;> (try simp only [Decidable.not_not] at hb) <;> (try simp only [hb, if_true, if_false, not_false_eq_true, not_true_eq_false, ↓reduceIte]) <;> (try simp only [hb0, decide_eq_true_eq, decide_eq_false_iff_not, reduceCtorEq] at hb) <;> (try (exfalso; omega)))
        | (refine hK _ _ ?_; clear hK; try simp only [pst0, ↓reduceIte, Nat.reduceEqDiff])
        | (clear hK; refine hK _ _ ?_; clear hK; try simp only [pst0, ↓reduceIte, Nat.reduceEqDiff])
        | (clear hK; clear hK; refine hK _ _ ?_; clear hK; try simp only [pst0, ↓reduceIte, Nat.reduceEqDiff])
        | (clear hK; clear hK; clear hK; refine hK _ _ ?_; clear hK; try simp only [pst0, ↓reduceIte, Nat.reduceEqDiff])
        | (with_reducible refine a_past _ rfl (by decide +kernel) ?_)
        | (with_reducible refine a_past2 (by simp only [List.forall_mem_cons, am0, am1, am2, am3, amb0, amb1, amb2, amb3, amb4, lwn, drn, callee, wantedB, isW, eff, pev, pst0, retPost, resAll, resP, resV, intP, mkV, putC, pbin, peq, pint, pshift, pstr, pun, pconv, isShift, isConstB, app, subS, lay, rowsOf, lkV, keyKind, keyEq, mfind, mput, oInt, isZeroInt, forall_const, exists_eq_left', implies_true, IntKind.bits, ↓reduceIte, Nat.reduceEqDiff, Nat.reduceAdd, Nat.reduceSub, Nat.reduceMul, Nat.reduceLT, Nat.reduceLeDiff, Nat.reduceBEq, Int.reduceLE, Int.reduceLT, Int.reduceToNat, reduceCtorEq, Ty.all, h4, h15, h16, h17, h5, hq, hr, hlen, hlk, hob]; (repeat' apply And.intro) <;> first | trivial | exact .inl (by decide +kernel)) ?_)
        | (rw [if_pos]; rotate_left 1; omega)
        | (simp (maxSteps := 2000000) only [am0, am1, am2, am3, amb0, amb1, amb2, amb3, amb4, lwn, drn, callee, wantedB, isW, eff, pev, pst0, retPost, resAll, resP, resV, intP, mkV, putC, pbin, peq, pint, pshift, pstr, pun, pconv, isShift, isConstB, app, subS, lay, rowsOf, lkV, keyKind, keyEq, mfind, mput, oInt, isZeroInt, forall_const, exists_eq_left', implies_true, IntKind.bits, ↓reduceIte, Nat.reduceEqDiff, Nat.reduceAdd, Nat.reduceSub, Nat.reduceMul, Nat.reduceLT, Nat.reduceLeDiff, Nat.reduceBEq, Int.reduceLE, Int.reduceLT, Int.reduceToNat, reduceCtorEq, Ty.all, h4, h15, h16, h17, h5, hq, hr, hlen, hlk, hob]))
      · refine ⟨newM xs, h, ⟨rfl, rfl⟩, ?_, Nat.le_refl _, same'⟩
        rw [bad (by omega)]
        simp [FrzTo, FrzL, nilP, errPV]
      · clear hq0 hr0
        refine a_loop (fun m2 s2 h2 => h2 = h' ∧ s2 4 = .ptr h.next 0 0 ∧ s2 15 = p ∧ s2 16 = .sc (.int .i64 xs.length) ∧ s2 17 = .sc (.int .i64 k) ∧ s2 5 = .sc (.int .i64 (endM (xs.take k)).2) ∧ s2 7 = .sc (.int .i64 xs[k]) ∧
          ∃ w : Nat, s2 8 = .sc (.int .i64 w) ∧ w ≤ widthM xs[k] ∧ m2 = widthM xs[k] - w) (widthM xs[k]) ?_ ?_
        · try simp only [am0, am1, am2, am3, amb0, amb1, amb2, amb3, amb4, lwn, drn, callee, wantedB, isW, eff, pev, pst0, retPost, resAll, resP, resV, intP, mkV, putC, pbin, peq, pint, pshift, pstr, pun, pconv, isShift, isConstB, app, subS, lay, rowsOf, lkV, keyKind, keyEq, mfind, mput, oInt, isZeroInt, forall_const, exists_eq_left', implies_true, IntKind.bits, ↓reduceIte, Nat.reduceEqDiff, Nat.reduceAdd, Nat.reduceSub, Nat.reduceMul, Nat.reduceLT, Nat.reduceLeDiff, Nat.reduceBEq, Int.reduceLE, Int.reduceLT, Int.reduceToNat, reduceCtorEq, h4, h15, h16, h17, h5, hq, hr, hlen, hlk, hob]
          exact ⟨0, rfl, by omega, rfl⟩
        · rintro m2 s2 h2 ⟨rfl, g4, g15, g16, g17, g5, g7, w, g8, hw, rfl⟩
          have w6 := widthM_le xs[k]
          have hsh : IntKind.i64.wrap (1 * 2 ^ (min w 64)) = 2 ^ w := shl_one (w := w) (by omega)
          have he := endFrom_le (0, 0) (xs.take k) (by omega)
          rw [List.length_take] at he
          change (endM (xs.take k)).1 ≤ 0 + _ ∧ (endM (xs.take k)).2 ≤ 64 at he
          have w1 : IntKind.i64.wrap ((w : Int) + 1) = w + 1 := by rw [wrap64 (by omega) (by omega)]; try omega
          have w2 : IntKind.i64.wrap (((endM (xs.take k)).2 : Int) + w) = (endM (xs.take k)).2 + w := by rw [wrap64 (by omega) (by omega)]; try omega
          have hwm : 1 ≤ wordsM (xs.take k) ∧ wordsM (xs.take k) ≤ 65 := by unfold wordsM; omega
          have w3 : IntKind.i64.wrap ((wordsM (xs.take k) : Int) + 1) = wordsM (xs.take k) + 1 := by rw [wrap64 (by omega) (by omega)]; try omega
          have w4 : IntKind.i64.wrap ((wordsM (xs.take k) : Int) + 1 - 1) = wordsM (xs.take k) := by rw [wrap64 (by omega) (by omega)]; omega
          have w5 : IntKind.i64.wrap ((wordsM (xs.take k) : Int) - 1) = wordsM (xs.take k) - 1 := by rw [wrap64 (by omega) (by omega)]; try omega
          have w7 : IntKind.i64.wrap ((k : Int) + 1) = k + 1 := by rw [wrap64 (by omega) (by omega)]; try omega
          have w8 : IntKind.i64.wrap ((0 : Int) + w) = w := by rw [wrap64 (by omega) (by omega)]; try omega
          have hlt2 := @widthM_lt xs[k] w
          have hge2 := @widthM_ge xs[k] (by omega)
          repeat' (first
            | (refine a_seq (fun K hK => ?_))
            | (refine a_block ?_)
            | (first | refine a_regionS ?_ | refine a_drawS (by decide +kernel) ?_ | refine a_region (fun K hK => ?_) | refine a_draw (by decide +kernel) (fun K hK => ?_) | refine a_ret ?_)
            | (refine a_skip ?_; try simp only [pst0, ↓reduceIte, Nat.reduceEqDiff])
            | (refine a_exit ?_; try simp only [pst0, ↓reduceIte, Nat.reduceEqDiff])
            | (refine a_cond _ (by (try simp (maxSteps := 2000000) only [am0, am1, am2, am3, amb0, amb1, amb2, amb3, amb4, lwn, drn, callee, wantedB, isW, eff, pev, pst0, retPost, resAll, resP, resV, intP, mkV, putC, pbin, peq, pint, pshift, pstr, pun, pconv, isShift, isConstB, app, subS, lay, rowsOf, lkV, keyKind, keyEq, mfind, mput, oInt, isZeroInt, forall_const, exists_eq_left', implies_true, IntKind.bits, ↓reduceIte, Nat.reduceEqDiff, Nat.reduceAdd, Nat.reduceSub, Nat.reduceMul, Nat.reduceLT, Nat.reduceLeDiff, Nat.reduceBEq, Int.reduceLE, Int.reduceLT, Int.reduceToNat, reduceCtorEq, Ty.all, g4, g15, g16, g17, g5, g7, g8, hsh, hob, iPV, w1, w2, w3, w4, w5, w7, w8]); rfl) (fun hb => ?_) (fun hb => ?_) <;> (try simp only [hb0, decide_eq_true_eq, decide_eq_false_iff_not, reduceCtorEq] at hb) <;> (try (exfalso; omega)))
            | (with_reducible refine ite_in (fun hb => ?_) (fun hb => ?_) <;> (try simp only [Decidable.not_not] at hb) <;> (try simp only [hb, if_true, if_false, not_false_eq_true, not_true_eq_false, ↓reduceIte]) <;> (try simp only [hb0, decide_eq_true_eq, decide_eq_false_iff_not, reduceCtorEq] at hb) <;> (try (exfalso; omega)))
            | (refine hK _ _ ?_; clear hK; try simp only [pst0, ↓reduceIte, Nat.reduceEqDiff])
            | (clear hK; refine hK _ _ ?_; clear hK; try simp only [pst0, ↓reduceIte, Nat.reduceEqDiff])
            | (clear hK; clear hK; refine hK _ _ ?_; clear hK; try simp only [pst0, ↓reduceIte, Nat.reduceEqDiff])
            | (clear hK; clear hK; clear hK; refine hK _ _ ?_; clear hK; try simp only [pst0, ↓reduceIte, Nat.reduceEqDiff])
            | (with_reducible refine a_past _ rfl (by decide +kernel) ?_)
            | (with_reducible refine a_past2 (by simp only [List.forall_mem_cons, am0, am1, am2, am3, amb0, amb1, amb2, amb3, amb4, lwn, drn, callee, wantedB, isW, eff, pev, pst0, retPost, resAll, resP, resV, intP, mkV, putC, pbin, peq, pint, pshift, pstr, pun, pconv, isShift, isConstB, app, subS, lay, rowsOf, lkV, keyKind, keyEq, mfind, mput, oInt, isZeroInt, forall_const, exists_eq_left', implies_true, IntKind.bits, ↓reduceIte, Nat.reduceEqDiff, Nat.reduceAdd, Nat.reduceSub, Nat.reduceMul, Nat.reduceLT, Nat.reduceLeDiff, Nat.reduceBEq, Int.reduceLE, Int.reduceLT, Int.reduceToNat, reduceCtorEq, Ty.all, g4, g15, g16, g17, g5, g7, g8, hsh, hob, iPV, w1, w2, w3, w4, w5, w7, w8]; (repeat' apply And.intro) <;> first | trivial | exact .inl (by decide +kernel)) ?_)
            | (rw [if_pos]; rotate_left 1; omega)
            | (simp (maxSteps := 2000000) only [am0, am1, am2, am3, amb0, amb1, amb2, amb3, amb4, lwn, drn, callee, wantedB, isW, eff, pev, pst0, retPost, resAll, resP, resV, intP, mkV, putC, pbin, peq, pint, pshift, pstr, pun, pconv, isShift, isConstB, app, subS, lay, rowsOf, lkV, keyKind, keyEq, mfind, mput, oInt, isZeroInt, forall_const, exists_eq_left', implies_true, IntKind.bits, ↓reduceIte, Nat.reduceEqDiff, Nat.reduceAdd, Nat.reduceSub, Nat.reduceMul, Nat.reduceLT, Nat.reduceLeDiff, Nat.reduceBEq, Int.reduceLE, Int.reduceLT, Int.reduceToNat, reduceCtorEq, Ty.all, g4, g15, g16, g17, g5, g7, g8, hsh, hob, iPV, w1, w2, w3, w4, w5, w7, w8]))
          · try simp only [am0, am1, am2, am3, amb0, amb1, amb2, amb3, amb4, lwn, drn, callee, wantedB, isW, eff, pev, pst0, retPost, resAll, resP, resV, intP, mkV, putC, pbin, peq, pint, pshift, pstr, pun, pconv, isShift, isConstB, app, subS, lay, rowsOf, lkV, keyKind, keyEq, mfind, mput, oInt, isZeroInt, forall_const, exists_eq_left', implies_true, IntKind.bits, ↓reduceIte, Nat.reduceEqDiff, Nat.reduceAdd, Nat.reduceSub, Nat.reduceMul, Nat.reduceLT, Nat.reduceLeDiff, Nat.reduceBEq, Int.reduceLE, Int.reduceLT, Int.reduceToNat, reduceCtorEq, Ty.all, g4, g15, g16, g17, g5, g7]
            have := @widthM_ge xs[k] (by omega)
            have hlt3 : w < widthM xs[k] := by
              rcases Nat.lt_or_ge w (widthM xs[k]) with hl | hl
              · exact hl
              · rw [show w = widthM xs[k] by omega] at hb
                omega
            exact ⟨widthM xs[k] - (w + 1), by omega, w + 1, rfl, by omega, rfl⟩
          all_goals
            have hwe : w = widthM xs[k] := by
              rcases Nat.lt_or_ge w (widthM xs[k]) with hl | hl
              · have := hlt2 hl
                omega
              · omega
            subst hwe
            have hlenF : (fieldsM (xs.take k)).length = k := by unfold fieldsM; rw [fieldsFrom_len, List.length_take]; omega
            have ht : xs.take (k + 1) = xs.take k ++ [xs[k]] := List.take_succ_eq_append_getElem hlt
            have hF : fieldsM (xs.take (k + 1)) = fieldsM (xs.take k) ++ [nextF (endM (xs.take k)) xs[k]] := by rw [ht]; exact fieldsFrom_append _ _ _
            have hE : endM (xs.take (k + 1)) = ((nextF (endM (xs.take k)) xs[k]).word, (nextF (endM (xs.take k)) xs[k]).bit + (nextF (endM (xs.take k)) xs[k]).width) := by rw [ht]; exact endFrom_append _ _ _
            have hall' : (xs.take (k + 1)).all okSize = true := by
              rw [ht, List.all_append, hall]
              simp [okSize]; omega
            first
              | have hn : nextF (endM (xs.take k)) xs[k] = ⟨(endM (xs.take k)).1 + 1, 0, widthM xs[k], xs[k]⟩ := by unfold nextF; rw [if_pos (by omega)]
                rw [hn] at hF hE
              | have hn : nextF (endM (xs.take k)) xs[k] = ⟨(endM (xs.take k)).1, (endM (xs.take k)).2, widthM xs[k], xs[k]⟩ := by unfold nextF; rw [if_neg (by omega)]
                rw [hn] at hF hE
            have hlen1 : (fieldsM (xs.take (k + 1))).length = (fieldsM (xs.take k)).length + 1 := by rw [hF, List.length_append]; rfl
            have hmap : (fieldsM (xs.take (k + 1))).map fldCells = (fieldsM (xs.take k)).map fldCells ++ [fldCells (nextF (endM (xs.take k)) xs[k])] := by rw [hF, hn, List.map_append]; rfl
            have hw1 : (wordsM (xs.take (k + 1)) : Int) = (nextF (endM (xs.take k)) xs[k]).word + 1 := by unfold wordsM; rw [hE, hn]; rfl
            have hw2 : (wordsM (xs.take k) : Int) = (endM (xs.take k)).1 + 1 := by unfold wordsM; rfl
            have hb2 : ((endM (xs.take (k + 1))).2 : Int) = (nextF (endM (xs.take k)) xs[k]).bit + widthM xs[k] := by rw [hE, hn]; rfl
            have hkk : ((k + 1 : Nat) : Int) = k + 1 := by omega
            rw [hn] at hmap hw1 hb2
            simp only at hw1 hb2
            rcases hfs with ⟨rfl, hnil⟩ | ⟨id, hid1, hid2, rfl, hid3⟩
          · try simp only [am0, am1, am2, am3, amb0, amb1, amb2, amb3, amb4, lwn, drn, callee, wantedB, isW, eff, pev, pst0, retPost, resAll, resP, resV, intP, mkV, putC, pbin, peq, pint, pshift, pstr, pun, pconv, isShift, isConstB, app, subS, lay, rowsOf, lkV, keyKind, keyEq, mfind, mput, oInt, isZeroInt, forall_const, exists_eq_left', implies_true, IntKind.bits, ↓reduceIte, Nat.reduceEqDiff, Nat.reduceAdd, Nat.reduceSub, Nat.reduceMul, Nat.reduceLT, Nat.reduceLeDiff, Nat.reduceBEq, Int.reduceLE, Int.reduceLT, Int.reduceToNat, reduceCtorEq, Ty.all, g4, g15, g16, g17, g5, g7, g8]
            repeat' (first
              | (refine a_seq (fun K hK => ?_))
              | (refine a_block ?_)
              | (first | refine a_regionS ?_ | refine a_drawS (by decide +kernel) ?_ | refine a_region (fun K hK => ?_) | refine a_draw (by decide +kernel) (fun K hK => ?_) | refine a_ret ?_)
              | (refine a_skip ?_; try simp only [pst0, ↓reduceIte, Nat.reduceEqDiff])
              | (refine a_exit ?_; try simp only [pst0, ↓reduceIte, Nat.reduceEqDiff])
              | (refine a_cond _ (by (try simp (maxSteps := 2000000) only [am0, am1, am2, am3, amb0, amb1, amb2, amb3, amb4, lwn, drn, callee, wantedB, isW, eff, pev, pst0, retPost, resAll, resP, resV, intP, mkV, putC, pbin, peq, pint, pshift, pstr, pun, pconv, isShift, isConstB, app, subS, lay, rowsOf, lkV, keyKind, keyEq, mfind, mput, oInt, isZeroInt, forall_const, exists_eq_left', implies_true, IntKind.bits, ↓reduceIte, Nat.reduceEqDiff, Nat.reduceAdd, Nat.reduceSub, Nat.reduceMul, Nat.reduceLT, Nat.reduceLeDiff, Nat.reduceBEq, Int.reduceLE, Int.reduceLT, Int.reduceToNat, reduceCtorEq, Ty.all, g4, g15, g16, g17, g5, g7, g8, hob, Nat.ne_of_lt hnx, Nat.ne_of_gt hnx, w7, w8]); rfl) (fun hb => ?_) (fun hb => ?_) <;> (try simp only [hb0, decide_eq_true_eq, decide_eq_false_iff_not, reduceCtorEq] at hb) <;> (try (exfalso; omega)))
              | (with_reducible refine ite_in (fun hb => ?_) (fun hb => ?_) <;> (try simp only [Decidable.not_not] at hb) <;> (try simp only [hb, if_true, if_false, not_false_eq_true, not_true_eq_false, ↓reduceIte]) <;> (try simp only [hb0, decide_eq_true_eq, decide_eq_false_iff_not, reduceCtorEq] at hb) <;> (try (exfalso; omega)))
              | (refine hK _ _ ?_; clear hK; try simp only [pst0, ↓reduceIte, Nat.reduceEqDiff])
              | (clear hK; refine hK _ _ ?_; clear hK; try simp only [pst0, ↓reduceIte, Nat.reduceEqDiff])
              | (clear hK; clear hK; refine hK _ _ ?_; clear hK; try simp only [pst0, ↓reduceIte, Nat.reduceEqDiff])
              | (clear hK; clear hK; clear hK; refine hK _ _ ?_; clear hK; try simp only [pst0, ↓reduceIte, Nat.reduceEqDiff])
              | (with_reducible refine a_past _ rfl (by decide +kernel) ?_)
              | (with_reducible refine a_past2 (by simp only [List.forall_mem_cons, am0, am1, am2, am3, amb0, amb1, amb2, amb3, amb4, lwn, drn, callee, wantedB, isW, eff, pev, pst0, retPost, resAll, resP, resV, intP, mkV, putC, pbin, peq, pint, pshift, pstr, pun, pconv, isShift, isConstB, app, subS, lay, rowsOf, lkV, keyKind, keyEq, mfind, mput, oInt, isZeroInt, forall_const, exists_eq_left', implies_true, IntKind.bits, ↓reduceIte, Nat.reduceEqDiff, Nat.reduceAdd, Nat.reduceSub, Nat.reduceMul, Nat.reduceLT, Nat.reduceLeDiff, Nat.reduceBEq, Int.reduceLE, Int.reduceLT, Int.reduceToNat, reduceCtorEq, Ty.all, g4, g15, g16, g17, g5, g7, g8, hob, Nat.ne_of_lt hnx, Nat.ne_of_gt hnx, w7, w8]; (repeat' apply And.intro) <;> first | trivial | exact .inl (by decide +kernel)) ?_)
              | (rw [if_pos]; rotate_left 1; omega)
              | (simp (maxSteps := 2000000) only [am0, am1, am2, am3, amb0, amb1, amb2, amb3, amb4, lwn, drn, callee, wantedB, isW, eff, pev, pst0, retPost, resAll, resP, resV, intP, mkV, putC, pbin, peq, pint, pshift, pstr, pun, pconv, isShift, isConstB, app, subS, lay, rowsOf, lkV, keyKind, keyEq, mfind, mput, oInt, isZeroInt, forall_const, exists_eq_left', implies_true, IntKind.bits, ↓reduceIte, Nat.reduceEqDiff, Nat.reduceAdd, Nat.reduceSub, Nat.reduceMul, Nat.reduceLT, Nat.reduceLeDiff, Nat.reduceBEq, Int.reduceLE, Int.reduceLT, Int.reduceToNat, reduceCtorEq, Ty.all, g4, g15, g16, g17, g5, g7, g8, hob, Nat.ne_of_lt hnx, Nat.ne_of_gt hnx, w7, w8]))
            rw [hnil] at hmap hlen1
            refine ⟨xs.length - (k + 1), by omega, k + 1, .own h2.next 0 1, by rw [hkk], by omega, rfl, hall', by rw [hb2]; simp, .inr ⟨h2.next, hnx, by simp only [am0, am1, am2, am3, amb0, amb1, amb2, amb3, amb4, lwn, drn, callee, wantedB, isW, eff, pev, pst0, retPost, resAll, resP, resV, intP, mkV, putC, pbin, peq, pint, pshift, pstr, pun, pconv, isShift, isConstB, app, subS, lay, rowsOf, lkV, keyKind, keyEq, mfind, mput, oInt, isZeroInt, forall_const, exists_eq_left', implies_true, IntKind.bits, ↓reduceIte, Nat.reduceEqDiff, Nat.reduceAdd, Nat.reduceSub, Nat.reduceMul, Nat.reduceLT, Nat.reduceLeDiff, Nat.reduceBEq, Int.reduceLE, Int.reduceLT, Int.reduceToNat, reduceCtorEq]; try omega, by rw [hlen1]; rfl, ?_⟩, by rw [hw1, hw2]; try rfl, by omega, fun id' hid' => ?_⟩
            · try simp only [am0, am1, am2, am3, amb0, amb1, amb2, amb3, amb4, lwn, drn, callee, wantedB, isW, eff, pev, pst0, retPost, resAll, resP, resV, intP, mkV, putC, pbin, peq, pint, pshift, pstr, pun, pconv, isShift, isConstB, app, subS, lay, rowsOf, lkV, keyKind, keyEq, mfind, mput, oInt, isZeroInt, forall_const, exists_eq_left', implies_true, IntKind.bits, ↓reduceIte, Nat.reduceEqDiff, Nat.reduceAdd, Nat.reduceSub, Nat.reduceMul, Nat.reduceLT, Nat.reduceLeDiff, Nat.reduceBEq, Int.reduceLE, Int.reduceLT, Int.reduceToNat, reduceCtorEq, Nat.ne_of_lt hnx, Nat.ne_of_gt hnx]
              rw [hmap, hw2]; try simp [fldCells, iPV]
            · (repeat (refine (if_neg (by omega)).trans ?_))
              exact hold id' hid'
          · have ne1 : ¬ (h.next = id) := by omega
            have ne2 : ¬ (id = h.next) := by omega
            have ne3 : ¬ (id = h2.next) := by omega
            have ne4 : ¬ (h2.next = id) := by omega
            have sz : ((fieldsM (xs.take k)).length + 1) * 32 ≤ 140737488355328 := by omega
            try simp only [am0, am1, am2, am3, amb0, amb1, amb2, amb3, amb4, lwn, drn, callee, wantedB, isW, eff, pev, pst0, retPost, resAll, resP, resV, intP, mkV, putC, pbin, peq, pint, pshift, pstr, pun, pconv, isShift, isConstB, app, subS, lay, rowsOf, lkV, keyKind, keyEq, mfind, mput, oInt, isZeroInt, forall_const, exists_eq_left', implies_true, IntKind.bits, ↓reduceIte, Nat.reduceEqDiff, Nat.reduceAdd, Nat.reduceSub, Nat.reduceMul, Nat.reduceLT, Nat.reduceLeDiff, Nat.reduceBEq, Int.reduceLE, Int.reduceLT, Int.reduceToNat, reduceCtorEq, Ty.all, g4, g15, g16, g17, g5, g7, g8, hid3, ne1, ne2, ne3, ne4, sz, Nat.le_refl, Nat.zero_add, List.take_of_length_le]
            repeat' (first
              | (refine a_seq (fun K hK => ?_))
              | (refine a_block ?_)
              | (first | refine a_regionS ?_ | refine a_drawS (by decide +kernel) ?_ | refine a_region (fun K hK => ?_) | refine a_draw (by decide +kernel) (fun K hK => ?_) | refine a_ret ?_)
              | (refine a_skip ?_; try simp only [pst0, ↓reduceIte, Nat.reduceEqDiff])
              | (refine a_exit ?_; try simp only [pst0, ↓reduceIte, Nat.reduceEqDiff])
              | (refine a_cond _ (by (try simp (maxSteps := 2000000) only [am0, am1, am2, am3, amb0, amb1, amb2, amb3, amb4, lwn, drn, callee, wantedB, isW, eff, pev, pst0, retPost, resAll, resP, resV, intP, mkV, putC, pbin, peq, pint, pshift, pstr, pun, pconv, isShift, isConstB, app, subS, lay, rowsOf, lkV, keyKind, keyEq, mfind, mput, oInt, isZeroInt, forall_const, exists_eq_left', implies_true, IntKind.bits, ↓reduceIte, Nat.reduceEqDiff, Nat.reduceAdd, Nat.reduceSub, Nat.reduceMul, Nat.reduceLT, Nat.reduceLeDiff, Nat.reduceBEq, Int.reduceLE, Int.reduceLT, Int.reduceToNat, reduceCtorEq, Ty.all, g4, g15, g16, g17, g5, g7, g8, hob, hid3, Nat.ne_of_lt hnx, Nat.ne_of_gt hnx, ne1, ne2, ne3, ne4, w7, w8]); rfl) (fun hb => ?_) (fun hb => ?_) <;> (try simp only [hb0, decide_eq_true_eq, decide_eq_false_iff_not, reduceCtorEq] at hb) <;> (try (exfalso; omega)))
              | (with_reducible refine ite_in (fun hb => ?_) (fun hb => ?_) <;> (try simp only [Decidable.not_not] at hb) <;> (try simp only [hb, if_true, if_false, not_false_eq_true, not_true_eq_false, ↓reduceIte]) <;> (try simp only [hb0, decide_eq_true_eq, decide_eq_false_iff_not, reduceCtorEq] at hb) <;> (try (exfalso; omega)))
              | (refine hK _ _ ?_; clear hK; try simp only [pst0, ↓reduceIte, Nat.reduceEqDiff])
              | (clear hK; refine hK _ _ ?_; clear hK; try simp only [pst0, ↓reduceIte, Nat.reduceEqDiff])
              | (clear hK; clear hK; refine hK _ _ ?_; clear hK; try simp only [pst0, ↓reduceIte, Nat.reduceEqDiff])
              | (clear hK; clear hK; clear hK; refine hK _ _ ?_; clear hK; try simp only [pst0, ↓reduceIte, Nat.reduceEqDiff])
              | (with_reducible refine a_past _ rfl (by decide +kernel) ?_)
              | (with_reducible refine a_past2 (by simp only [List.forall_mem_cons, am0, am1, am2, am3, amb0, amb1, amb2, amb3, amb4, lwn, drn, callee, wantedB, isW, eff, pev, pst0, retPost, resAll, resP, resV, intP, mkV, putC, pbin, peq, pint, pshift, pstr, pun, pconv, isShift, isConstB, app, subS, lay, rowsOf, lkV, keyKind, keyEq, mfind, mput, oInt, isZeroInt, forall_const, exists_eq_left', implies_true, IntKind.bits, ↓reduceIte, Nat.reduceEqDiff, Nat.reduceAdd, Nat.reduceSub, Nat.reduceMul, Nat.reduceLT, Nat.reduceLeDiff, Nat.reduceBEq, Int.reduceLE, Int.reduceLT, Int.reduceToNat, reduceCtorEq, Ty.all, g4, g15, g16, g17, g5, g7, g8, hob, hid3, Nat.ne_of_lt hnx, Nat.ne_of_gt hnx, ne1, ne2, ne3, ne4, w7, w8]; (repeat' apply And.intro) <;> first | trivial | exact .inl (by decide +kernel)) ?_)
              | (rw [if_pos]; rotate_left 1; omega)
              | (simp (maxSteps := 2000000) only [am0, am1, am2, am3, amb0, amb1, amb2, amb3, amb4, lwn, drn, callee, wantedB, isW, eff, pev, pst0, retPost, resAll, resP, resV, intP, mkV, putC, pbin, peq, pint, pshift, pstr, pun, pconv, isShift, isConstB, app, subS, lay, rowsOf, lkV, keyKind, keyEq, mfind, mput, oInt, isZeroInt, forall_const, exists_eq_left', implies_true, IntKind.bits, ↓reduceIte, Nat.reduceEqDiff, Nat.reduceAdd, Nat.reduceSub, Nat.reduceMul, Nat.reduceLT, Nat.reduceLeDiff, Nat.reduceBEq, Int.reduceLE, Int.reduceLT, Int.reduceToNat, reduceCtorEq, Ty.all, g4, g15, g16, g17, g5, g7, g8, hob, hid3, Nat.ne_of_lt hnx, Nat.ne_of_gt hnx, ne1, ne2, ne3, ne4, w7, w8]))
            have hA : (fieldsM (xs.take k)).length + 1 = (fieldsM (xs.take (k + 1))).length := hlen1.symm
            refine ⟨xs.length - (k + 1), by omega, k + 1, .own h2.next 0 ((fieldsM (xs.take k)).length + 1), by rw [hkk], by omega, rfl, hall', by rw [hb2]; simp, .inr ⟨h2.next, hnx, by simp only [am0, am1, am2, am3, amb0, amb1, amb2, amb3, amb4, lwn, drn, callee, wantedB, isW, eff, pev, pst0, retPost, resAll, resP, resV, intP, mkV, putC, pbin, peq, pint, pshift, pstr, pun, pconv, isShift, isConstB, app, subS, lay, rowsOf, lkV, keyKind, keyEq, mfind, mput, oInt, isZeroInt, forall_const, exists_eq_left', implies_true, IntKind.bits, ↓reduceIte, Nat.reduceEqDiff, Nat.reduceAdd, Nat.reduceSub, Nat.reduceMul, Nat.reduceLT, Nat.reduceLeDiff, Nat.reduceBEq, Int.reduceLE, Int.reduceLT, Int.reduceToNat, reduceCtorEq]; try omega, by rw [hlen1], ?_⟩, by rw [hw1, hw2]; try rfl, by omega, fun id' hid' => ?_⟩
            · try simp only [am0, am1, am2, am3, amb0, amb1, amb2, amb3, amb4, lwn, drn, callee, wantedB, isW, eff, pev, pst0, retPost, resAll, resP, resV, intP, mkV, putC, pbin, peq, pint, pshift, pstr, pun, pconv, isShift, isConstB, app, subS, lay, rowsOf, lkV, keyKind, keyEq, mfind, mput, oInt, isZeroInt, forall_const, exists_eq_left', implies_true, IntKind.bits, ↓reduceIte, Nat.reduceEqDiff, Nat.reduceAdd, Nat.reduceSub, Nat.reduceMul, Nat.reduceLT, Nat.reduceLeDiff, Nat.reduceBEq, Int.reduceLE, Int.reduceLT, Int.reduceToNat, reduceCtorEq, Nat.ne_of_lt hnx, Nat.ne_of_gt hnx]
              rw [hmap, hw2]; try simp [fldCells, iPV]
            · (repeat (refine (if_neg (by omega)).trans ?_))
              exact hold id' hid'
          · try simp only [am0, am1, am2, am3, amb0, amb1, amb2, amb3, amb4, lwn, drn, callee, wantedB, isW, eff, pev, pst0, retPost, resAll, resP, resV, intP, mkV, putC, pbin, peq, pint, pshift, pstr, pun, pconv, isShift, isConstB, app, subS, lay, rowsOf, lkV, keyKind, keyEq, mfind, mput, oInt, isZeroInt, forall_const, exists_eq_left', implies_true, IntKind.bits, ↓reduceIte, Nat.reduceEqDiff, Nat.reduceAdd, Nat.reduceSub, Nat.reduceMul, Nat.reduceLT, Nat.reduceLeDiff, Nat.reduceBEq, Int.reduceLE, Int.reduceLT, Int.reduceToNat, reduceCtorEq, Ty.all, g4, g15, g16, g17, g5, g7, g8]
            repeat' (first
              | (refine a_seq (fun K hK => ?_))
              | (refine a_block ?_)
              | (first | refine a_regionS ?_ | refine a_drawS (by decide +kernel) ?_ | refine a_region (fun K hK => ?_) | refine a_draw (by decide +kernel) (fun K hK => ?_) | refine a_ret ?_)
              | (refine a_skip ?_; try simp only [pst0, ↓reduceIte, Nat.reduceEqDiff])
              | (refine a_exit ?_; try simp only [pst0, ↓reduceIte, Nat.reduceEqDiff])
              | (refine a_cond _ (by (try simp (maxSteps := 2000000) only [am0, am1, am2, am3, amb0, amb1, amb2, amb3, amb4, lwn, drn, callee, wantedB, isW, eff, pev, pst0, retPost, resAll, resP, resV, intP, mkV, putC, pbin, peq, pint, pshift, pstr, pun, pconv, isShift, isConstB, app, subS, lay, rowsOf, lkV, keyKind, keyEq, mfind, mput, oInt, isZeroInt, forall_const, exists_eq_left', implies_true, IntKind.bits, ↓reduceIte, Nat.reduceEqDiff, Nat.reduceAdd, Nat.reduceSub, Nat.reduceMul, Nat.reduceLT, Nat.reduceLeDiff, Nat.reduceBEq, Int.reduceLE, Int.reduceLT, Int.reduceToNat, reduceCtorEq, Ty.all, g4, g15, g16, g17, g5, g7, g8, hob, Nat.ne_of_lt hnx, Nat.ne_of_gt hnx, w7, w8, w2]); rfl) (fun hb => ?_) (fun hb => ?_) <;> (try simp only [hb0, decide_eq_true_eq, decide_eq_false_iff_not, reduceCtorEq] at hb) <;> (try (exfalso; omega)))
              | (with_reducible refine ite_in (fun hb => ?_) (fun hb => ?_) <;> (try simp only [Decidable.not_not] at hb) <;> (try simp only [hb, if_true, if_false, not_false_eq_true, not_true_eq_false, ↓reduceIte]) <;> (try simp only [hb0, decide_eq_true_eq, decide_eq_false_iff_not, reduceCtorEq] at hb) <;> (try (exfalso; omega)))
              | (refine hK _ _ ?_; clear hK; try simp only [pst0, ↓reduceIte, Nat.reduceEqDiff])
              | (clear hK; refine hK _ _ ?_; clear hK; try simp only [pst0, ↓reduceIte, Nat.reduceEqDiff])
              | (clear hK; clear hK; refine hK _ _ ?_; clear hK; try simp only [pst0, ↓reduceIte, Nat.reduceEqDiff])
              | (clear hK; clear hK; clear hK; refine hK _ _ ?_; clear hK; try simp only [pst0, ↓reduceIte, Nat.reduceEqDiff])
              | (with_reducible refine a_past _ rfl (by decide +kernel) ?_)
              | (with_reducible refine a_past2 (by simp only [List.forall_mem_cons, am0, am1, am2, am3, amb0, amb1, amb2, amb3, amb4, lwn, drn, callee, wantedB, isW, eff, pev, pst0, retPost, resAll, resP, resV, intP, mkV, putC, pbin, peq, pint, pshift, pstr, pun, pconv, isShift, isConstB, app, subS, lay, rowsOf, lkV, keyKind, keyEq, mfind, mput, oInt, isZeroInt, forall_const, exists_eq_left', implies_true, IntKind.bits, ↓reduceIte, Nat.reduceEqDiff, Nat.reduceAdd, Nat.reduceSub, Nat.reduceMul, Nat.reduceLT, Nat.reduceLeDiff, Nat.reduceBEq, Int.reduceLE, Int.reduceLT, Int.reduceToNat, reduceCtorEq, Ty.all, g4, g15, g16, g17, g5, g7, g8, hob, Nat.ne_of_lt hnx, Nat.ne_of_gt hnx, w7, w8, w2]; (repeat' apply And.intro) <;> first | trivial | exact .inl (by decide +kernel)) ?_)
              | (rw [if_pos]; rotate_left 1; omega)
              | (simp (maxSteps := 2000000) only [am0, am1, am2, am3, amb0, amb1, amb2, amb3, amb4, lwn, drn, callee, wantedB, isW, eff, pev, pst0, retPost, resAll, resP, resV, intP, mkV, putC, pbin, peq, pint, pshift, pstr, pun, pconv, isShift, isConstB, app, subS, lay, rowsOf, lkV, keyKind, keyEq, mfind, mput, oInt, isZeroInt, forall_const, exists_eq_left', implies_true, IntKind.bits, ↓reduceIte, Nat.reduceEqDiff, Nat.reduceAdd, Nat.reduceSub, Nat.reduceMul, Nat.reduceLT, Nat.reduceLeDiff, Nat.reduceBEq, Int.reduceLE, Int.reduceLT, Int.reduceToNat, reduceCtorEq, Ty.all, g4, g15, g16, g17, g5, g7, g8, hob, Nat.ne_of_lt hnx, Nat.ne_of_gt hnx, w7, w8, w2]))
            rw [hnil] at hmap hlen1
            refine ⟨xs.length - (k + 1), by omega, k + 1, .own h2.next 0 1, by rw [hkk], by omega, rfl, hall', by rw [hb2], .inr ⟨h2.next, hnx, by simp only [am0, am1, am2, am3, amb0, amb1, amb2, amb3, amb4, lwn, drn, callee, wantedB, isW, eff, pev, pst0, retPost, resAll, resP, resV, intP, mkV, putC, pbin, peq, pint, pshift, pstr, pun, pconv, isShift, isConstB, app, subS, lay, rowsOf, lkV, keyKind, keyEq, mfind, mput, oInt, isZeroInt, forall_const, exists_eq_left', implies_true, IntKind.bits, ↓reduceIte, Nat.reduceEqDiff, Nat.reduceAdd, Nat.reduceSub, Nat.reduceMul, Nat.reduceLT, Nat.reduceLeDiff, Nat.reduceBEq, Int.reduceLE, Int.reduceLT, Int.reduceToNat, reduceCtorEq]; try omega, by rw [hlen1]; rfl, ?_⟩, by rw [hw1, hw2]; try rfl, by omega, fun id' hid' => ?_⟩
            · try simp only [am0, am1, am2, am3, amb0, amb1, amb2, amb3, amb4, lwn, drn, callee, wantedB, isW, eff, pev, pst0, retPost, resAll, resP, resV, intP, mkV, putC, pbin, peq, pint, pshift, pstr, pun, pconv, isShift, isConstB, app, subS, lay, rowsOf, lkV, keyKind, keyEq, mfind, mput, oInt, isZeroInt, forall_const, exists_eq_left', implies_true, IntKind.bits, ↓reduceIte, Nat.reduceEqDiff, Nat.reduceAdd, Nat.reduceSub, Nat.reduceMul, Nat.reduceLT, Nat.reduceLeDiff, Nat.reduceBEq, Int.reduceLE, Int.reduceLT, Int.reduceToNat, reduceCtorEq, Nat.ne_of_lt hnx, Nat.ne_of_gt hnx]
              rw [hmap, hw2]; try simp [fldCells, iPV]
            · (repeat (refine (if_neg (by omega)).trans ?_))
              exact hold id' hid'
          · have ne1 : ¬ (h.next = id) := by omega
            have ne2 : ¬ (id = h.next) := by omega
            have ne3 : ¬ (id = h2.next) := by omega
            have ne4 : ¬ (h2.next = id) := by omega
            have sz : ((fieldsM (xs.take k)).length + 1) * 32 ≤ 140737488355328 := by omega
            try simp only [am0, am1, am2, am3, amb0, amb1, amb2, amb3, amb4, lwn, drn, callee, wantedB, isW, eff, pev, pst0, retPost, resAll, resP, resV, intP, mkV, putC, pbin, peq, pint, pshift, pstr, pun, pconv, isShift, isConstB, app, subS, lay, rowsOf, lkV, keyKind, keyEq, mfind, mput, oInt, isZeroInt, forall_const, exists_eq_left', implies_true, IntKind.bits, ↓reduceIte, Nat.reduceEqDiff, Nat.reduceAdd, Nat.reduceSub, Nat.reduceMul, Nat.reduceLT, Nat.reduceLeDiff, Nat.reduceBEq, Int.reduceLE, Int.reduceLT, Int.reduceToNat, reduceCtorEq, Ty.all, g4, g15, g16, g17, g5, g7, g8, hid3, ne1, ne2, ne3, ne4, sz, Nat.le_refl, Nat.zero_add, List.take_of_length_le]
            repeat' (first
              | (refine a_seq (fun K hK => ?_))
              | (refine a_block ?_)
              | (first | refine a_regionS ?_ | refine a_drawS (by decide +kernel) ?_ | refine a_region (fun K hK => ?_) | refine a_draw (by decide +kernel) (fun K hK => ?_) | refine a_ret ?_)
              | (refine a_skip ?_; try simp only [pst0, ↓reduceIte, Nat.reduceEqDiff])
              | (refine a_exit ?_; try simp only [pst0, ↓reduceIte, Nat.reduceEqDiff])
              | (refine a_cond _ (by (try simp (maxSteps := 2000000) only [am0, am1, am2, am3, amb0, amb1, amb2, amb3, amb4, lwn, drn, callee, wantedB, isW, eff, pev, pst0, retPost, resAll, resP, resV, intP, mkV, putC, pbin, peq, pint, pshift, pstr, pun, pconv, isShift, isConstB, app, subS, lay, rowsOf, lkV, keyKind, keyEq, mfind, mput, oInt, isZeroInt, forall_const, exists_eq_left', implies_true, IntKind.bits, ↓reduceIte, Nat.reduceEqDiff, Nat.reduceAdd, Nat.reduceSub, Nat.reduceMul, Nat.reduceLT, Nat.reduceLeDiff, Nat.reduceBEq, Int.reduceLE, Int.reduceLT, Int.reduceToNat, reduceCtorEq, Ty.all, g4, g15, g16, g17, g5, g7, g8, hob, hid3, Nat.ne_of_lt hnx, Nat.ne_of_gt hnx, ne1, ne2, ne3, ne4, w7, w8, w2]); rfl) (fun hb => ?_) (fun hb => ?_) <;> (try simp only [hb0, decide_eq_true_eq, decide_eq_false_iff_not, reduceCtorEq] at hb) <;> (try (exfalso; omega)))
              | (with_reducible refine ite_in (fun hb => ?_) (fun hb => ?_) <;> (try simp only [Decidable.not_not] at hb) <;> (try simp only [hb, if_true, if_false, not_false_eq_true, not_true_eq_false, ↓reduceIte]) <;> (try simp only [hb0, decide_eq_true_eq, decide_eq_false_iff_not, reduceCtorEq] at hb) <;> (try (exfalso; omega)))
              | (refine hK _ _ ?_; clear hK; try simp only [pst0, ↓reduceIte, Nat.reduceEqDiff])
              | (clear hK; refine hK _ _ ?_; clear hK; try simp only [pst0, ↓reduceIte, Nat.reduceEqDiff])
              | (clear hK; clear hK; refine hK _ _ ?_; clear hK; try simp only [pst0, ↓reduceIte, Nat.reduceEqDiff])
              | (clear hK; clear hK; clear hK; refine hK _ _ ?_; clear hK; try simp only [pst0, ↓reduceIte, Nat.reduceEqDiff])
              | (with_reducible refine a_past _ rfl (by decide +kernel) ?_)
              | (with_reducible refine a_past2 (by simp only [List.forall_mem_cons, am0, am1, am2, am3, amb0, amb1, amb2, amb3, amb4, lwn, drn, callee, wantedB, isW, eff, pev, pst0, retPost, resAll, resP, resV, intP, mkV, putC, pbin, peq, pint, pshift, pstr, pun, pconv, isShift, isConstB, app, subS, lay, rowsOf, lkV, keyKind, keyEq, mfind, mput, oInt, isZeroInt, forall_const, exists_eq_left', implies_true, IntKind.bits, ↓reduceIte, Nat.reduceEqDiff, Nat.reduceAdd, Nat.reduceSub, Nat.reduceMul, Nat.reduceLT, Nat.reduceLeDiff, Nat.reduceBEq, Int.reduceLE, Int.reduceLT, Int.reduceToNat, reduceCtorEq, Ty.all, g4, g15, g16, g17, g5, g7, g8, hob, hid3, Nat.ne_of_lt hnx, Nat.ne_of_gt hnx, ne1, ne2, ne3, ne4, w7, w8, w2]; (repeat' apply And.intro) <;> first | trivial | exact .inl (by decide +kernel)) ?_)
              | (rw [if_pos]; rotate_left 1; omega)
              | (simp (maxSteps := 2000000) only [am0, am1, am2, am3, amb0, amb1, amb2, amb3, amb4, lwn, drn, callee, wantedB, isW, eff, pev, pst0, retPost, resAll, resP, resV, intP, mkV, putC, pbin, peq, pint, pshift, pstr, pun, pconv, isShift, isConstB, app, subS, lay, rowsOf, lkV, keyKind, keyEq, mfind, mput, oInt, isZeroInt, forall_const, exists_eq_left', implies_true, IntKind.bits, ↓reduceIte, Nat.reduceEqDiff, Nat.reduceAdd, Nat.reduceSub, Nat.reduceMul, Nat.reduceLT, Nat.reduceLeDiff, Nat.reduceBEq, Int.reduceLE, Int.reduceLT, Int.reduceToNat, reduceCtorEq, Ty.all, g4, g15, g16, g17, g5, g7, g8, hob, hid3, Nat.ne_of_lt hnx, Nat.ne_of_gt hnx, ne1, ne2, ne3, ne4, w7, w8, w2]))
            refine ⟨xs.length - (k + 1), by omega, k + 1, .own h2.next 0 ((fieldsM (xs.take k)).length + 1), by rw [hkk], by omega, rfl, hall', by rw [hb2], .inr ⟨h2.next, hnx, by simp only [am0, am1, am2, am3, amb0, amb1, amb2, amb3, amb4, lwn, drn, callee, wantedB, isW, eff, pev, pst0, retPost, resAll, resP, resV, intP, mkV, putC, pbin, peq, pint, pshift, pstr, pun, pconv, isShift, isConstB, app, subS, lay, rowsOf, lkV, keyKind, keyEq, mfind, mput, oInt, isZeroInt, forall_const, exists_eq_left', implies_true, IntKind.bits, ↓reduceIte, Nat.reduceEqDiff, Nat.reduceAdd, Nat.reduceSub, Nat.reduceMul, Nat.reduceLT, Nat.reduceLeDiff, Nat.reduceBEq, Int.reduceLE, Int.reduceLT, Int.reduceToNat, reduceCtorEq]; try omega, by rw [hlen1], ?_⟩, by rw [hw1, hw2]; try rfl, by omega, fun id' hid' => ?_⟩
            · try simp only [am0, am1, am2, am3, amb0, amb1, amb2, amb3, amb4, lwn, drn, callee, wantedB, isW, eff, pev, pst0, retPost, resAll, resP, resV, intP, mkV, putC, pbin, peq, pint, pshift, pstr, pun, pconv, isShift, isConstB, app, subS, lay, rowsOf, lkV, keyKind, keyEq, mfind, mput, oInt, isZeroInt, forall_const, exists_eq_left', implies_true, IntKind.bits, ↓reduceIte, Nat.reduceEqDiff, Nat.reduceAdd, Nat.reduceSub, Nat.reduceMul, Nat.reduceLT, Nat.reduceLeDiff, Nat.reduceBEq, Int.reduceLE, Int.reduceLT, Int.reduceToNat, reduceCtorEq, Nat.ne_of_lt hnx, Nat.ne_of_gt hnx]
              rw [hmap, hw2]; try simp [fldCells, iPV]
            · (repeat (refine (if_neg (by omega)).trans ?_))
              exact hold id' hid'
      · refine ⟨newM xs, h, ⟨rfl, rfl⟩, ?_, Nat.le_refl _, same'⟩
        rw [bad (by omega)]
        simp [FrzTo, FrzL, nilP, errPV]
    · repeat' (first
        | (refine a_seq (fun K hK => ?_))
        | (refine a_block ?_)
        | (first | refine a_regionS ?_ | refine a_drawS (by decide +kernel) ?_ | refine a_region (fun K hK => ?_) | refine a_draw (by decide +kernel) (fun K hK => ?_) | refine a_ret ?_)
        | (refine a_skip ?_; try simp only [pst0, ↓reduceIte, Nat.reduceEqDiff])
        | (refine a_exit ?_; try simp only [pst0, ↓reduceIte, Nat.reduceEqDiff])
        | (refine a_cond _ (by (try simp (maxSteps := 2000000) only [am0, am1, am2, am3, amb0, amb1, amb2, amb3, amb4, lwn, drn, callee, wantedB, isW, eff, pev, pst0, retPost, resAll, resP, resV, intP, mkV, putC, pbin, peq, pint, pshift, pstr, pun, pconv, isShift, isConstB, app, subS, lay, rowsOf, lkV, keyKind, keyEq, mfind, mput, oInt, isZeroInt, forall_const, exists_eq_left', implies_true, IntKind.bits, ↓reduceIte, Nat.reduceEqDiff, Nat.reduceAdd, Nat.reduceSub, Nat.reduceMul, Nat.reduceLT, Nat.reduceLeDiff, Nat.reduceBEq, Int.reduceLE, Int.reduceLT, Int.reduceToNat, reduceCtorEq, Ty.all, h4, h15, h16, h17, h5, hob]); rfl) (fun hb => ?_) (fun hb => ?_) <;> (try simp only [hb0, decide_eq_true_eq, decide_eq_false_iff_not, reduceCtorEq] at hb) <;> (try (exfalso; omega)))
        | (with_reducible refine ite_in (fun hb => ?_) (fun hb => ?_) <;> (try simp only [Decidable.not_not] at hb) <;> (try simp only [hb, if_true, if_false, not_false_eq_true, not_true_eq_false, ↓reduceIte]) <;> (try simp only [hb0, decide_eq_true_eq, decide_eq_false_iff_not, reduceCtorEq] at hb) <;> (try (exfalso; omega)))
        | (refine hK _ _ ?_; clear hK; try simp only [pst0, ↓reduceIte, Nat.reduceEqDiff])
        | (clear hK; refine hK _ _ ?_; clear hK; try simp only [pst0, ↓reduceIte, Nat.reduceEqDiff])
        | (clear hK; clear hK; refine hK _ _ ?_; clear hK; try simp only [pst0, ↓reduceIte, Nat.reduceEqDiff])
        | (clear hK; clear hK; clear hK; refine hK _ _ ?_; clear hK; try simp only [pst0, ↓reduceIte, Nat.reduceEqDiff])
        | (with_reducible refine a_past _ rfl (by decide +kernel) ?_)
        | (with_reducible refine a_past2 (by simp only [List.forall_mem_cons, am0, am1, am2, am3, amb0, amb1, amb2, amb3, amb4, lwn, drn, callee, wantedB, isW, eff, pev, pst0, retPost, resAll, resP, resV, intP, mkV, putC, pbin, peq, pint, pshift, pstr, pun, pconv, isShift, isConstB, app, subS, lay, rowsOf, lkV, keyKind, keyEq, mfind, mput, oInt, isZeroInt, forall_const, exists_eq_left', implies_true, IntKind.bits, ↓reduceIte, Nat.reduceEqDiff, Nat.reduceAdd, Nat.reduceSub, Nat.reduceMul, Nat.reduceLT, Nat.reduceLeDiff, Nat.reduceBEq, Int.reduceLE, Int.reduceLT, Int.reduceToNat, reduceCtorEq, Ty.all, h4, h15, h16, h17, h5, hob]; (repeat' apply And.intro) <;> first | trivial | exact .inl (by decide +kernel)) ?_)
        | (rw [if_pos]; rotate_left 1; omega)
        | (simp (maxSteps := 2000000) only [am0, am1, am2, am3, amb0, amb1, amb2, amb3, amb4, lwn, drn, callee, wantedB, isW, eff, pev, pst0, retPost, resAll, resP, resV, intP, mkV, putC, pbin, peq, pint, pshift, pstr, pun, pconv, isShift, isConstB, app, subS, lay, rowsOf, lkV, keyKind, keyEq, mfind, mput, oInt, isZeroInt, forall_const, exists_eq_left', implies_true, IntKind.bits, ↓reduceIte, Nat.reduceEqDiff, Nat.reduceAdd, Nat.reduceSub, Nat.reduceMul, Nat.reduceLT, Nat.reduceLeDiff, Nat.reduceBEq, Int.reduceLE, Int.reduceLT, Int.reduceToNat, reduceCtorEq, Ty.all, h4, h15, h16, h17, h5, hob]))
      have hk' : k = xs.length := by omega
      subst hk'
      rw [List.take_length] at *
      have : checkM xs = 0 := by unfold checkM; rw [if_neg (by omega), if_pos hall]
      refine ⟨newM xs, h, ⟨rfl, rfl⟩, ?_, Nat.le_refl _, same'⟩
      unfold newM packerPV
      rw [this, if_pos rfl]
      simp only [FrzTo]
      refine ⟨_, rfl, ?_⟩
      simp only [FrzL, nilE]
      refine ⟨?_, by simp only [FrzTo], trivial⟩
      simp only [FrzTo]
      refine .inr ⟨_, _, _, _, _, _, rfl, Nat.le_refl _, hob, rfl, ?_⟩
      simp only [List.drop_zero, FrzL, iPV, FrzTo, and_true]
      rcases hfs with ⟨rfl, hnil⟩ | ⟨id, hid1, hid2, rfl, hid3⟩
      · right; left
        unfold fieldsM at *
        exact ⟨by rw [hnil]; rfl, .inr rfl⟩
      · refine .inr (.inr ⟨id, 0, _, _, rfl, by omega, hid3, by simp, ?_⟩)
        rw [List.drop_zero, List.take_of_length_le (by simp)]
        exact FrzR_same _ (fldRows_sc _)
end Go.Proofs.Ytmooliecnbhbjaa
