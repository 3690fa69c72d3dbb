/- What the claim rests on, part 4: the abstract machine, contracts of the functions, plain data. -/
import Derived.Test.YtjlkapgpjamnkaaZx3
set_option linter.unusedVariables false
set_option linter.unusedSimpArgs false
set_option linter.unusedSectionVars false
namespace Go.Proofs.Ytjlkapgpjamnkaa
open Go.AM
set_option maxHeartbeats 2000000
set_option maxRecDepth 20000
theorem wordM_ok {s : ByteArray} (h : s.size ≤ bigN) : (wordM s).ok := by
  simp only [wordM, Sx.ok, Sx.oks, List.length_nil]
  exact ⟨by omega, by omega, h, Nat.zero_le _, trivial⟩
theorem listM_ok {l : List Sx} (hl : l.length ≤ bigN) (h : Sx.oks l) : (listM l).ok := by
  simp only [listM, Sx.ok]
  refine ⟨by omega, by omega, by simp [bigN, ByteArray.size], hl, h⟩
theorem wordsM_ok {first : ByteArray} {l : List ByteArray} (h0 : first.size ≤ bigN) (hl : l.length ≤ 1048576) (h : ∀ s ∈ l, s.size ≤ bigN) : (wordsM first l).ok := by
  refine listM_ok (by simp [bigN]; omega) (Sx.oks_iff.2 ?_)
  intro k hk
  simp only [List.map_cons, List.mem_cons, List.mem_map] at hk
  rcases hk with rfl | ⟨s, hs, rfl⟩
  · exact wordM_ok h0
  · exact wordM_ok (h s hs)
theorem exW_ok : ∀ e : Ex, e.ok → e.small → (exW e).ok := by
  refine Ex.ind ?_
  intro op name n args kids ih hok hsm
  simp only [Ex.ok] at hok
  simp only [Ex.small] at hsm
  obtain ⟨hop, hname, hn, hargs, hkl, hks⟩ := hok
  rw [Ex.oks_iff] at hks
  have hsk := Ex.smalls_iff.1 hsm.2
  unfold exW
  split
  · simp only [Sx.ok, Sx.oks, List.length_nil]
    refine ⟨by omega, hn, by simp [bigN, ByteArray.size], by simp, trivial⟩
  · split
    · exact wordsM_ok hname hsm.1 hargs.2
    · split
      · rename_i a b
        refine listM_ok (by simp [bigN]) ?_
        simp only [Sx.oks]
        exact ⟨wordM_ok hop, ih a (by simp) (hks a (by simp)) (hsk a (by simp)), ih b (by simp) (hks b (by simp)) (hsk b (by simp)), trivial⟩
      · refine listM_ok (by simp [bigN]) ?_
        simp only [Sx.oks]
        exact ⟨wordM_ok hop, trivial⟩
theorem validE_c {e : Ex} (hok : e.ok) (hsm : e.small) (h : Heap) : PCall Try.prog 42 [.agg e.cells] h fun r h' => r = .sc (.bool (validE e)) ∧ h' = h := by
  have hf := formed_c e hok 0 0 (by omega) (by omega) h.next (h.new (.arr 1 [[.sc (.int .i64 0)]])) (by simp [Heap.new, cntO])
  have hsh := formedM_shaped e 0 0
  have hx := exW_ok e hok hsm
  have hv : validE e = ((formedM e 0 0).1 && (svalid (exW e) 0 0).1) := rfl
  rw [hv]
  refine PCall.quiet Ty.hb_42 ?_
  generalize formedM e 0 0 = W at hf hsh ⊢
  obtain ⟨b, c⟩ := W
  cases b with
  | false =>
    obtain ⟨op, name, n, args, kids⟩ := e
    simp only [Ex.cells, Int.natCast_zero] at hf ⊢
    refine pcall_body (ow := fun t => t == 5) (wf := fun _ => false) Ty.mixed Try.func42 rfl Ty.hb_42 (by rw [Try.ntmps42]; simp) ?_
    rw [Try.ntmps42, Try.results42]
    repeat' (first | (refine a_seq (fun K hK => ?_)) | (refine a_regionS ?_; simp (maxSteps := 2000000) only [Ty.w, simprocAttr]) | (refine hK _ _ ?_; clear hK; (try simp only [pst0, simprocAttr])))
    refine owp_useH (hf) (by (try simp only [Ty.w, simprocAttr, ]); try rfl) ?_; simp (maxSteps := 2000000) only [Ty.w, simprocAttr, ]
    repeat' (first | (refine a_ret ?_; simp (maxSteps := 2000000) only [Ty.w, simprocAttr]) | (refine hK _ _ ?_; clear hK; (try simp only [pst0, simprocAttr])))
    exact ((Grow.refl h).new _).set (Nat.le_refl _) _
  | true =>
    have hw := writeE_c e hsm (hsh rfl)
    have hvv := svalid_c hx
    generalize exW e = X at hw hvv ⊢
    obtain ⟨op, name, n, args, kids⟩ := e
    obtain ⟨ki, va, li, co, te, ks⟩ := X
    simp only [Ex.cells, Sx.cells, Int.natCast_zero] at hf hw hvv ⊢
    refine pcall_body (ow := fun t => t == 5) (wf := fun _ => false) Ty.mixed Try.func42 rfl Ty.hb_42 (by rw [Try.ntmps42]; simp) ?_
    rw [Try.ntmps42, Try.results42]
    repeat' (first | (refine a_seq (fun K hK => ?_)) | (refine a_regionS ?_; simp (maxSteps := 2000000) only [Ty.w, simprocAttr]) | (refine hK _ _ ?_; clear hK; (try simp only [pst0, simprocAttr])))
    refine owp_useH (hf) (by (try simp only [Ty.w, simprocAttr, ]); try rfl) ?_; simp (maxSteps := 2000000) only [Ty.w, simprocAttr, ]
    skip
    refine owp_useQ (hw _) (by (try simp only [Ty.w, simprocAttr, ]); try rfl) ?_; simp (maxSteps := 2000000) only [Ty.w, simprocAttr, ]
    skip
    refine owp_useQ (hvv _) (by (try simp only [Ty.w, simprocAttr, ]); try rfl) ?_; simp (maxSteps := 2000000) only [Ty.w, simprocAttr, ]
    repeat' (first | (refine a_ret ?_; simp (maxSteps := 2000000) only [Ty.w, simprocAttr]) | (refine hK _ _ ?_; clear hK; (try simp only [pst0, simprocAttr])))
    exact ((Grow.refl h).new _).set (Nat.le_refl _) _
/-- the error number n -/
def errV (n : Int) : PV := .sc (.iface 47 (.int .i64 n))
def zeroSx : Sx := .mk 0 0 0 0 ⟨#[]⟩ []
theorem WriteExpr_c {e : Ex} (hok : e.ok) (hsm : e.small) (h : Heap) : PCall Try.prog 40 [.agg e.cells] h fun r h' => r = (if validE e then .tup [.agg (exW e).cells, .sc .nilIface] else .tup [.agg zeroSx.cells, errV 2]) ∧ h' = h := by
  have hv := validE_c hok hsm
  refine PCall.frz Ty.hb_40 ?_
  cases hb : validE e with
  | false =>
    rw [hb] at hv
    obtain ⟨op, name, n, args, kids⟩ := e
    simp only [Ex.cells, Bool.false_eq_true, if_false] at hv ⊢
    refine pcall_body (ow := fun _ => false) (wf := fun _ => false) Ty.mixed Try.func40 rfl Ty.hb_40 (by rw [Try.ntmps40]; simp) ?_
    rw [Try.ntmps40, Try.results40]
    repeat' (first | (refine a_seq (fun K hK => ?_)) | (refine a_regionS ?_; simp (maxSteps := 2000000) only [Ty.w, simprocAttr]) | (refine hK _ _ ?_; clear hK; (try simp only [pst0, simprocAttr])))
    refine owp_useQ (hv _) (by (try simp only [Ty.w, simprocAttr, Bool.not_false]); try rfl) ?_; simp (maxSteps := 2000000) only [Ty.w, simprocAttr, Bool.not_false]
    repeat' (first | (refine a_seq (fun K hK => ?_)) | ((first | refine a_regionS ?_ | refine a_ret ?_); simp (maxSteps := 2000000) only [Ty.w, simprocAttr, Bool.not_false]) | (refine hK _ _ ?_; clear hK; (try simp only [pst0, simprocAttr])))
    refine ⟨?_, ((Grow.refl h).new _).set (Nat.le_refl _) _⟩
    simp only [zeroSx, errV, Sx.cells, Sx.rows, FrzTo, FrzL]
    exact ⟨_, rfl, ⟨_, rfl, rfl, rfl, rfl, rfl, rfl, .inr (.inl ⟨rfl, .inr rfl⟩), trivial⟩, rfl, trivial⟩
  | true =>
    rw [hb] at hv
    have hsh := formedM_shaped e 0 0 (by unfold validE at hb; simp only [Bool.and_eq_true] at hb; exact hb.1)
    have hw := writeE_c e hsm hsh
    have hfz := fun (n : Nat) (h : Heap) => sx_frz n h (exW e)
    generalize exW e = X at hw hfz ⊢
    obtain ⟨op, name, n, args, kids⟩ := e
    obtain ⟨ki, va, li, co, te, ks⟩ := X
    simp only [Ex.cells, Sx.cells, if_true] at hv hw hfz ⊢
    refine pcall_body (ow := fun _ => false) (wf := fun _ => false) Ty.mixed Try.func40 rfl Ty.hb_40 (by rw [Try.ntmps40]; simp) ?_
    rw [Try.ntmps40, Try.results40]
    repeat' (first | (refine a_seq (fun K hK => ?_)) | (refine a_regionS ?_; simp (maxSteps := 2000000) only [Ty.w, simprocAttr]) | (refine hK _ _ ?_; clear hK; (try simp only [pst0, simprocAttr])))
    refine owp_useQ (hv _) (by (try simp only [Ty.w, simprocAttr, Bool.not_true]); try rfl) ?_; simp (maxSteps := 2000000) only [Ty.w, simprocAttr, Bool.not_true]
    repeat' (first | (refine a_seq (fun K hK => ?_)) | (refine a_regionS ?_; simp (maxSteps := 2000000) only [Ty.w, simprocAttr, Bool.not_true]) | (refine a_skip ?_; (try simp only [pst0, simprocAttr])) | (refine a_cond _ (by (try simp (maxSteps := 2000000) only [Ty.w, simprocAttr, Bool.not_true]); rfl) (fun hb => ?_) (fun hb => ?_) <;> (try simp only [hb0, decide_eq_true_eq, decide_eq_false_iff_not, simprocAttr] at hb) <;> (try (exfalso; omega))) | (refine hK _ _ ?_; clear hK; (try simp only [pst0, simprocAttr])))
    refine owp_useQ (hw _) (by (try simp only [Ty.w, simprocAttr, ]); try rfl) ?_; simp (maxSteps := 2000000) only [Ty.w, simprocAttr, ]
    repeat' (first | (refine a_ret ?_; simp (maxSteps := 2000000) only [Ty.w, simprocAttr]) | (refine hK _ _ ?_; clear hK; (try simp only [pst0, simprocAttr])))
    refine ⟨?_, ((Grow.refl h).new _).set (Nat.le_refl _) _⟩
    simp only [FrzTo, FrzL]
    exact ⟨_, rfl, ⟨_, rfl, hfz _ _⟩, rfl, trivial⟩
end Go.Proofs.Ytjlkapgpjamnkaa
namespace Go.Proofs.Ytjlkapgpjamnkaa
open Go.AM
set_option maxHeartbeats 2000000
set_option maxRecDepth 20000
def kindOf : Sx → Int
  | .mk k _ _ _ _ _ => k
def textOf : Sx → ByteArray
  | .mk _ _ _ _ t _ => t
/-- the first word of a list, and the other elements -/
def headM : Sx → Option (ByteArray × List Sx)
  | .mk kind _ _ _ _ kids => if kind = 3 then (match kids with
    | x :: rest => bif kindOf x == 1 then some (textOf x, rest) else none
    | [] => none) else none
def headV : Option (ByteArray × List Sx) → PV
  | some (t, l) => .tup [sPV t, .imm 6 (Sx.rows l), .sc (.bool true)]
  | none => .tup [sPV ⟨#[]⟩, .sc (.slice none 0 0), .sc (.bool false)]
theorem head_c {x : Sx} (hok : x.ok) (h : Heap) : PCall Try.prog 113 [.agg x.cells] h fun r h' => r = headV (headM x) ∧ h' = h := by
  obtain ⟨kind, value, line, col, text, kids⟩ := x
  simp only [Sx.ok] at hok
  obtain ⟨_, _, _, hk, _⟩ := hok
  generalize hF : headM (.mk kind value line col text kids) = F
  simp only [headM] at hF
  simp only [Sx.cells]
  have hlen := Sx.rows_len kids
  cases k3 : (kind != 3) with
  | true =>
    rw [if_neg (by simpa using k3)] at hF
    subst hF
    refine pcall_body (ow := fun _ => false) (wf := fun _ => false) Ty.mixed Try.func113 rfl Ty.hb_113 (by rw [Try.ntmps113]; simp) ?_
    rw [Try.ntmps113, Try.results113]
    repeat' (first | (refine a_seq (fun K hK => ?_)) | ((first | refine a_regionS ?_ | refine a_ret ?_); simp (maxSteps := 2000000) only [Ty.w, simprocAttr, k3]) | (refine hK _ _ ?_; clear hK; (try simp only [pst0, simprocAttr])))
    all_goals rfl
  | false =>
    rw [if_pos (by simpa using k3)] at hF
    cases kids with
    | nil =>
      simp only at hF
      subst hF
      have q : (((Sx.rows []).length : Int) == 0) = true := rfl
      generalize Sx.rows [] = R at q hlen
      refine pcall_body (ow := fun _ => false) (wf := fun _ => false) Ty.mixed Try.func113 rfl Ty.hb_113 (by rw [Try.ntmps113]; simp) ?_
      rw [Try.ntmps113, Try.results113]
      repeat' (first | (refine a_seq (fun K hK => ?_)) | ((first | refine a_regionS ?_ | refine a_ret ?_); simp (maxSteps := 2000000) only [Ty.w, simprocAttr, k3, q]) | (refine hK _ _ ?_; clear hK; (try simp only [pst0, simprocAttr])))
      all_goals rfl
    | cons y rest =>
      simp only at hF
      have q : (((Sx.rows (y :: rest)).length : Int) == 0) = false := by rw [hlen]; simp; omega
      have r0 := Sx.rows_get (l := y :: rest) (i := 0) rfl
      have q1 : (1 : Int) ≤ ((Sx.rows (y :: rest)).length : Int) := by rw [hlen]; simp; omega
      have ht : List.take (((Sx.rows (y :: rest)).length : Int) - 1).toNat (List.drop 1 (Sx.rows (y :: rest))) = Sx.rows rest := by
        simp only [Sx.rows, List.drop_succ_cons, List.drop_zero, List.length_cons]
        rw [List.take_of_length_le (by omega)]
      generalize Sx.rows (y :: rest) = R at q r0 q1 ht hlen ⊢
      obtain ⟨ki, va, li, co, te, ks⟩ := y
      simp only [Sx.cells, kindOf, textOf] at r0 hF
      cases k1 : (ki != 1) with
      | true =>
        rw [show (ki == 1) = false by simpa using k1] at hF
        simp only [cond_false] at hF
        subst hF
        refine pcall_body (ow := fun _ => false) (wf := fun _ => false) Ty.mixed Try.func113 rfl Ty.hb_113 (by rw [Try.ntmps113]; simp) ?_
        rw [Try.ntmps113, Try.results113]
        repeat' (first | (refine a_seq (fun K hK => ?_)) | ((first | refine a_regionS ?_ | refine a_ret ?_); simp (maxSteps := 2000000) only [Ty.w, simprocAttr, k3, q, r0, k1]) | (refine hK _ _ ?_; clear hK; (try simp only [pst0, simprocAttr])))
        all_goals rfl
      | false =>
        rw [show (ki == 1) = true by simpa using k1] at hF
        simp only [cond_true] at hF
        subst hF
        refine pcall_body (ow := fun _ => false) (wf := fun _ => false) Ty.mixed Try.func113 rfl Ty.hb_113 (by rw [Try.ntmps113]; simp) ?_
        rw [Try.ntmps113, Try.results113]
        repeat' (first | (refine a_seq (fun K hK => ?_)) | ((first | refine a_regionS ?_ | refine a_drawS (by decide +kernel) ?_ | refine a_ret ?_); simp (maxSteps := 2000000) only [Ty.w, simprocAttr, k3, q, r0, k1, q1, ht, Option.getD_some, Option.getD_none, Int.le_refl, Int.toNat_one]) | (refine a_skip ?_; (try simp only [pst0, simprocAttr])) | (refine a_cond _ (by (try simp (maxSteps := 2000000) only [Ty.w, simprocAttr, k3, q, r0, k1, q1, ht, Option.getD_some, Option.getD_none, Int.le_refl, Int.toNat_one]); rfl) (fun hb => ?_) (fun hb => ?_) <;> (try simp only [hb0, decide_eq_true_eq, decide_eq_false_iff_not, simprocAttr] at hb) <;> (try (exfalso; omega))) | (refine hK _ _ ?_; clear hK; (try simp only [pst0, simprocAttr])))
        all_goals rfl
/-- the terms of a list, or an error's number -/
def termsM : List Sx → List ByteArray × Int
  | [] => ([], 0)
  | x :: l => bif kindOf x == 1 then (bif termB (textOf x) then (match termsM l with
    | (t, c) => bif c == 0 then (textOf x :: t, 0) else ([], c)) else ([], 8)) else ([], 2)
def errP (c : Int) : PV := bif c == 0 then .sc .nilIface else errV c
theorem termsM_code : ∀ l : List Sx, (termsM l).2 = 0 ∨ ((termsM l).1 = [] ∧ ((termsM l).2 = 2 ∨ (termsM l).2 = 8))
  | [] => .inl rfl
  | x :: l => by
    have := termsM_code l
    simp only [termsM]
    cases kindOf x == 1 with
    | false => simp
    | true =>
      cases termB (textOf x) with
      | false => simp
      | true =>
        simp only [cond_true]
        cases hq : (termsM l).2 == 0 with
        | false =>
          rcases this with h | h
          · rw [h] at hq; simp at hq
          · simp only [cond_false, true_and]; exact .inr h.2
        | true => simp
theorem strs_frz (n : Nat) (h : Heap) (l : List ByteArray) : FrzR n h (strRows l) (strRows l) := by
  refine FrzR_sc _ ?_
  intro r hr p hp
  simp only [strRows, List.mem_map] at hr
  obtain ⟨s, _, rfl⟩ := hr
  simp only [List.mem_singleton] at hp
  exact ⟨_, hp⟩
theorem tl_frzS {h : Heap} {id0 : Nat} {p : PV} {l : List ByteArray} (t : Tl h id0 1 p (strRows l)) : FrzTo id0 h (.imm 1 (strRows l)) p := t.frz fun r hr p hp => by
  simp only [strRows, List.mem_map] at hr
  obtain ⟨s, _, rfl⟩ := hr
  simp only [List.mem_singleton] at hp
  exact ⟨_, hp⟩
theorem terms_c {l : List Sx} (hl : l.length ≤ 1048576) (hok : ∀ x ∈ l, x.ok) (h : Heap) : PCall Try.prog 118 [.imm 6 (Sx.rows l)] h fun r h' => r = .tup [.imm 1 (strRows (termsM l).1), errP (termsM l).2] ∧ h' = h := by
  refine PCall.frz Ty.hb_118 ?_
  have hll := Sx.rows_len l
  refine pcall_body (ow := fun _ => false) (wf := fun _ => false) Ty.mixed Try.func118 rfl Ty.hb_118 (by rw [Try.ntmps118]; simp) ?_
  rw [Try.ntmps118, Try.results118]
  repeat' (first | (refine a_seq (fun K hK => ?_)) | (refine a_block ?_) | (refine a_regionS ?_; simp (maxSteps := 2000000) only [Ty.w, simprocAttr, hll]) | (refine hK _ _ ?_; clear hK; (try simp only [pst0, simprocAttr])))
  refine a_loop (fun m S h' => S 7 = .imm 6 (Sx.rows l) ∧ S 8 = .sc (.int .i64 l.length) ∧ ∃ (k : Nat) (o : PV) (pre : List ByteArray), S 9 = .sc (.int .i64 k) ∧ S 4 = o ∧ k ≤ l.length ∧ m = l.length - k ∧ Grow h h' ∧ pre.length = k ∧ Tl h' h.next 1 o (strRows pre) ∧
    termsM l = (match termsM (l.drop k) with | (t, c) => bif c == 0 then (pre ++ t, 0) else ([], c))) l.length ?_ ?_
  · simp only [Ty.w, simprocAttr]
    refine ⟨0, _, [], rfl, rfl, by omega, rfl, Grow.refl _, rfl, Tl.nil, ?_⟩
    have := termsM_code l
    rw [List.drop_zero]
    cases hq : (termsM l).2 == 0
    · rcases this with h | h
      · rw [h] at hq; simp at hq
      · simp only [hq, cond_false]; rw [← h.1]
    · have h0 : (termsM l).2 = 0 := by simpa using hq
      simp only [hq, cond_true, List.nil_append]; rw [← h0]
  · rintro m S h' ⟨g7, g8, k, o, pre, g9, g4, hk, rfl, hg, hpl, tl, hinv⟩
    by_cases hlt : k < l.length
    · have hd : decide ((k : Int) < (l.length : Int)) = true := by simp; omega
      have w7 : IntKind.i64.wrap ((k : Int) + 1) = k + 1 := by rw [wrap64 (by omega) (by omega)]
      obtain ⟨x, hx⟩ : ∃ x, l[k]? = some x := ⟨_, List.getElem?_eq_getElem hlt⟩
      have hr := Sx.rows_get hx
      have hxk := hok x (List.mem_of_getElem? hx)
      rw [drop_of_get hx] at hinv
      simp only [termsM] at hinv
      obtain ⟨ki, va, li, co, te, ks⟩ := x
      simp only [Sx.ok] at hxk
      obtain ⟨_, _, hte, _⟩ := hxk
      simp only [Sx.cells] at hr
      simp only [kindOf, textOf] at hinv
      have nz : ∀ id, id < h'.next → (id = h'.next) = False := fun id hi => by simp; omega
      have tl2 := tl.up (h' := (h'.new (.arr 6 [[.sc (.int .i64 0), .sc (.int .i64 0), .sc (.int .i64 0), .sc (.int .i64 0), .sc (.string ⟨#[]⟩), .sc (.slice none 0 0)]])).set h'.next (.arr 6 [[.sc (.int .i64 ki), .sc (.int .i64 va), .sc (.int .i64 li), .sc (.int .i64 co), sPV te, .imm 6 (Sx.rows ks)]])) (by simp [Heap.new, Heap.set]) (fun j _ hj => by simp only [Heap.new, Heap.set]; rw [if_neg (by omega), if_neg (by omega)])
      have hg2 : Grow h ((h'.new (.arr 6 [[.sc (.int .i64 0), .sc (.int .i64 0), .sc (.int .i64 0), .sc (.int .i64 0), .sc (.string ⟨#[]⟩), .sc (.slice none 0 0)]])).set h'.next (.arr 6 [[.sc (.int .i64 ki), .sc (.int .i64 va), .sc (.int .i64 li), .sc (.int .i64 co), sPV te, .imm 6 (Sx.rows ks)]])) := (hg.new _).set hg.le _
      cases q1 : (ki != 1) with
      | true =>
        rw [show (ki == 1) = false by simpa using q1] at hinv
        simp only [cond_false] at hinv
        repeat' (first | (refine a_seq (fun K hK => ?_)) | ((first | refine a_regionS ?_ | refine a_ret ?_); simp (maxSteps := 2000000) only [Ty.w, simprocAttr, g7, g8, g9, g4, hd, hr, q1]) | (refine a_skip ?_; (try simp only [pst0, simprocAttr])) | (refine a_cond _ (by (try simp (maxSteps := 2000000) only [Ty.w, simprocAttr, g7, g8, g9, g4, hd, hr, q1]); rfl) (fun hb => ?_) (fun hb => ?_) <;> (try simp only [hb0, decide_eq_true_eq, decide_eq_false_iff_not, simprocAttr] at hb) <;> (try (exfalso; omega))) | (refine hK _ _ ?_; clear hK; (try simp only [pst0, simprocAttr])))
        have e : termsM l = ([], 2) := hinv
        have e2 : errP 2 = errV 2 := rfl
        rw [e, e2]
        refine ⟨?_, hg2⟩
        simp only [errV, FrzTo, FrzL]
        exact ⟨_, rfl, .inr (.inl ⟨rfl, .inr rfl⟩), rfl, trivial⟩
      | false =>
        rw [show (ki == 1) = true by simpa using q1] at hinv
        simp only [cond_true] at hinv
        have hc := fun h : Heap => term_c (h := h) hte
        generalize termB te = b at hc hinv
        cases b with
        | false =>
          simp only [cond_false] at hinv
          repeat' (first | (refine a_seq (fun K hK => ?_)) | (refine a_regionS ?_; simp (maxSteps := 2000000) only [Ty.w, simprocAttr, g7, g8, g9, g4, hd, hr, q1]) | (refine a_skip ?_; (try simp only [pst0, simprocAttr])) | (refine a_cond _ (by (try simp (maxSteps := 2000000) only [Ty.w, simprocAttr, g7, g8, g9, g4, hd, hr, q1]); rfl) (fun hb => ?_) (fun hb => ?_) <;> (try simp only [hb0, decide_eq_true_eq, decide_eq_false_iff_not, simprocAttr] at hb) <;> (try (exfalso; omega))) | (refine hK _ _ ?_; clear hK; (try simp only [pst0, simprocAttr])))
          refine owp_useQ (hc _) (by (try simp only [Ty.w, simprocAttr, g7, g8, g9, g4, hd, hr, q1, Bool.not_false]); try rfl) ?_; simp (maxSteps := 2000000) only [Ty.w, simprocAttr, g7, g8, g9, g4, hd, hr, q1, Bool.not_false]
          repeat' (first | (refine a_seq (fun K hK => ?_)) | ((first | refine a_regionS ?_ | refine a_ret ?_); simp (maxSteps := 2000000) only [Ty.w, simprocAttr, g7, g8, g9, g4, Bool.not_false]) | (refine hK _ _ ?_; clear hK; (try simp only [pst0, simprocAttr])))
          have e : termsM l = ([], 8) := hinv
          have e2 : errP 8 = errV 8 := rfl
          rw [e, e2]
          refine ⟨?_, hg2⟩
          simp only [errV, FrzTo, FrzL]
          exact ⟨_, rfl, .inr (.inl ⟨rfl, .inr rfl⟩), rfl, trivial⟩
        | true =>
          simp only [cond_true] at hinv
          obtain ⟨H, t1, t2, t3, t4, t5⟩ := tl2.tail
          have hpr : (strRows pre).length = k := by rw [strRows_len]; exact hpl
          have hb : (k + 1) * 16 ≤ 140737488355328 := by omega
          repeat' (first | (refine a_seq (fun K hK => ?_)) | (refine a_regionS ?_; simp (maxSteps := 2000000) only [Ty.w, simprocAttr, g7, g8, g9, g4, hd, hr, q1]) | (refine a_skip ?_; (try simp only [pst0, simprocAttr])) | (refine a_cond _ (by (try simp (maxSteps := 2000000) only [Ty.w, simprocAttr, g7, g8, g9, g4, hd, hr, q1]); rfl) (fun hb => ?_) (fun hb => ?_) <;> (try simp only [hb0, decide_eq_true_eq, decide_eq_false_iff_not, simprocAttr] at hb) <;> (try (exfalso; omega))) | (refine hK _ _ ?_; clear hK; (try simp only [pst0, simprocAttr])))
          refine owp_useQ (hc _) (by (try simp only [Ty.w, simprocAttr, g7, g8, g9, g4, hd, hr, q1, Bool.not_true]); try rfl) ?_; simp (maxSteps := 2000000) only [Ty.w, simprocAttr, g7, g8, g9, g4, hd, hr, q1, Bool.not_true]
          repeat' (first | ((first | refine a_regionS ?_ | refine a_region (fun K hK => ?_)); simp (maxSteps := 2000000) only [Ty.w, simprocAttr, g7, g8, g9, g4, w7, Bool.not_true, t1, t2, hpr, hb]) | (refine a_skip ?_; (try simp only [pst0, simprocAttr])) | (refine a_cond _ (by (try simp (maxSteps := 2000000) only [Ty.w, simprocAttr, g7, g8, g9, g4, w7, Bool.not_true, t1, t2, hpr, hb]); rfl) (fun hb => ?_) (fun hb => ?_) <;> (try simp only [hb0, decide_eq_true_eq, decide_eq_false_iff_not, simprocAttr] at hb) <;> (try (exfalso; omega))) | (refine hK _ _ ?_; clear hK; (try simp only [pst0, simprocAttr])) | (rw [if_pos]; rotate_left 1; omega; simp (maxSteps := 2000000) only [Ty.w, simprocAttr, g7, g8, g9, g4, w7, Bool.not_true, t1, t2, hpr, hb]))
          have t3' : H.next = h'.next + 1 := by rw [t3]; simp [Heap.new, Heap.set]
          have hkp := t5 h ⟨hg2.le, hg2.old⟩ (Nat.le_refl _)
          have hgH : Grow h H := ⟨hkp.1, hkp.2⟩
          have hap : strRows pre ++ [[PV.sc (.string te)]] = strRows (pre ++ [te]) := by simp [strRows]
          rw [hap]
          refine ⟨l.length - (k + 1), by omega, k + 1, .own H.next 0 (k + 1), pre ++ [te], by simp, by rw [t3'], by omega, rfl, hgH.new _, by simp [hpl], Tl.grow hkp.1 (by rw [strRows_len]; simp [hpl]), ?_⟩
          rw [hinv]
          generalize termsM (List.drop (k + 1) l) = W
          obtain ⟨t, c⟩ := W
          cases hq : c == 0 with
          | false => simp only [hq, cond_false]
          | true => simp only [hq, cond_true, beq_self_eq_true, List.append_assoc, List.cons_append, List.nil_append]
    · have hd : decide ((k : Int) < (l.length : Int)) = false := by simp; omega
      rw [List.drop_eq_nil_of_le (by omega)] at hinv
      simp only [termsM, beq_self_eq_true, cond_true, List.append_nil] at hinv
      repeat' (first | (refine a_seq (fun K hK => ?_)) | ((first | refine a_regionS ?_ | refine a_ret ?_); simp (maxSteps := 2000000) only [Ty.w, simprocAttr, g7, g8, g9, g4, hd]) | (refine a_exit ?_; (try simp only [pst0, simprocAttr])) | (refine a_cond _ (by (try simp (maxSteps := 2000000) only [Ty.w, simprocAttr, g7, g8, g9, g4, hd]); rfl) (fun hb => ?_) (fun hb => ?_) <;> (try simp only [hb0, decide_eq_true_eq, decide_eq_false_iff_not, simprocAttr] at hb) <;> (try (exfalso; omega))) | ((first | refine hK _ _ ?_ | (clear hK; refine hK _ _ ?_)); clear hK; (try simp only [pst0, simprocAttr])))
      have e : termsM l = (pre, 0) := hinv
      have e2 : errP 0 = .sc .nilIface := rfl
      rw [e, e2]
      refine ⟨?_, hg⟩
      have h1 := tl_frzS tl
      unfold FrzTo
      refine ⟨_, rfl, ?_⟩
      unfold FrzL
      refine ⟨h1, ?_⟩
      unfold FrzL
      exact ⟨by simp only [FrzTo], by simp only [FrzL]⟩
end Go.Proofs.Ytjlkapgpjamnkaa
namespace Go.Proofs.Ytjlkapgpjamnkaa
open Go.AM
def isPm (w : ByteArray) : Bool := bEq w opPls || bEq w opMin || bEq w opTim
def zeroEx : Ex := .mk ⟨#[]⟩ ⟨#[]⟩ 0 [] []
/-- the expression with a notation and 0, or an error's number -/
def exprP : Sx → Ex × Int
  | .mk kind value _ _ _ kids =>
    if kind = 2 then (.mk opNum ⟨#[]⟩ value [] [], 0)
    else if kind = 3 then (match kids with
      | x :: rest => bif kindOf x == 1 then
          (bif isPm (textOf x) then (match rest with
            | [a, b] => (match exprP a with
              | (ea, ca) => bif ca == 0 then (match exprP b with
                | (eb, cb) => bif cb == 0 then (.mk (textOf x) ⟨#[]⟩ 0 [] [ea, eb], 0) else (zeroEx, cb)) else (zeroEx, ca))
            | _ => (zeroEx, 2))
          else bif nameB (textOf x) then (match termsM rest with
            | (t, c) => bif c == 0 then (.mk opFlu (textOf x) 0 t [], 0) else (zeroEx, c)) else (zeroEx, 8))
        else (zeroEx, 2)
      | [] => (zeroEx, 2)) else (zeroEx, 2)
termination_by x => SizeOf.sizeOf x
decreasing_by all_goals (simp_wf; omega)
theorem bEq_eq {a b : ByteArray} (h : bEq a b = true) : a = b := ba_ext (by simpa [bEq] using h)
theorem termsM_words : ∀ l : List ByteArray, l.all termB = true → termsM (l.map wordM) = (l, 0)
  | [], _ => rfl
  | s :: l, h => by
    simp only [List.all_cons, Bool.and_eq_true] at h
    have h1 : kindOf (wordM s) = 1 := rfl
    have h2 : textOf (wordM s) = s := rfl
    simp only [List.map_cons, termsM, h1, h2, h.1, termsM_words l h.2, beq_self_eq_true, cond_true]
theorem name_not_pm {s : ByteArray} (h : nameB s = true) : isPm s = false := by
  have hb : bytesOkB s.data.toList = true := by
    unfold nameB at h
    simp only [Bool.and_eq_true] at h
    exact h.1.1.1
  have hn : ∀ c : UInt8, letB c = false → bEq s ⟨#[c]⟩ = false := by
    intro c hc
    cases he : bEq s ⟨#[c]⟩ with
    | false => rfl
    | true =>
      have := bEq_eq he
      subst this
      simp [bytesOkB, hc] at hb
  unfold isPm opPls opMin opTim
  rw [hn 43 (by decide), hn 45 (by decide), hn 42 (by decide)]; try rfl
theorem exprP_exW : ∀ e : Ex, shapedE e = true → exprP (exW e) = (e, 0) := by
  refine Ex.ind ?_
  intro op name v args kids ih hs
  unfold shapedE at hs
  unfold exW
  cases c1 : bEq op opNum with
  | true =>
    rw [c1] at hs
    simp only [if_true, Bool.and_eq_true, List.isEmpty_iff] at hs ⊢
    obtain ⟨⟨⟨h1, rfl⟩, rfl⟩, _⟩ := hs
    have h2 := bEq_eq c1
    have h3 : name = ⟨#[]⟩ := bEq_eq h1
    subst h2; subst h3
    unfold exprP
    simp
  | false =>
    rw [c1] at hs
    simp only [Bool.false_eq_true, if_false] at hs ⊢
    cases c2 : bEq op opFlu with
    | true =>
      rw [c2] at hs
      simp only [if_true, Bool.and_eq_true, List.isEmpty_iff, decide_eq_true_eq] at hs ⊢
      obtain ⟨⟨⟨rfl, rfl⟩, h1⟩, h2⟩ := hs
      have h3 := bEq_eq c2
      subst h3
      unfold exprP wordsM listM
      have k1 : kindOf (wordM name) = 1 := rfl
      have k2 : textOf (wordM name) = name := rfl
      simp only [List.map_cons, k1, k2, name_not_pm h1, h1, termsM_words args h2, beq_self_eq_true, cond_true, cond_false]
      simp
    | false =>
      rw [c2] at hs
      simp only [Bool.false_eq_true, if_false] at hs ⊢
      split at hs
      case isFalse => simp at hs
      rename_i hop
      simp only [Bool.and_eq_true, List.isEmpty_iff, decide_eq_true_eq] at hs
      obtain ⟨⟨⟨rfl, h1⟩, rfl⟩, h2⟩ := hs
      split at h2
      case h_2 => simp at h2
      rename_i a b
      simp only [Bool.and_eq_true] at h2
      have h3 : name = ⟨#[]⟩ := bEq_eq h1
      subst h3
      unfold exprP listM
      have k1 : kindOf (wordM op) = 1 := rfl
      have k2 : textOf (wordM op) = op := rfl
      have k3 : isPm op = true := hop
      simp only [k1, k2, k3, ih a (by simp) h2.1, ih b (by simp) h2.2, beq_self_eq_true, cond_true]
      simp
end Go.Proofs.Ytjlkapgpjamnkaa
namespace Go.Proofs.Ytjlkapgpjamnkaa
open Go.AM
set_option maxHeartbeats 4000000
set_option maxRecDepth 20000
theorem exprP_head (x : Sx) : exprP x = (bif kindOf x == 2 then (match x with | .mk _ v _ _ _ _ => (.mk opNum ⟨#[]⟩ v [] [], 0)) else (match headM x with
    | none => (zeroEx, 2)
    | some (w, rest) => bif isPm w then (match rest with
        | [a, b] => (match exprP a with
          | (ea, ca) => bif ca == 0 then (match exprP b with
            | (eb, cb) => bif cb == 0 then (.mk w ⟨#[]⟩ 0 [] [ea, eb], 0) else (zeroEx, cb)) else (zeroEx, ca))
        | _ => (zeroEx, 2))
      else bif nameB w then (match termsM rest with
        | (t, c) => bif c == 0 then (.mk opFlu w 0 t [], 0) else (zeroEx, c)) else (zeroEx, 8))) := by
  obtain ⟨kind, value, line, col, text, kids⟩ := x
  conv => lhs; unfold exprP
  have kk : kindOf (.mk kind value line col text kids) = kind := rfl
  rw [kk]
  simp only [headM]
  cases h2 : kind == 2 with
  | true =>
    rw [if_pos (by simpa using h2)]; try rfl
  | false =>
    rw [if_neg (by simpa using h2)]
    simp only [cond_false]
    by_cases h3 : kind = 3
    · rw [if_pos h3, if_pos h3]
      cases kids with
      | nil => rfl
      | cons y rest => cases hk : kindOf y == 1 <;> simp only [hk, cond_true, cond_false] <;> rfl
    · rw [if_neg h3, if_neg h3]
theorem headM_ok {x : Sx} {w : ByteArray} {rest : List Sx} (hok : x.ok) (h : headM x = some (w, rest)) : w.size ≤ bigN ∧ ∀ y ∈ rest, y.ok := by
  obtain ⟨kind, value, line, col, text, kids⟩ := x
  simp only [Sx.ok] at hok
  obtain ⟨_, _, _, _, hks⟩ := hok
  simp only [headM] at h
  split at h
  · cases kids with
    | nil => simp at h
    | cons y r =>
      simp only [Sx.oks] at hks
      simp only at h
      cases hk : kindOf y == 1 with
      | false => rw [hk] at h; simp at h
      | true =>
        rw [hk] at h
        simp only [cond_true, Option.some.injEq, Prod.mk.injEq] at h
        obtain ⟨rfl, rfl⟩ := h
        refine ⟨?_, Sx.oks_iff.1 hks.2⟩
        obtain ⟨_, _, _, _, t, _⟩ := y
        simp only [Sx.ok] at hks
        exact hks.1.2.2.1
  · simp at h
theorem ex_in (n : Nat) : ∀ e : Ex, inNL n e.cells := by
  have hs : ∀ l : List ByteArray, inNR n (strRows l) := by
    intro l
    induction l with
    | nil => simp only [strRows, List.map_nil, inNR]
    | cons a l ih => simp only [strRows, List.map_cons, inNR, inNL, inN, and_true, true_and] at ih ⊢; exact ih
  refine Ex.ind ?_
  intro op name v args kids ih
  have : inNR n (Ex.rows kids) := by
    clear op name v args
    induction kids with
    | nil => simp only [Ex.rows, inNR]
    | cons k ks ih2 =>
      simp only [Ex.rows, inNR]
      exact ⟨ih k (by simp), ih2 fun q hq => ih q (by simp [hq])⟩
  simp only [Ex.cells, inNL, inN, and_true, true_and]
  exact ⟨hs args, this⟩
theorem strs_in (n : Nat) (l : List ByteArray) : inNR n (strRows l) := by
  induction l with
  | nil => simp only [strRows, List.map_nil, inNR]
  | cons a l ih => simp only [strRows, List.map_cons, inNR, inNL, inN, and_true, true_and] at ih ⊢; exact ih
theorem expr_plain_c {x : Sx} (hok : x.ok) (hsm : ∀ w rest, headM x = some (w, rest) → rest.length ≤ 1048576) (hpm : kindOf x = 2 ∨ ∀ w rest, headM x = some (w, rest) → isPm w = false) (h : Heap) :
    PCall Try.prog 75 [.agg x.cells] h fun r h' => r = .tup [.agg (exprP x).1.cells, errP (exprP x).2] ∧ h' = h := by
  refine PCall.frz Ty.hb_75 ?_
  have hh := head_c hok
  have hX := exprP_head x
  generalize exprP x = F at hX
  have hho := fun w rest e => headM_ok (w := w) (rest := rest) hok e
  generalize headM x = M at hh hX hsm hpm hho
  obtain ⟨kind, value, line, col, text, kids⟩ := x
  have kk : kindOf (.mk kind value line col text kids) = kind := rfl
  rw [kk] at hX hpm
  simp only [Sx.cells] at hh ⊢
  cases k2 : (kind == 2) with
  | true =>
    simp only [k2, cond_true] at hX
    subst hX
    refine pcall_body (ow := fun _ => false) (wf := fun _ => false) Ty.mixed Try.func75 rfl Ty.hb_75 (by rw [Try.ntmps75]; simp) ?_
    rw [Try.ntmps75, Try.results75]
    repeat' (first | (refine a_seq (fun K hK => ?_)) | ((first | refine a_regionS ?_ | refine a_ret ?_); simp (maxSteps := 2000000) only [Ty.w, simprocAttr, k2]) | (refine hK _ _ ?_; clear hK; (try simp only [pst0, simprocAttr])))
    refine ⟨?_, ((Grow.refl h).new _).set (Nat.le_refl _) _⟩
    simp only [errP, beq_self_eq_true, cond_true, opNum, Ex.cells, Ex.rows, strRows, List.map_nil, FrzTo, FrzL]
    exact ⟨_, rfl, ⟨_, rfl, rfl, rfl, rfl, .inr (.inl ⟨rfl, .inr rfl⟩), .inr (.inl ⟨rfl, .inr rfl⟩), trivial⟩, rfl, trivial⟩
  | false =>
    have hk2 : ¬ kind = 2 := by simpa using k2
    simp only [k2, cond_false] at hX
    have hpm := hpm.resolve_left hk2
    cases M with
    | none =>
      simp only at hX
      subst hX
      simp only [headV] at hh
      refine pcall_body (ow := fun _ => false) (wf := fun _ => false) Ty.mixed Try.func75 rfl Ty.hb_75 (by rw [Try.ntmps75]; simp) ?_
      rw [Try.ntmps75, Try.results75]
      repeat' (first | (refine a_seq (fun K hK => ?_)) | (refine a_regionS ?_; simp (maxSteps := 2000000) only [Ty.w, simprocAttr, k2]) | (refine a_skip ?_; (try simp only [pst0, simprocAttr])) | (refine a_cond _ (by (try simp (maxSteps := 2000000) only [Ty.w, simprocAttr, k2]); rfl) (fun hb => ?_) (fun hb => ?_) <;> (try simp only [hb0, decide_eq_true_eq, decide_eq_false_iff_not, simprocAttr] at hb) <;> (try (exfalso; omega))) | (refine hK _ _ ?_; clear hK; (try simp only [pst0, simprocAttr])))
      refine owp_useQ (hh _) (by (try simp only [Ty.w, simprocAttr, k2, Bool.not_false]); try rfl) ?_; simp (maxSteps := 2000000) only [Ty.w, simprocAttr, k2, Bool.not_false]
      repeat' (first | (refine a_seq (fun K hK => ?_)) | ((first | refine a_regionS ?_ | refine a_ret ?_); simp (maxSteps := 2000000) only [Ty.w, simprocAttr, k2, Bool.not_false]) | (refine hK _ _ ?_; clear hK; (try simp only [pst0, simprocAttr])))
      refine ⟨?_, ((Grow.refl h).new _).set (Nat.le_refl _) _⟩
      have e2 : errP 2 = errV 2 := rfl
      simp only [e2, errV, zeroEx, Ex.cells, Ex.rows, strRows, List.map_nil, FrzTo, FrzL]
      exact ⟨_, rfl, ⟨_, rfl, rfl, rfl, rfl, .inr (.inl ⟨rfl, .inr rfl⟩), .inr (.inl ⟨rfl, .inr rfl⟩), trivial⟩, rfl, trivial⟩
    | some wr =>
      obtain ⟨w, rest⟩ := wr
      have hp := hpm w rest rfl
      obtain ⟨hw, hr⟩ := hho w rest rfl
      have hl := hsm w rest rfl
      have hw' : w.size ≤ 9223372036854775807 := by unfold bigN at hw; omega
      simp only [hp, cond_false] at hX
      simp only [headV] at hh
      have hp' := hp
      unfold isPm opPls opMin opTim bEq at hp'
      rw [Bool.or_eq_false_iff, Bool.or_eq_false_iff] at hp'
      obtain ⟨⟨p1, p2⟩, p3⟩ := hp'
      have hn := fun h : Heap => fname_c (h := h) hw'
      generalize nameB w = b at hn hX
      cases b with
      | false =>
        simp only [cond_false] at hX
        subst hX
        refine pcall_body (ow := fun _ => false) (wf := fun _ => false) Ty.mixed Try.func75 rfl Ty.hb_75 (by rw [Try.ntmps75]; simp) ?_
        rw [Try.ntmps75, Try.results75]
        repeat' (first | (refine a_seq (fun K hK => ?_)) | (refine a_regionS ?_; simp (maxSteps := 2000000) only [Ty.w, simprocAttr, k2]) | (refine a_skip ?_; (try simp only [pst0, simprocAttr])) | (refine a_cond _ (by (try simp (maxSteps := 2000000) only [Ty.w, simprocAttr, k2]); rfl) (fun hb => ?_) (fun hb => ?_) <;> (try simp only [hb0, decide_eq_true_eq, decide_eq_false_iff_not, simprocAttr] at hb) <;> (try (exfalso; omega))) | (refine hK _ _ ?_; clear hK; (try simp only [pst0, simprocAttr])))
        refine owp_useQ (hh _) (by (try simp only [Ty.w, simprocAttr, k2, Bool.not_true]); try rfl) ?_; simp (maxSteps := 2000000) only [Ty.w, simprocAttr, k2, Bool.not_true]
        repeat' (first | (refine a_seq (fun K hK => ?_)) | (refine a_regionS ?_; simp (maxSteps := 2000000) only [Ty.w, simprocAttr, k2, p1, p2, p3, Bool.not_true, Bool.not_false]) | (refine a_skip ?_; (try simp only [pst0, simprocAttr])) | (refine a_cond _ (by (try simp (maxSteps := 2000000) only [Ty.w, simprocAttr, k2, p1, p2, p3, Bool.not_true, Bool.not_false]); rfl) (fun hb => ?_) (fun hb => ?_) <;> (try simp only [hb0, decide_eq_true_eq, decide_eq_false_iff_not, simprocAttr] at hb) <;> (try (exfalso; omega))) | (refine hK _ _ ?_; clear hK; (try simp only [pst0, simprocAttr])))
        refine owp_useQ (hn _) (by (try simp only [Ty.w, simprocAttr, k2, Bool.not_false]); try rfl) ?_; simp (maxSteps := 2000000) only [Ty.w, simprocAttr, k2, Bool.not_false]
        repeat' (first | (refine a_seq (fun K hK => ?_)) | ((first | refine a_regionS ?_ | refine a_ret ?_); simp (maxSteps := 2000000) only [Ty.w, simprocAttr, k2, Bool.not_false]) | (refine hK _ _ ?_; clear hK; (try simp only [pst0, simprocAttr])))
        refine ⟨?_, ((Grow.refl h).new _).set (Nat.le_refl _) _⟩
        have e2 : errP 8 = errV 8 := rfl
        simp only [e2, errV, zeroEx, Ex.cells, Ex.rows, strRows, List.map_nil, FrzTo, FrzL]
        exact ⟨_, rfl, ⟨_, rfl, rfl, rfl, rfl, .inr (.inl ⟨rfl, .inr rfl⟩), .inr (.inl ⟨rfl, .inr rfl⟩), trivial⟩, rfl, trivial⟩
      | true =>
        simp only [cond_true] at hX
        have ht := terms_c hl hr
        generalize termsM rest = T at ht hX
        obtain ⟨t, c⟩ := T
        simp only at ht hX
        cases hc : c == 0 with
        | true =>
          rw [hc, cond_true] at hX
          subst hX
          have e0 : errP c = .sc .nilIface := by simp only [errP, hc, cond_true]
          rw [e0] at ht
          refine pcall_body (ow := fun _ => false) (wf := fun _ => false) Ty.mixed Try.func75 rfl Ty.hb_75 (by rw [Try.ntmps75]; simp) ?_
          rw [Try.ntmps75, Try.results75]
          repeat' (first | (refine a_seq (fun K hK => ?_)) | (refine a_regionS ?_; simp (maxSteps := 2000000) only [Ty.w, simprocAttr, k2]) | (refine a_skip ?_; (try simp only [pst0, simprocAttr])) | (refine a_cond _ (by (try simp (maxSteps := 2000000) only [Ty.w, simprocAttr, k2]); rfl) (fun hb => ?_) (fun hb => ?_) <;> (try simp only [hb0, decide_eq_true_eq, decide_eq_false_iff_not, simprocAttr] at hb) <;> (try (exfalso; omega))) | (refine hK _ _ ?_; clear hK; (try simp only [pst0, simprocAttr])))
          refine owp_useQ (hh _) (by (try simp only [Ty.w, simprocAttr, k2, Bool.not_true]); try rfl) ?_; simp (maxSteps := 2000000) only [Ty.w, simprocAttr, k2, Bool.not_true]
          repeat' (first | (refine a_seq (fun K hK => ?_)) | (refine a_regionS ?_; simp (maxSteps := 2000000) only [Ty.w, simprocAttr, k2, p1, p2, p3, Bool.not_true, Bool.not_false]) | (refine a_skip ?_; (try simp only [pst0, simprocAttr])) | (refine a_cond _ (by (try simp (maxSteps := 2000000) only [Ty.w, simprocAttr, k2, p1, p2, p3, Bool.not_true, Bool.not_false]); rfl) (fun hb => ?_) (fun hb => ?_) <;> (try simp only [hb0, decide_eq_true_eq, decide_eq_false_iff_not, simprocAttr] at hb) <;> (try (exfalso; omega))) | (refine hK _ _ ?_; clear hK; (try simp only [pst0, simprocAttr])))
          refine owp_useQ (hn _) (by (try simp only [Ty.w, simprocAttr, k2, Bool.not_true]); try rfl) ?_; simp (maxSteps := 2000000) only [Ty.w, simprocAttr, k2, Bool.not_true]
          repeat' (first | (refine a_seq (fun K hK => ?_)) | (refine a_regionS ?_; simp (maxSteps := 2000000) only [Ty.w, simprocAttr, k2, Bool.not_true]) | (refine a_skip ?_; (try simp only [pst0, simprocAttr])) | (refine a_cond _ (by (try simp (maxSteps := 2000000) only [Ty.w, simprocAttr, k2, Bool.not_true]); rfl) (fun hb => ?_) (fun hb => ?_) <;> (try simp only [hb0, decide_eq_true_eq, decide_eq_false_iff_not, simprocAttr] at hb) <;> (try (exfalso; omega))) | (refine hK _ _ ?_; clear hK; (try simp only [pst0, simprocAttr])))
          refine owp_useQ (ht _) (by (try simp only [Ty.w, simprocAttr, k2]); try rfl) ?_; simp (maxSteps := 2000000) only [Ty.w, simprocAttr, k2]
          repeat' (first | (refine a_seq (fun K hK => ?_)) | ((first | refine a_regionS ?_ | refine a_ret ?_); simp (maxSteps := 2000000) only [Ty.w, simprocAttr, k2, Bool.not_true]) | (refine a_skip ?_; (try simp only [pst0, simprocAttr])) | (refine a_cond _ (by (try simp (maxSteps := 2000000) only [Ty.w, simprocAttr, k2, Bool.not_true]); rfl) (fun hb => ?_) (fun hb => ?_) <;> (try simp only [hb0, decide_eq_true_eq, decide_eq_false_iff_not, simprocAttr] at hb) <;> (try (exfalso; omega))) | (refine hK _ _ ?_; clear hK; (try simp only [pst0, simprocAttr])))
          refine ⟨?_, ((Grow.refl h).new _).set (Nat.le_refl _) _⟩
          have e2 : errP 0 = .sc .nilIface := rfl
          rw [e2]
          simp only [opFlu, Ex.cells, Ex.rows, FrzTo, FrzL]
          exact ⟨_, rfl, ⟨_, rfl, rfl, rfl, rfl, .inl ⟨rfl, strs_in _ _⟩, .inr (.inl ⟨rfl, .inr rfl⟩), trivial⟩, rfl, trivial⟩
        | false =>
          rw [hc, cond_false] at hX
          subst hX
          have e0 : errP c = errV c := by simp only [errP, hc, cond_false]
          rw [e0] at ht ⊢
          simp only [errV] at ht ⊢
          refine pcall_body (ow := fun _ => false) (wf := fun _ => false) Ty.mixed Try.func75 rfl Ty.hb_75 (by rw [Try.ntmps75]; simp) ?_
          rw [Try.ntmps75, Try.results75]
          repeat' (first | (refine a_seq (fun K hK => ?_)) | (refine a_regionS ?_; simp (maxSteps := 2000000) only [Ty.w, simprocAttr, k2]) | (refine a_skip ?_; (try simp only [pst0, simprocAttr])) | (refine a_cond _ (by (try simp (maxSteps := 2000000) only [Ty.w, simprocAttr, k2]); rfl) (fun hb => ?_) (fun hb => ?_) <;> (try simp only [hb0, decide_eq_true_eq, decide_eq_false_iff_not, simprocAttr] at hb) <;> (try (exfalso; omega))) | (refine hK _ _ ?_; clear hK; (try simp only [pst0, simprocAttr])))
          refine owp_useQ (hh _) (by (try simp only [Ty.w, simprocAttr, k2, Bool.not_true]); try rfl) ?_; simp (maxSteps := 2000000) only [Ty.w, simprocAttr, k2, Bool.not_true]
          repeat' (first | (refine a_seq (fun K hK => ?_)) | (refine a_regionS ?_; simp (maxSteps := 2000000) only [Ty.w, simprocAttr, k2, p1, p2, p3, Bool.not_true, Bool.not_false]) | (refine a_skip ?_; (try simp only [pst0, simprocAttr])) | (refine a_cond _ (by (try simp (maxSteps := 2000000) only [Ty.w, simprocAttr, k2, p1, p2, p3, Bool.not_true, Bool.not_false]); rfl) (fun hb => ?_) (fun hb => ?_) <;> (try simp only [hb0, decide_eq_true_eq, decide_eq_false_iff_not, simprocAttr] at hb) <;> (try (exfalso; omega))) | (refine hK _ _ ?_; clear hK; (try simp only [pst0, simprocAttr])))
          refine owp_useQ (hn _) (by (try simp only [Ty.w, simprocAttr, k2, Bool.not_true]); try rfl) ?_; simp (maxSteps := 2000000) only [Ty.w, simprocAttr, k2, Bool.not_true]
          repeat' (first | (refine a_seq (fun K hK => ?_)) | (refine a_regionS ?_; simp (maxSteps := 2000000) only [Ty.w, simprocAttr, k2, Bool.not_true]) | (refine a_skip ?_; (try simp only [pst0, simprocAttr])) | (refine a_cond _ (by (try simp (maxSteps := 2000000) only [Ty.w, simprocAttr, k2, Bool.not_true]); rfl) (fun hb => ?_) (fun hb => ?_) <;> (try simp only [hb0, decide_eq_true_eq, decide_eq_false_iff_not, simprocAttr] at hb) <;> (try (exfalso; omega))) | (refine hK _ _ ?_; clear hK; (try simp only [pst0, simprocAttr])))
          refine owp_useQ (ht _) (by (try simp only [Ty.w, simprocAttr, k2]); try rfl) ?_; simp (maxSteps := 2000000) only [Ty.w, simprocAttr, k2]
          repeat' (first | (refine a_seq (fun K hK => ?_)) | ((first | refine a_regionS ?_ | refine a_ret ?_); simp (maxSteps := 2000000) only [Ty.w, simprocAttr, k2, Bool.not_false]) | (refine hK _ _ ?_; clear hK; (try simp only [pst0, simprocAttr])))
          refine ⟨?_, ((Grow.refl h).new _).set (Nat.le_refl _) _⟩
          simp only [zeroEx, Ex.cells, Ex.rows, strRows, List.map_nil, FrzTo, FrzL]
          exact ⟨_, rfl, ⟨_, rfl, rfl, rfl, rfl, .inr (.inl ⟨rfl, .inr rfl⟩), .inr (.inl ⟨rfl, .inr rfl⟩), trivial⟩, rfl, trivial⟩
end Go.Proofs.Ytjlkapgpjamnkaa
namespace Go.Proofs.Ytjlkapgpjamnkaa
open Go.AM
set_option maxHeartbeats 4000000
set_option maxRecDepth 20000
theorem nsucc (n : Nat) : (n = n + 1) = False := by simp
end Go.Proofs.Ytjlkapgpjamnkaa
namespace Go.AM
mutual
def Sx.small : Sx → Prop
  | .mk _ _ _ _ _ kids => kids.length ≤ 1048576 ∧ Sx.smalls kids
def Sx.smalls : List Sx → Prop
  | [] => True
  | k :: ks => k.small ∧ Sx.smalls ks
end
theorem Sx.smalls_iff : {l : List Sx} → (Sx.smalls l ↔ ∀ k ∈ l, k.small)
  | [] => by simp [Sx.smalls]
  | k :: ks => by simp [Sx.smalls, Sx.smalls_iff (l := ks)]
end Go.AM
namespace Go.Proofs.Ytjlkapgpjamnkaa
open Go.AM
set_option maxHeartbeats 4000000
set_option maxRecDepth 20000
/-- the expressions of a list, or an error's number -/
def exprsP : List Sx → List Ex × Int
  | [] => ([], 0)
  | x :: l => bif (exprP x).2 == 0 then (match exprsP l with
    | (es, c) => bif c == 0 then ((exprP x).1 :: es, 0) else ([], c)) else ([], (exprP x).2)
theorem exprsP_code : ∀ l : List Sx, ((exprsP l).2 == 0) = true → (exprsP l).2 = 0 := fun l h => by simpa using h
theorem exprsP_nil : ∀ l : List Sx, ((exprsP l).2 == 0) = false → (exprsP l).1 = []
  | [], h => by simp [exprsP] at h
  | x :: l, h => by
    simp only [exprsP] at h ⊢
    cases hq : (exprP x).2 == 0 with
    | false => rfl
    | true =>
      rw [hq] at h
      simp only [cond_true] at h ⊢
      cases hr : (exprsP l).2 == 0 with
      | false => rfl
      | true => rw [hr] at h; simp at h
theorem exprsP_two (w : ByteArray) (rest : List Sx) : rest.length = 2 → (match rest with
        | [a, b] => (match exprP a with
          | (ea, ca) => bif ca == 0 then (match exprP b with
            | (eb, cb) => bif cb == 0 then ((.mk w ⟨#[]⟩ 0 [] [ea, eb], 0) : Ex × Int) else (zeroEx, cb)) else (zeroEx, ca))
        | _ => (zeroEx, 2)) = (bif (exprsP rest).2 == 0 then (.mk w ⟨#[]⟩ 0 [] (exprsP rest).1, 0) else (zeroEx, (exprsP rest).2)) := by
  intro hl
  match rest, hl with
  | [a, b], _ =>
    simp only [exprsP]
    cases ha : (exprP a).2 == 0
    · simp only [ha, cond_false]
    · cases hb : (exprP b).2 == 0
      · simp only [ha, hb, cond_true, cond_false]
      · simp [ha, hb]
theorem tl_one {h : Heap} {id0 z : Nat} {p : PV} {rows : List (List PV)} (t : Tl h id0 z p rows) : oneC p = true ∧ p.cells = [p] := by
  rcases t with ⟨_, rfl | rfl⟩ | ⟨id, _, _, rfl, _⟩
  · exact ⟨rfl, rfl⟩
  · exact ⟨rfl, rfl⟩
  · exact ⟨rfl, rfl⟩
theorem ex_frz (n : Nat) (h : Heap) (e : Ex) : FrzL n h e.cells e.cells := by
  have hi := ex_in n e
  obtain ⟨op, name, v, args, kids⟩ := e
  simp only [Ex.cells, inNL, inN, and_true, true_and] at hi
  simp only [Ex.cells, FrzL, FrzTo, and_true, true_and]
  exact ⟨.inl hi.1, .inl hi.2⟩
theorem exs_frz (n : Nat) (h : Heap) : ∀ l : List Ex, FrzR n h (Ex.rows l) (Ex.rows l)
  | [] => by simp only [Ex.rows, FrzR]
  | k :: ks => by simp only [Ex.rows, FrzR]; exact ⟨ex_frz n h k, exs_frz n h ks⟩
theorem tl_frzE {h : Heap} {id0 n : Nat} {p : PV} {l : List Ex} (hn : n ≤ id0) (t : Tl h id0 5 p (Ex.rows l)) : FrzTo n h (.imm 5 (Ex.rows l)) p := by
  simp only [FrzTo]
  rcases t with ⟨h1, h2⟩ | ⟨id, h1, h2, rfl, ho⟩
  · exact .inr (.inl ⟨h1, h2.symm⟩)
  · refine .inr (.inr ⟨id, 0, _, _, rfl, by omega, ho, by omega, ?_⟩)
    rw [List.drop_zero, List.take_of_length_le (by omega)]
    exact exs_frz _ _ _
theorem expr_pm_c {kind value line col : Int} {text : ByteArray} {kids : List Sx} {w : ByteArray} {rest : List Sx} (hok : (Sx.mk kind value line col text kids).ok) (hk2 : ¬ kind = 2) (hM : headM (.mk kind value line col text kids) = some (w, rest)) (hp : isPm w = true)
    (hf : ∀ x ∈ rest, ∀ h : Heap, PCall Try.prog 75 [.agg x.cells] h fun r h' => r = .tup [.agg (exprP x).1.cells, errP (exprP x).2] ∧ h' = h) (hl : rest.length ≤ 1048576) (h : Heap) :
    PCall Try.prog 75 [.agg (Sx.mk kind value line col text kids).cells] h fun r h' => r = .tup [.agg (exprP (.mk kind value line col text kids)).1.cells, errP (exprP (.mk kind value line col text kids)).2] ∧ h' = h := by
  refine PCall.frz Ty.hb_75 ?_
  have hh := head_c hok
  have hX := exprP_head (.mk kind value line col text kids)
  generalize exprP (.mk kind value line col text kids) = F at hX
  have kk : kindOf (.mk kind value line col text kids) = kind := rfl
  have k2 : (kind == 2) = false := by simpa using hk2
  rw [kk, k2, hM] at hX
  simp only [cond_false, hp, cond_true] at hX
  rw [hM] at hh
  simp only [headV] at hh
  simp only [Sx.cells] at hh ⊢
  have hlr := Sx.rows_len rest
  refine pcall_body (ow := fun _ => false) (wf := fun _ => false) Ty.mixed Try.func75 rfl Ty.hb_75 (by rw [Try.ntmps75]; simp) ?_
  rw [Try.ntmps75, Try.results75]
  repeat' (first | (refine a_seq (fun K hK => ?_)) | (refine a_regionS ?_; simp (maxSteps := 2000000) only [Ty.w, simprocAttr, k2]) | (refine a_skip ?_; (try simp only [pst0, simprocAttr])) | (refine a_cond _ (by (try simp (maxSteps := 2000000) only [Ty.w, simprocAttr, k2]); rfl) (fun hb => ?_) (fun hb => ?_) <;> (try simp only [hb0, decide_eq_true_eq, decide_eq_false_iff_not, simprocAttr] at hb) <;> (try (exfalso; omega))) | (refine hK _ _ ?_; clear hK; (try simp only [pst0, simprocAttr])))
  refine owp_useQ (hh _) (by (try simp only [Ty.w, simprocAttr, k2, Bool.not_true]); try rfl) ?_; simp (maxSteps := 2000000) only [Ty.w, simprocAttr, k2, Bool.not_true]
  iterate 9 (first | (refine a_seq (fun K hK => ?_)) | (refine a_regionS ?_; simp (maxSteps := 2000000) only [Ty.w, simprocAttr, k2, Bool.not_true]) | (refine a_skip ?_; (try simp only [pst0, simprocAttr])) | (refine a_cond _ (by (try simp (maxSteps := 2000000) only [Ty.w, simprocAttr, k2, Bool.not_true]); rfl) (fun hb => ?_) (fun hb => ?_) <;> (try simp only [hb0, decide_eq_true_eq, decide_eq_false_iff_not, simprocAttr] at hb) <;> (try (exfalso; omega))) | (refine hK _ _ ?_; clear hK; (try simp only [pst0, simprocAttr])))
  refine a_cutK (fun S h' => h' = h.new (.arr 5 [[.sc (.string ⟨#[]⟩), .sc (.string ⟨#[]⟩), .sc (.int .i64 0), .sc (.slice none 0 0), .sc (.slice none 0 0)]]) ∧ S 2 = .ptr h.next 0 0 ∧ S 4 = sPV w ∧ S 5 = .imm 6 (Sx.rows rest)) ?_ ?_
  · have hp' := hp
    unfold isPm opPls opMin opTim bEq at hp'
    clear hX hf
    cases p1 : (w.data.toList == (#[43] : Array UInt8).toList) with
    | true =>
      repeat' (first | (refine a_seq (fun K hK => ?_)) | (refine a_regionS ?_; simp (maxSteps := 2000000) only [Ty.w, simprocAttr, k2, p1, Bool.not_true]) | (refine a_skip ?_; (try simp only [pst0, simprocAttr])) | (refine a_cond _ (by (try simp (maxSteps := 2000000) only [Ty.w, simprocAttr, k2, p1, Bool.not_true]); rfl) (fun hb => ?_) (fun hb => ?_) <;> (try simp only [hb0, decide_eq_true_eq, decide_eq_false_iff_not, simprocAttr] at hb) <;> (try (exfalso; omega))) | (refine hK _ _ ?_; clear hK; (try simp only [pst0, simprocAttr])))
      all_goals (simp (maxSteps := 2000000) only [Ty.w, simprocAttr])
    | false =>
      cases p2 : (w.data.toList == (#[45] : Array UInt8).toList) with
      | true =>
        repeat' (first | (refine a_seq (fun K hK => ?_)) | (refine a_regionS ?_; simp (maxSteps := 2000000) only [Ty.w, simprocAttr, k2, p1, p2, Bool.not_true, Bool.not_false]) | (refine a_skip ?_; (try simp only [pst0, simprocAttr])) | (refine a_cond _ (by (try simp (maxSteps := 2000000) only [Ty.w, simprocAttr, k2, p1, p2, Bool.not_true, Bool.not_false]); rfl) (fun hb => ?_) (fun hb => ?_) <;> (try simp only [hb0, decide_eq_true_eq, decide_eq_false_iff_not, simprocAttr] at hb) <;> (try (exfalso; omega))) | (refine hK _ _ ?_; clear hK; (try simp only [pst0, simprocAttr])))
        all_goals (simp (maxSteps := 2000000) only [Ty.w, simprocAttr])
      | false =>
        have p3 : (w.data.toList == (#[42] : Array UInt8).toList) = true := by
          rw [p1, p2] at hp'; simpa using hp'
        repeat' (first | (refine a_seq (fun K hK => ?_)) | (refine a_regionS ?_; simp (maxSteps := 2000000) only [Ty.w, simprocAttr, k2, p1, p2, p3, Bool.not_true, Bool.not_false]) | (refine a_skip ?_; (try simp only [pst0, simprocAttr])) | (refine a_cond _ (by (try simp (maxSteps := 2000000) only [Ty.w, simprocAttr, k2, p1, p2, p3, Bool.not_true, Bool.not_false]); rfl) (fun hb => ?_) (fun hb => ?_) <;> (try simp only [hb0, decide_eq_true_eq, decide_eq_false_iff_not, simprocAttr] at hb) <;> (try (exfalso; omega))) | (refine hK _ _ ?_; clear hK; (try simp only [pst0, simprocAttr])))
        all_goals (simp (maxSteps := 2000000) only [Ty.w, simprocAttr])
  · rintro S h' ⟨rfl, g2, g4, g5⟩
    refine hK _ _ ?_
    clear hK hh
    cases q : (((Sx.rows rest).length : Int) != 2) with
    | true =>
      have hF : F = (zeroEx, 2) := by
        rw [hX]
        split
        · rw [hlr] at q; simp at q
        · rfl
      subst hF
      repeat' (first | (refine a_seq (fun K hK => ?_)) | ((first | refine a_regionS ?_ | refine a_ret ?_); simp (maxSteps := 2000000) only [Ty.w, simprocAttr, g2, g4, g5, q]) | (refine hK _ _ ?_; clear hK; (try simp only [pst0, simprocAttr])))
      refine ⟨?_, ((Grow.refl h).new _).set (Nat.le_refl _) _⟩
      have e2 : errP 2 = errV 2 := rfl
      simp only [e2, errV, zeroEx, Ex.cells, Ex.rows, strRows, List.map_nil, FrzTo, FrzL]
      exact ⟨_, rfl, ⟨_, rfl, rfl, rfl, rfl, .inr (.inl ⟨rfl, .inr rfl⟩), .inr (.inl ⟨rfl, .inr rfl⟩), trivial⟩, rfl, trivial⟩
    | false =>
      have q' : (((Sx.rows rest).length : Int) = 2) := by simpa using q
      have hF : F = (bif (exprsP rest).2 == 0 then (.mk w ⟨#[]⟩ 0 [] (exprsP rest).1, 0) else (zeroEx, (exprsP rest).2)) := by
        rw [hX]; exact exprsP_two w rest (by rw [hlr] at q'; omega)
      clear hX
      repeat' (first | (refine a_seq (fun K hK => ?_)) | (refine a_block ?_) | (refine a_regionS ?_; simp (maxSteps := 2000000) only [Ty.w, simprocAttr, g2, g4, g5, q]) | (refine a_skip ?_; (try simp only [pst0, simprocAttr])) | (refine a_cond _ (by (try simp (maxSteps := 2000000) only [Ty.w, simprocAttr, g2, g4, g5, q]); rfl) (fun hb => ?_) (fun hb => ?_) <;> (try simp only [hb0, decide_eq_true_eq, decide_eq_false_iff_not, simprocAttr] at hb) <;> (try (exfalso; omega))) | (refine hK _ _ ?_; clear hK; (try simp only [pst0, simprocAttr])))
      refine a_loop (fun m S h' => S 2 = .ptr h.next 0 0 ∧ S 9 = .ptr (h.next + 1) 0 0 ∧ S 64 = .imm 6 (Sx.rows rest) ∧ S 65 = .sc (.int .i64 (Sx.rows rest).length) ∧ ∃ (k : Nat) (o : PV) (pre : List Ex), S 66 = .sc (.int .i64 k) ∧ k ≤ rest.length ∧ m = rest.length - k ∧ Grow h h' ∧ h.next + 1 < h'.next ∧ pre.length = k ∧
        h'.obj h.next = some (.arr 5 [[.sc (.string ⟨#[]⟩), .sc (.string ⟨#[]⟩), .sc (.int .i64 0), .sc (.slice none 0 0), .sc (.slice none 0 0)]]) ∧ h'.obj (h.next + 1) = some (.arr 5 [[sPV w, .sc (.string ⟨#[]⟩), .sc (.int .i64 0), .sc (.slice none 0 0), o]]) ∧ Tl h' (h.next + 2) 5 o (Ex.rows pre) ∧
        exprsP rest = (bif (exprsP (rest.drop k)).2 == 0 then (pre ++ (exprsP (rest.drop k)).1, 0) else ([], (exprsP (rest.drop k)).2))) rest.length ?_ ?_
      · simp only [Ty.w, simprocAttr, g2]
        refine ⟨0, _, [], rfl, by omega, rfl, ?_, ?_, rfl, ?_, ?_, Tl.nil, ?_⟩
        · exact ((Grow.refl h).new _).new _ |>.set (show h.next ≤ h.next + 1 by omega) _
        · simp [Heap.new, Heap.set]
        · have e1 : ¬ h.next = h.next + 1 := by omega
          simp [Heap.new, Heap.set, e1]
        · simp [Heap.new, Heap.set]
        · rw [List.drop_zero]
          cases hq : (exprsP rest).2 == 0
          · simp only [cond_false]; rw [← exprsP_nil rest hq]
          · simp only [cond_true, List.nil_append]; rw [← exprsP_code rest hq]
      · clear g2 g4 g5
        rintro m S h' ⟨g2, g9, g64, g65, k, o, pre, g66, hk, rfl, hg, hnx, hpl, o1, o2, tl, hinv⟩
        rw [hlr] at g65
        by_cases hlt : k < rest.length
        · have hd : decide ((k : Int) < (rest.length : Int)) = true := by simp; omega
          have w7 : IntKind.i64.wrap ((k : Int) + 1) = k + 1 := by rw [wrap64 (by omega) (by omega)]
          obtain ⟨x, hx⟩ : ∃ x, rest[k]? = some x := ⟨_, List.getElem?_eq_getElem hlt⟩
          have hr := Sx.rows_get hx
          have hc := hf x (List.mem_of_getElem? hx)
          rw [drop_of_get hx] at hinv
          simp only [exprsP] at hinv
          have hin := ex_in
          generalize hE : exprP x = E at hc hinv
          obtain ⟨e, c⟩ := E
          simp only at hc hinv
          clear hE hf
          obtain ⟨ki, va, li, co, te, ks⟩ := x
          simp only [Sx.cells] at hr hc
          have her := fun l => Ex.rows_map (l ++ [e])
          have n1 : (h.next = h'.next) = False := by simp; omega
          have n2 : (h.next + 1 = h'.next) = False := by simp; omega
          have n3 : (h.next = h'.next + 1) = False := by simp; omega
          have n4 : (h.next = h'.next) = False := by simp; omega
          have n5 : (h.next + 1 = h'.next + 1) = False := by simp; omega
          cases hcc : c == 0 with
          | false =>
            rw [hcc] at hinv
            simp only [cond_false] at hinv
            have e0 : errP c = errV c := by simp only [errP, hcc, cond_false]
            rw [e0] at hc
            simp only [errV] at hc
            have hq : exprsP rest = ([], c) := by rw [hinv]; simp only [hcc, cond_false]
            rw [hq] at hF
            simp only [hcc, cond_false] at hF
            subst hF
            obtain ⟨eop, ena, en, ear, eki⟩ := e
            simp only [Ex.cells] at hc
            repeat' (first | (refine a_seq (fun K hK => ?_)) | (refine a_regionS ?_; simp (maxSteps := 2000000) only [Ty.w, simprocAttr, g2, g9, g64, g65, g66, hd, hr, o1, o2, n1, n2, n3, n5, nsucc]) | (refine a_skip ?_; (try simp only [pst0, simprocAttr])) | (refine a_cond _ (by (try simp (maxSteps := 2000000) only [Ty.w, simprocAttr, g2, g9, g64, g65, g66, hd, hr, o1, o2, n1, n2, n3, n5, nsucc]); rfl) (fun hb => ?_) (fun hb => ?_) <;> (try simp only [hb0, decide_eq_true_eq, decide_eq_false_iff_not, simprocAttr] at hb) <;> (try (exfalso; omega))) | (refine hK _ _ ?_; clear hK; (try simp only [pst0, simprocAttr])))
            refine owp_useQ (hc _) (by (try simp only [Ty.w, simprocAttr, g2, g9, g64, g65, g66, hd, hr, o1, o2, n1, n2, n3, n5, nsucc]); try rfl) ?_; simp (maxSteps := 2000000) only [Ty.w, simprocAttr, g2, g9, g64, g65, g66, hd, hr, o1, o2, n1, n2, n3, n5, nsucc]
            repeat' (first | (refine a_seq (fun K hK => ?_)) | ((first | refine a_regionS ?_ | refine a_ret ?_); simp (maxSteps := 2000000) only [Ty.w, simprocAttr, g2, g9, g64, g65, g66, o1, o2, n1, n2, n3, n5, nsucc]) | (refine hK _ _ ?_; clear hK; (try simp only [pst0, simprocAttr])))
            have e2 : errP c = .sc (.iface 47 (.int .i64 c)) := by rw [e0]; try rfl
            rw [e2]
            refine ⟨?_, (((((hg.new _).set hg.le _).new _).set (show h.next ≤ h'.next + 1 by have := hg.le; omega) _).set (Nat.le_refl _) _)⟩
            simp only [zeroEx, Ex.cells, Ex.rows, strRows, List.map_nil, FrzTo, FrzL]
            exact ⟨_, rfl, ⟨_, rfl, rfl, rfl, rfl, .inr (.inl ⟨rfl, .inr rfl⟩), .inr (.inl ⟨rfl, .inr rfl⟩), trivial⟩, rfl, trivial⟩
          | true =>
            have e0 : errP c = .sc .nilIface := by simp only [errP, hcc, cond_true]
            rw [e0] at hc
            have hto := tl_one tl
            have hrows : Ex.rows (pre ++ [e]) = Ex.rows pre ++ [e.cells] := by simp only [Ex.rows_map, List.map_append, List.map_cons, List.map_nil]
            obtain ⟨eop, ena, en, ear, eki⟩ := e
            simp only [Ex.cells] at hc hrows
            have hold : ∀ j, j < h'.next → (((((h'.new (.arr 6 [[.sc (.int .i64 0), .sc (.int .i64 0), .sc (.int .i64 0), .sc (.int .i64 0), .sc (.string ⟨#[]⟩), .sc (.slice none 0 0)]])).set h'.next (.arr 6 [[.sc (.int .i64 ki), .sc (.int .i64 va), .sc (.int .i64 li), .sc (.int .i64 co), sPV te, .imm 6 (Sx.rows ks)]])).new (.arr 5 [[.sc (.string ⟨#[]⟩), .sc (.string ⟨#[]⟩), .sc (.int .i64 0), .sc (.slice none 0 0), .sc (.slice none 0 0)]])).set (h'.next + 1) (.arr 5 [[sPV eop, sPV ena, .sc (.int .i64 en), .imm 1 (strRows ear), .imm 5 (Ex.rows eki)]])) : Heap).obj j = h'.obj j := fun j hj => by
              have a1 : ¬ j = h'.next := by omega
              have a2 : ¬ j = h'.next + 1 := by omega
              simp only [Heap.new, Heap.set, a1, a2, if_false]
            have tl2 := tl.up (h' := ((((h'.new (.arr 6 [[.sc (.int .i64 0), .sc (.int .i64 0), .sc (.int .i64 0), .sc (.int .i64 0), .sc (.string ⟨#[]⟩), .sc (.slice none 0 0)]])).set h'.next (.arr 6 [[.sc (.int .i64 ki), .sc (.int .i64 va), .sc (.int .i64 li), .sc (.int .i64 co), sPV te, .imm 6 (Sx.rows ks)]])).new (.arr 5 [[.sc (.string ⟨#[]⟩), .sc (.string ⟨#[]⟩), .sc (.int .i64 0), .sc (.slice none 0 0), .sc (.slice none 0 0)]])).set (h'.next + 1) (.arr 5 [[sPV eop, sPV ena, .sc (.int .i64 en), .imm 1 (strRows ear), .imm 5 (Ex.rows eki)]]))) (by simp [Heap.new, Heap.set]; omega) (fun j _ hj => hold j hj)
            have hg2 : Grow h ((((h'.new (.arr 6 [[.sc (.int .i64 0), .sc (.int .i64 0), .sc (.int .i64 0), .sc (.int .i64 0), .sc (.string ⟨#[]⟩), .sc (.slice none 0 0)]])).set h'.next (.arr 6 [[.sc (.int .i64 ki), .sc (.int .i64 va), .sc (.int .i64 li), .sc (.int .i64 co), sPV te, .imm 6 (Sx.rows ks)]])).new (.arr 5 [[.sc (.string ⟨#[]⟩), .sc (.string ⟨#[]⟩), .sc (.int .i64 0), .sc (.slice none 0 0), .sc (.slice none 0 0)]])).set (h'.next + 1) (.arr 5 [[sPV eop, sPV ena, .sc (.int .i64 en), .imm 1 (strRows ear), .imm 5 (Ex.rows eki)]])) := (((hg.new _).set hg.le _).new _).set (show h.next ≤ h'.next + 1 by have := hg.le; omega) _
            have hnn : (((((h'.new (.arr 6 [[.sc (.int .i64 0), .sc (.int .i64 0), .sc (.int .i64 0), .sc (.int .i64 0), .sc (.string ⟨#[]⟩), .sc (.slice none 0 0)]])).set h'.next (.arr 6 [[.sc (.int .i64 ki), .sc (.int .i64 va), .sc (.int .i64 li), .sc (.int .i64 co), sPV te, .imm 6 (Sx.rows ks)]])).new (.arr 5 [[.sc (.string ⟨#[]⟩), .sc (.string ⟨#[]⟩), .sc (.int .i64 0), .sc (.slice none 0 0), .sc (.slice none 0 0)]])).set (h'.next + 1) (.arr 5 [[sPV eop, sPV ena, .sc (.int .i64 en), .imm 1 (strRows ear), .imm 5 (Ex.rows eki)]])) : Heap).next = h'.next + 1 + 1 := by simp [Heap.new, Heap.set]
            obtain ⟨H, t1, t2, t3, t4, t5⟩ := tl2.tail
            have u9 := t4 (h.next + 1) (by omega)
            rw [hold _ hnx, o2] at u9
            have u0 := t4 h.next (by omega)
            rw [hold _ (by omega), o1] at u0
            rw [hnn] at t3
            have hkp := t5 h ⟨hg2.le, hg2.old⟩ (by omega)
            have hgH : Grow h H := ⟨hkp.1, hkp.2⟩
            have hpr : (Ex.rows pre).length = k := by rw [Ex.rows_len]; exact hpl
            have hb : (k + 1) * 88 ≤ 140737488355328 := by omega
            have n6 : (h.next + 1 = H.next) = False := by simp; omega
            have n7 : (h.next + 1 = h'.next + 1 + 1) = False := by simp; omega
            repeat' (first | (refine a_seq (fun K hK => ?_)) | (refine a_regionS ?_; simp (maxSteps := 2000000) only [Ty.w, simprocAttr, g2, g9, g64, g65, g66, hd, hr, o1, o2, n1, n2, n3, n5, nsucc]) | (refine a_skip ?_; (try simp only [pst0, simprocAttr])) | (refine a_cond _ (by (try simp (maxSteps := 2000000) only [Ty.w, simprocAttr, g2, g9, g64, g65, g66, hd, hr, o1, o2, n1, n2, n3, n5, nsucc]); rfl) (fun hb => ?_) (fun hb => ?_) <;> (try simp only [hb0, decide_eq_true_eq, decide_eq_false_iff_not, simprocAttr] at hb) <;> (try (exfalso; omega))) | (refine hK _ _ ?_; clear hK; (try simp only [pst0, simprocAttr])))
            refine owp_useQ (hc _) (by (try simp only [Ty.w, simprocAttr, g2, g9, g64, g65, g66, hd, hr, o1, o2, n1, n2, n3, n5, nsucc]); try rfl) ?_; simp (maxSteps := 2000000) only [Ty.w, simprocAttr, g2, g9, g64, g65, g66, hd, hr, o1, o2, n1, n2, n3, n5, nsucc]
            repeat' (first | (refine a_seq (fun K hK => ?_)) | ((first | refine a_regionS ?_ | refine a_region (fun K hK => ?_)); simp (maxSteps := 2000000) only [Ty.w, simprocAttr, g2, g9, g64, g65, g66, o1, o2, n1, n2, n3, n5, n6, n7, nsucc, t1, t2, u9, hpr, hb, w7]) | (refine a_skip ?_; (try simp only [pst0, simprocAttr])) | (refine a_cond _ (by (try simp (maxSteps := 2000000) only [Ty.w, simprocAttr, g2, g9, g64, g65, g66, o1, o2, n1, n2, n3, n5, n6, n7, nsucc, t1, t2, u9, hpr, hb, w7]); rfl) (fun hb => ?_) (fun hb => ?_) <;> (try simp only [hb0, decide_eq_true_eq, decide_eq_false_iff_not, simprocAttr] at hb) <;> (try (exfalso; omega))) | (refine hK _ _ ?_; clear hK; (try simp only [pst0, simprocAttr])) | (rw [if_pos]; rotate_left 1; omega; simp (maxSteps := 2000000) only [Ty.w, simprocAttr, g2, g9, g64, g65, g66, o1, o2, n1, n2, n3, n5, n6, n7, nsucc, t1, t2, u9, hpr, hb, w7]))
            rw [← hrows]
            have hgr := Tl.grow (H := H) (id0 := h.next + 2) (z := 5) (len := k + 1) (rows := Ex.rows (pre ++ [Ex.mk eop ena en ear eki])) (by omega) (by rw [Ex.rows_len]; simp [hpl])
            refine ⟨rest.length - (k + 1), by omega, by rw [hlr], k + 1, .own H.next 0 (k + 1), pre ++ [Ex.mk eop ena en ear eki], by simp, by omega, rfl, (hgH.new _).set (show h.next ≤ h.next + 1 by omega) _, by omega, by simp [hpl], ?_, by rw [t3], ?_, ?_⟩
            · rw [if_neg (by omega)]; exact u0
            · exact hgr.up (Nat.le_refl _) (fun j hj _ => by simp only [Heap.set]; rw [if_neg (by omega)])
            · rw [hinv, hcc]
              simp only [cond_true]
              cases hq : (exprsP (List.drop (k + 1) rest)).2 == 0 with
              | false => simp only [hq, cond_false]
              | true => simp only [cond_true, beq_self_eq_true, List.append_assoc, List.cons_append, List.nil_append]
        · have hd : decide ((k : Int) < (rest.length : Int)) = false := by simp; omega
          rw [List.drop_eq_nil_of_le (by omega)] at hinv
          have hq : exprsP rest = (pre, 0) := by rw [hinv]; simp [exprsP]
          rw [hq] at hF
          have hF2 : F = (.mk w ⟨#[]⟩ 0 [] pre, 0) := hF
          clear hF
          subst hF2
          have ho := (tl_one tl).1
          have n1 : (h.next + 1 = h.next) = False := by simp
          repeat' (first | (refine a_seq (fun K hK => ?_)) | ((first | refine a_regionS ?_ | refine a_ret ?_); simp (maxSteps := 2000000) only [Ty.w, simprocAttr, g2, g9, g64, g65, g66, hd, o1, o2, ho, n1]) | (refine a_exit ?_; (try simp only [pst0, simprocAttr])) | (refine a_cond _ (by (try simp (maxSteps := 2000000) only [Ty.w, simprocAttr, g2, g9, g64, g65, g66, hd, o1, o2, ho, n1]); rfl) (fun hb => ?_) (fun hb => ?_) <;> (try simp only [hb0, decide_eq_true_eq, decide_eq_false_iff_not, simprocAttr] at hb) <;> (try (exfalso; omega))) | ((first | refine hK _ _ ?_ | (clear hK; refine hK _ _ ?_)); clear hK; (try simp only [pst0, simprocAttr])))
          refine ⟨?_, hg.set (Nat.le_refl _) _⟩
          have e2 : errP 0 = .sc .nilIface := rfl
          rw [e2]
          have h1 : FrzTo h.next (h'.set h.next (.arr 5 [[sPV w, .sc (.string ⟨#[]⟩), .sc (.int .i64 0), .sc (.slice none 0 0), o]])) (.imm 5 (Ex.rows pre)) o := tl_frzE (by omega) (tl.up (Nat.le_refl _) (fun j hj _ => by simp only [Heap.set]; rw [if_neg (by omega)]))
          generalize h'.set h.next (.arr 5 [[sPV w, .sc (.string ⟨#[]⟩), .sc (.int .i64 0), .sc (.slice none 0 0), o]]) = H at h1 ⊢
          simp only [Ex.cells, strRows, List.map_nil]
          unfold FrzTo
          refine ⟨_, rfl, ?_⟩
          unfold FrzL
          refine ⟨?_, by unfold FrzL; exact ⟨by simp only [FrzTo], by simp only [FrzL]⟩⟩
          unfold FrzTo
          refine ⟨_, rfl, ?_⟩
          unfold FrzL
          refine ⟨by simp only [FrzTo], ?_⟩
          unfold FrzL
          refine ⟨by simp only [FrzTo], ?_⟩
          unfold FrzL
          refine ⟨by simp only [FrzTo], ?_⟩
          unfold FrzL
          refine ⟨by simp [FrzTo], ?_⟩
          unfold FrzL
          exact ⟨h1, by simp only [FrzL]⟩
theorem headM_rest {kind value line col : Int} {text : ByteArray} {kids : List Sx} {w : ByteArray} {rest : List Sx} (h : headM (.mk kind value line col text kids) = some (w, rest)) : ∃ y, kids = y :: rest := by
  simp only [headM] at h
  split at h
  · cases kids with
    | nil => simp at h
    | cons y r =>
      simp only at h
      cases hk : kindOf y == 1 with
      | false => rw [hk] at h; simp at h
      | true =>
        rw [hk] at h
        simp only [cond_true, Option.some.injEq, Prod.mk.injEq] at h
        exact ⟨y, by rw [h.2]⟩
  · simp at h
theorem expr_c : ∀ x : Sx, x.ok → x.small → ∀ h : Heap, PCall Try.prog 75 [.agg x.cells] h fun r h' => r = .tup [.agg (exprP x).1.cells, errP (exprP x).2] ∧ h' = h := by
  refine Sx.ind ?_
  intro kind value line col text kids ih hok hsm h
  have hok' := hok
  simp only [Sx.ok] at hok'
  obtain ⟨_, _, _, _, hks⟩ := hok'
  rw [Sx.oks_iff] at hks
  simp only [Sx.small] at hsm
  obtain ⟨hl, hss⟩ := hsm
  rw [Sx.smalls_iff] at hss
  have hrl : ∀ w rest, headM (.mk kind value line col text kids) = some (w, rest) → rest.length ≤ 1048576 := fun w rest e => by
    obtain ⟨y, rfl⟩ := headM_rest e
    simp at hl; omega
  by_cases hk2 : kind = 2
  · exact expr_plain_c hok hrl (.inl hk2) h
  · cases hM : headM (.mk kind value line col text kids) with
    | none => exact expr_plain_c hok hrl (.inr fun w rest e => by rw [hM] at e; simp at e) h
    | some wr =>
      obtain ⟨w, rest⟩ := wr
      cases hp : isPm w with
      | false => exact expr_plain_c hok hrl (.inr fun w2 rest2 e => by rw [hM] at e; simp at e; rw [← e.1]; exact hp) h
      | true =>
        obtain ⟨y, hy⟩ := headM_rest hM
        exact expr_pm_c hok hk2 hM hp (fun x hx => ih x (by rw [hy]; simp [hx]) (hks x (by rw [hy]; simp [hx])) (hss x (by rw [hy]; simp [hx]))) (hrl w rest hM) h
end Go.Proofs.Ytjlkapgpjamnkaa
namespace Go.Proofs.Ytjlkapgpjamnkaa
open Go.AM
set_option maxHeartbeats 2000000
set_option maxRecDepth 20000
theorem dig_cls (c : UInt8) : (digB c = true ∧ decide ((c.toNat : Int) < 48) = false ∧ decide ((c.toNat : Int) > 57) = false) ∨ (digB c = false ∧ decide ((c.toNat : Int) < 48) = true) ∨ (digB c = false ∧ decide ((c.toNat : Int) < 48) = false ∧ decide ((c.toNat : Int) > 57) = true) := by
  simp only [digB, Bool.and_eq_true, Bool.and_eq_false_iff, decide_eq_true_eq, decide_eq_false_iff_not]
  omega
theorem rdigits_c {h : Heap} {s : ByteArray} (hs : s.size ≤ bigN) : PCall Try.prog 162 [sPV s] h fun r h' => r = .sc (.bool (s.data.toList.all digB && decide (0 < s.size))) ∧ h' = h := by
  unfold bigN at hs
  have htl : s.data.toList.length = s.size := by rw [Array.length_toList]; try rfl
  refine pcall_body (ow := fun _ => false) (wf := fun _ => false) Ty.mixed Try.func162 rfl Ty.hb_162 (by rw [Try.ntmps162]; simp) ?_
  rw [Try.ntmps162, Try.results162]
  repeat' (first | (refine a_seq (fun K hK => ?_)) | (refine a_block ?_) | (refine a_regionS ?_; simp (maxSteps := 2000000) only [Ty.w, simprocAttr]) | (refine hK _ _ ?_; clear hK; (try simp only [pst0, simprocAttr])))
  refine a_loop (fun m S h' => h' = h ∧ S 0 = sPV s ∧ ∃ k : Nat, S 3 = .sc (.int .i64 k) ∧ k ≤ s.size ∧ m = s.size - k ∧ ∀ (i : Nat) (c : UInt8), i < k → s.data.toList[i]? = some c → digB c = true) s.size ?_ ?_
  · simp only [Ty.w, simprocAttr]
    exact ⟨0, rfl, by omega, rfl, by omega⟩
  · rintro m S h' ⟨rfl, g0, k, g3, hk, rfl, hall⟩
    by_cases hlt : k < s.size
    · have hd : decide ((k : Int) < (s.size : Int)) = true := by simp; omega
      have w7 : IntKind.i64.wrap ((k : Int) + 1) = k + 1 := by rw [wrap64 (by omega) (by omega)]
      obtain ⟨c, hx⟩ : ∃ c, s.data.toList[k]? = some c := ⟨_, List.getElem?_eq_getElem (by omega)⟩
      have hr : s[k]? = some c := by rw [ba_get]; exact hx
      have bad : digB c = false → s.data.toList.all digB = false := fun hg => by rw [List.all_eq_false]; exact ⟨c, List.mem_of_getElem? hx, by simp [hg]⟩
      rcases dig_cls c with ⟨hg, c1, c2⟩ | ⟨hg, c1⟩ | ⟨hg, c1, c2⟩
      · repeat' (first | (refine a_seq (fun K hK => ?_)) | (refine a_block ?_) | (refine a_regionS ?_; simp (maxSteps := 2000000) only [Ty.w, simprocAttr, g0, g3, hd, hr, c1, c2, w7]) | (refine a_skip ?_; (try simp only [pst0, simprocAttr])) | (refine a_cond _ (by (try simp (maxSteps := 2000000) only [Ty.w, simprocAttr, g0, g3, hd, hr, c1, c2, w7]); rfl) (fun hb => ?_) (fun hb => ?_) <;> (try simp only [hb0, decide_eq_true_eq, decide_eq_false_iff_not, simprocAttr] at hb) <;> (try (exfalso; omega))) | (refine hK _ _ ?_; clear hK; (try simp only [pst0, simprocAttr])))
        refine ⟨s.size - (k + 1), by omega, k + 1, by simp, by omega, rfl, fun i c2 hi hw => ?_⟩
        by_cases hik : i = k
        · subst hik; rw [hx] at hw; simp at hw; rw [← hw]; exact hg
        · exact hall i c2 (by omega) hw
      · repeat' (first | (refine a_seq (fun K hK => ?_)) | ((first | refine a_regionS ?_ | refine a_ret ?_); simp (maxSteps := 2000000) only [Ty.w, simprocAttr, g0, g3, hd, hr, c1]) | (refine a_skip ?_; (try simp only [pst0, simprocAttr])) | (refine a_cond _ (by (try simp (maxSteps := 2000000) only [Ty.w, simprocAttr, g0, g3, hd, hr, c1]); rfl) (fun hb => ?_) (fun hb => ?_) <;> (try simp only [hb0, decide_eq_true_eq, decide_eq_false_iff_not, simprocAttr] at hb) <;> (try (exfalso; omega))) | (refine hK _ _ ?_; clear hK; (try simp only [pst0, simprocAttr])))
        rw [bad hg]; try rfl
      · repeat' (first | (refine a_seq (fun K hK => ?_)) | ((first | refine a_regionS ?_ | refine a_ret ?_); simp (maxSteps := 2000000) only [Ty.w, simprocAttr, g0, g3, hd, hr, c1, c2]) | (refine a_skip ?_; (try simp only [pst0, simprocAttr])) | (refine a_cond _ (by (try simp (maxSteps := 2000000) only [Ty.w, simprocAttr, g0, g3, hd, hr, c1, c2]); rfl) (fun hb => ?_) (fun hb => ?_) <;> (try simp only [hb0, decide_eq_true_eq, decide_eq_false_iff_not, simprocAttr] at hb) <;> (try (exfalso; omega))) | (refine hK _ _ ?_; clear hK; (try simp only [pst0, simprocAttr])))
        rw [bad hg]; try rfl
    · have hd : decide ((k : Int) < (s.size : Int)) = false := by simp; omega
      have hok : s.data.toList.all digB = true := by
        rw [List.all_eq_true]
        intro c hc
        obtain ⟨i, hi⟩ := List.getElem?_of_mem hc
        exact hall i c (by have := (List.getElem?_eq_some_iff.1 hi).1; omega) hi
      have e1 : decide ((s.size : Int) > 0) = decide (0 < s.size) := decide_eq_decide.2 (by omega)
      clear hall
      repeat' (first | (refine a_seq (fun K hK => ?_)) | ((first | refine a_regionS ?_ | refine a_ret ?_); simp (maxSteps := 2000000) only [Ty.w, simprocAttr, g0, g3, hd]) | (refine a_exit ?_; (try simp only [pst0, simprocAttr])) | (refine a_cond _ (by (try simp (maxSteps := 2000000) only [Ty.w, simprocAttr, g0, g3, hd]); rfl) (fun hb => ?_) (fun hb => ?_) <;> (try simp only [hb0, decide_eq_true_eq, decide_eq_false_iff_not, simprocAttr] at hb) <;> (try (exfalso; omega))) | ((first | refine hK _ _ ?_ | (clear hK; refine hK _ _ ?_)); clear hK; (try simp only [pst0, simprocAttr])))
      rw [hok, e1]; try rfl
theorem rnumeric_c {h : Heap} {s : ByteArray} (hs : s.size ≤ bigN) : PCall Try.prog 152 [sPV s] h fun r h' => r = .sc (.bool (numB s)) ∧ h' = h := by
  have htl : s.data.toList.length = s.size := by rw [Array.length_toList]; try rfl
  cases b1 : decide ((s.size : Int) > 0) with
  | false =>
    have ht : trimB s = s := by
      have : s.data.toList = [] := List.eq_nil_of_length_eq_zero (by have := of_decide_eq_false b1; omega)
      unfold trimB; rw [this]
    have hd := rdigits_c (h := h) hs
    refine pcall_body (ow := fun _ => false) (wf := fun _ => false) Ty.mixed Try.func152 rfl Ty.hb_152 (by rw [Try.ntmps152]; simp) ?_
    rw [Try.ntmps152, Try.results152]
    repeat' (first | (refine a_seq (fun K hK => ?_)) | (refine a_regionS ?_; simp (maxSteps := 2000000) only [Ty.w, simprocAttr, b1]) | (refine a_skip ?_; (try simp only [pst0, simprocAttr])) | (refine a_cond _ (by (try simp (maxSteps := 2000000) only [Ty.w, simprocAttr, b1]); rfl) (fun hb => ?_) (fun hb => ?_) <;> (try simp only [hb0, decide_eq_true_eq, decide_eq_false_iff_not, simprocAttr] at hb) <;> (try (exfalso; omega))) | (refine hK _ _ ?_; clear hK; (try simp only [pst0, simprocAttr])))
    refine owp_useQ (hd) (by (try simp only [Ty.w, simprocAttr, b1]); try rfl) ?_; simp (maxSteps := 2000000) only [Ty.w, simprocAttr, b1]
    repeat' (first | (refine a_ret ?_; simp (maxSteps := 2000000) only [Ty.w, simprocAttr]) | (refine hK _ _ ?_; clear hK; (try simp only [pst0, simprocAttr])))
    rw [show numB s = ((trimB s).data.toList.all digB && decide (0 < (trimB s).size)) from rfl, ht]
  | true =>
    have hpos : 0 < s.size := by simp at b1; omega
    obtain ⟨c, hx⟩ : ∃ c, s.data.toList[0]? = some c := ⟨_, List.getElem?_eq_getElem (by omega)⟩
    have hr : s[0]? = some c := by rw [ba_get]; exact hx
    cases b2 : ((c.toNat : Int) == 45) with
    | false =>
      have ht : trimB s = s := by
        unfold trimB
        split
        · rename_i l heq
          rw [heq] at hx
          simp at hx
          subst hx
          simp at b2
        · rfl
      have hd := rdigits_c (h := h) hs
      refine pcall_body (ow := fun _ => false) (wf := fun _ => false) Ty.mixed Try.func152 rfl Ty.hb_152 (by rw [Try.ntmps152]; simp) ?_
      rw [Try.ntmps152, Try.results152]
      repeat' (first | (refine a_seq (fun K hK => ?_)) | (refine a_regionS ?_; simp (maxSteps := 2000000) only [Ty.w, simprocAttr, b1, hr, b2]) | (refine a_skip ?_; (try simp only [pst0, simprocAttr])) | (refine a_cond _ (by (try simp (maxSteps := 2000000) only [Ty.w, simprocAttr, b1, hr, b2]); rfl) (fun hb => ?_) (fun hb => ?_) <;> (try simp only [hb0, decide_eq_true_eq, decide_eq_false_iff_not, simprocAttr] at hb) <;> (try (exfalso; omega))) | (refine hK _ _ ?_; clear hK; (try simp only [pst0, simprocAttr])))
      refine owp_useQ (hd) (by (try simp only [Ty.w, simprocAttr, b1, b2]); try rfl) ?_; simp (maxSteps := 2000000) only [Ty.w, simprocAttr, b1, b2]
      repeat' (first | (refine a_ret ?_; simp (maxSteps := 2000000) only [Ty.w, simprocAttr]) | (refine hK _ _ ?_; clear hK; (try simp only [pst0, simprocAttr])))
      rw [show numB s = ((trimB s).data.toList.all digB && decide (0 < (trimB s).size)) from rfl, ht]
    | true =>
      have hc : c = 45 := by
        have : c.toNat = 45 := by simp at b2; omega
        exact UInt8.toNat_inj.1 this
      have q1 : (1 : Int) ≤ (s.size : Int) := by omega
      have ht : trimB s = s.extract 1 s.size := by
        cases hl : s.data.toList with
        | nil => rw [hl] at hx; simp at hx
        | cons d l =>
          rw [hl] at hx
          simp at hx
          subst hx
          subst hc
          unfold trimB
          rw [hl]
          refine ba_ext ?_
          have hl2 := htl
          rw [hl] at hl2
          simp at hl2
          simp only [ByteArray.data_extract, Array.toList_extract, List.extract_eq_take_drop, hl]
          rw [List.drop_succ_cons, List.drop_zero, List.take_of_length_le (by omega)]
      have hsz : (s.extract 1 s.size).size ≤ bigN := by simp only [ByteArray.size_extract]; omega
      have hd := rdigits_c (h := h) hsz
      refine pcall_body (ow := fun _ => false) (wf := fun _ => false) Ty.mixed Try.func152 rfl Ty.hb_152 (by rw [Try.ntmps152]; simp) ?_
      rw [Try.ntmps152, Try.results152]
      repeat' (first | (refine a_seq (fun K hK => ?_)) | (refine a_regionS ?_; simp (maxSteps := 2000000) only [Ty.w, simprocAttr, b1, hr, b2, q1, Option.getD_some, Option.getD_none, Int.le_refl, Int.toNat_one]) | (refine hK _ _ ?_; clear hK; (try simp only [pst0, simprocAttr])))
      refine owp_useQ (hd) (by (try simp only [Ty.w, simprocAttr, b1, b2, q1, Option.getD_some, Option.getD_none, Int.le_refl, Int.toNat_one]); try rfl) ?_; simp (maxSteps := 2000000) only [Ty.w, simprocAttr, b1, b2, q1, Option.getD_some, Option.getD_none, Int.le_refl, Int.toNat_one]
      repeat' (first | (refine a_ret ?_; simp (maxSteps := 2000000) only [Ty.w, simprocAttr]) | (refine hK _ _ ?_; clear hK; (try simp only [pst0, simprocAttr])))
      rw [show numB s = ((trimB s).data.toList.all digB && decide (0 < (trimB s).size)) from rfl, ht]
/-- a letter's class, by the comparisons that are made -/
theorem let_cls (c : UInt8) : (wB c = true ∧ decide ((c.toNat : Int) ≥ 97) = true ∧ decide ((c.toNat : Int) ≤ 122) = true) ∨
    (letB c = false ∧ decide ((c.toNat : Int) ≥ 97) = true ∧ decide ((c.toNat : Int) ≤ 122) = false ∧ decide ((c.toNat : Int) ≥ 48) = true ∧ decide ((c.toNat : Int) ≤ 57) = false ∧ digB c = false) ∨
    (letB c = false ∧ decide ((c.toNat : Int) ≥ 97) = false ∧ decide ((c.toNat : Int) ≥ 48) = false ∧ digB c = false) ∨
    (wB c = true ∧ decide ((c.toNat : Int) ≥ 97) = false ∧ decide ((c.toNat : Int) ≥ 48) = true ∧ decide ((c.toNat : Int) ≤ 57) = true) ∨
    (letB c = false ∧ decide ((c.toNat : Int) ≥ 97) = false ∧ decide ((c.toNat : Int) ≥ 48) = true ∧ decide ((c.toNat : Int) ≤ 57) = false ∧ digB c = false) := by
  simp only [wB, letB, digB, Bool.and_eq_true, Bool.or_eq_true, Bool.and_eq_false_iff, decide_eq_true_eq, decide_eq_false_iff_not]
  omega
theorem signs_c (c : UInt8) : signs.contains c = (((c.toNat : Int) == 45) || ((c.toNat : Int) == 95) || ((c.toNat : Int) == 63) || ((c.toNat : Int) == 58) || ((c.toNat : Int) == 60) || ((c.toNat : Int) == 62) || ((c.toNat : Int) == 61) || ((c.toNat : Int) == 43) || ((c.toNat : Int) == 42)) := by
  have hh : ∀ d : UInt8, (c == d) = ((c.toNat : Int) == (d.toNat : Int)) := by
    intro d
    by_cases h : c = d
    · subst h; simp
    · have : ¬ c.toNat = d.toNat := fun e => h (UInt8.toNat_inj.1 e)
      have : ¬ (c.toNat : Int) = (d.toNat : Int) := by omega
      rw [beq_eq_false_iff_ne.2 h, beq_eq_false_iff_ne.2 this]
  have e : signs.contains c = (c == 45 || (c == 95 || (c == 63 || (c == 58 || (c == 60 || (c == 62 || (c == 61 || (c == 43 || (c == 42 || false))))))))) := rfl
  rw [e, hh, hh, hh, hh, hh, hh, hh, hh, hh]
  simp only [Bool.or_false, Bool.or_assoc]
  rfl
theorem letter_c {h : Heap} {c : UInt8} : PCall Try.prog 151 [.sc (.int .u8 c.toNat)] h fun r h' => r = .sc (.bool (wB c)) ∧ h' = h := by
  refine pcall_body (ow := fun _ => false) (wf := fun _ => false) Ty.mixed Try.func151 rfl Ty.hb_151 (by rw [Try.ntmps151]; simp) ?_
  rw [Try.ntmps151, Try.results151]
  rcases let_cls c with ⟨hw, c1, c2⟩ | ⟨hlet, c1, c2, c3, c4, hdig⟩ | ⟨hlet, c1, c3, hdig⟩ | ⟨hw, c1, c3, c4⟩ | ⟨hlet, c1, c3, c4, hdig⟩
  · repeat' (first | (refine a_seq (fun K hK => ?_)) | ((first | refine a_regionS ?_ | refine a_ret ?_); simp (maxSteps := 2000000) only [Ty.w, simprocAttr, c1, c2]) | (refine hK _ _ ?_; clear hK; (try simp only [pst0, simprocAttr])))
    all_goals (rw [hw])
  · cases s0 : ((c.toNat : Int) == 45) with
    | true =>
      have hw : wB c = true := by simp only [wB, hlet, hdig, signs_c, s0, Bool.or_true, Bool.true_or, Bool.false_or]
      repeat' (first | (refine a_seq (fun K hK => ?_)) | ((first | refine a_regionS ?_ | refine a_ret ?_); simp (maxSteps := 2000000) only [Ty.w, simprocAttr, c1, c2, c3, c4, s0]) | (refine a_skip ?_; (try simp only [pst0, simprocAttr])) | (refine a_cond _ (by (try simp (maxSteps := 2000000) only [Ty.w, simprocAttr, c1, c2, c3, c4, s0]); rfl) (fun hb => ?_) (fun hb => ?_) <;> (try simp only [hb0, decide_eq_true_eq, decide_eq_false_iff_not, simprocAttr] at hb) <;> (try (exfalso; omega))) | (refine hK _ _ ?_; clear hK; (try simp only [pst0, simprocAttr])))
      all_goals (rw [hw])
    | false =>
      cases s1 : ((c.toNat : Int) == 95) with
      | true =>
        have hw : wB c = true := by simp only [wB, hlet, hdig, signs_c, s0, s1, Bool.or_true, Bool.true_or, Bool.false_or]
        repeat' (first | (refine a_seq (fun K hK => ?_)) | ((first | refine a_regionS ?_ | refine a_ret ?_); simp (maxSteps := 2000000) only [Ty.w, simprocAttr, c1, c2, c3, c4, s0, s1]) | (refine a_skip ?_; (try simp only [pst0, simprocAttr])) | (refine a_cond _ (by (try simp (maxSteps := 2000000) only [Ty.w, simprocAttr, c1, c2, c3, c4, s0, s1]); rfl) (fun hb => ?_) (fun hb => ?_) <;> (try simp only [hb0, decide_eq_true_eq, decide_eq_false_iff_not, simprocAttr] at hb) <;> (try (exfalso; omega))) | (refine hK _ _ ?_; clear hK; (try simp only [pst0, simprocAttr])))
        all_goals (rw [hw])
      | false =>
        cases s2 : ((c.toNat : Int) == 63) with
        | true =>
          have hw : wB c = true := by simp only [wB, hlet, hdig, signs_c, s0, s1, s2, Bool.or_true, Bool.true_or, Bool.false_or]
          repeat' (first | (refine a_seq (fun K hK => ?_)) | ((first | refine a_regionS ?_ | refine a_ret ?_); simp (maxSteps := 2000000) only [Ty.w, simprocAttr, c1, c2, c3, c4, s0, s1, s2]) | (refine a_skip ?_; (try simp only [pst0, simprocAttr])) | (refine a_cond _ (by (try simp (maxSteps := 2000000) only [Ty.w, simprocAttr, c1, c2, c3, c4, s0, s1, s2]); rfl) (fun hb => ?_) (fun hb => ?_) <;> (try simp only [hb0, decide_eq_true_eq, decide_eq_false_iff_not, simprocAttr] at hb) <;> (try (exfalso; omega))) | (refine hK _ _ ?_; clear hK; (try simp only [pst0, simprocAttr])))
          all_goals (rw [hw])
        | false =>
          cases s3 : ((c.toNat : Int) == 58) with
          | true =>
            have hw : wB c = true := by simp only [wB, hlet, hdig, signs_c, s0, s1, s2, s3, Bool.or_true, Bool.true_or, Bool.false_or]
            repeat' (first | (refine a_seq (fun K hK => ?_)) | ((first | refine a_regionS ?_ | refine a_ret ?_); simp (maxSteps := 2000000) only [Ty.w, simprocAttr, c1, c2, c3, c4, s0, s1, s2, s3]) | (refine a_skip ?_; (try simp only [pst0, simprocAttr])) | (refine a_cond _ (by (try simp (maxSteps := 2000000) only [Ty.w, simprocAttr, c1, c2, c3, c4, s0, s1, s2, s3]); rfl) (fun hb => ?_) (fun hb => ?_) <;> (try simp only [hb0, decide_eq_true_eq, decide_eq_false_iff_not, simprocAttr] at hb) <;> (try (exfalso; omega))) | (refine hK _ _ ?_; clear hK; (try simp only [pst0, simprocAttr])))
            all_goals (rw [hw])
          | false =>
            cases s4 : ((c.toNat : Int) == 60) with
            | true =>
              have hw : wB c = true := by simp only [wB, hlet, hdig, signs_c, s0, s1, s2, s3, s4, Bool.or_true, Bool.true_or, Bool.false_or]
              repeat' (first | (refine a_seq (fun K hK => ?_)) | ((first | refine a_regionS ?_ | refine a_ret ?_); simp (maxSteps := 2000000) only [Ty.w, simprocAttr, c1, c2, c3, c4, s0, s1, s2, s3, s4]) | (refine a_skip ?_; (try simp only [pst0, simprocAttr])) | (refine a_cond _ (by (try simp (maxSteps := 2000000) only [Ty.w, simprocAttr, c1, c2, c3, c4, s0, s1, s2, s3, s4]); rfl) (fun hb => ?_) (fun hb => ?_) <;> (try simp only [hb0, decide_eq_true_eq, decide_eq_false_iff_not, simprocAttr] at hb) <;> (try (exfalso; omega))) | (refine hK _ _ ?_; clear hK; (try simp only [pst0, simprocAttr])))
              all_goals (rw [hw])
            | false =>
              cases s5 : ((c.toNat : Int) == 62) with
              | true =>
                have hw : wB c = true := by simp only [wB, hlet, hdig, signs_c, s0, s1, s2, s3, s4, s5, Bool.or_true, Bool.true_or, Bool.false_or]
                repeat' (first | (refine a_seq (fun K hK => ?_)) | ((first | refine a_regionS ?_ | refine a_ret ?_); simp (maxSteps := 2000000) only [Ty.w, simprocAttr, c1, c2, c3, c4, s0, s1, s2, s3, s4, s5]) | (refine a_skip ?_; (try simp only [pst0, simprocAttr])) | (refine a_cond _ (by (try simp (maxSteps := 2000000) only [Ty.w, simprocAttr, c1, c2, c3, c4, s0, s1, s2, s3, s4, s5]); rfl) (fun hb => ?_) (fun hb => ?_) <;> (try simp only [hb0, decide_eq_true_eq, decide_eq_false_iff_not, simprocAttr] at hb) <;> (try (exfalso; omega))) | (refine hK _ _ ?_; clear hK; (try simp only [pst0, simprocAttr])))
                all_goals (rw [hw])
              | false =>
                cases s6 : ((c.toNat : Int) == 61) with
                | true =>
                  have hw : wB c = true := by simp only [wB, hlet, hdig, signs_c, s0, s1, s2, s3, s4, s5, s6, Bool.or_true, Bool.true_or, Bool.false_or]
                  repeat' (first | (refine a_seq (fun K hK => ?_)) | ((first | refine a_regionS ?_ | refine a_ret ?_); simp (maxSteps := 2000000) only [Ty.w, simprocAttr, c1, c2, c3, c4, s0, s1, s2, s3, s4, s5, s6]) | (refine a_skip ?_; (try simp only [pst0, simprocAttr])) | (refine a_cond _ (by (try simp (maxSteps := 2000000) only [Ty.w, simprocAttr, c1, c2, c3, c4, s0, s1, s2, s3, s4, s5, s6]); rfl) (fun hb => ?_) (fun hb => ?_) <;> (try simp only [hb0, decide_eq_true_eq, decide_eq_false_iff_not, simprocAttr] at hb) <;> (try (exfalso; omega))) | (refine hK _ _ ?_; clear hK; (try simp only [pst0, simprocAttr])))
                  all_goals (rw [hw])
                | false =>
                  cases s7 : ((c.toNat : Int) == 43) with
                  | true =>
                    have hw : wB c = true := by simp only [wB, hlet, hdig, signs_c, s0, s1, s2, s3, s4, s5, s6, s7, Bool.or_true, Bool.true_or, Bool.false_or]
                    repeat' (first | (refine a_seq (fun K hK => ?_)) | ((first | refine a_regionS ?_ | refine a_ret ?_); simp (maxSteps := 2000000) only [Ty.w, simprocAttr, c1, c2, c3, c4, s0, s1, s2, s3, s4, s5, s6, s7]) | (refine a_skip ?_; (try simp only [pst0, simprocAttr])) | (refine a_cond _ (by (try simp (maxSteps := 2000000) only [Ty.w, simprocAttr, c1, c2, c3, c4, s0, s1, s2, s3, s4, s5, s6, s7]); rfl) (fun hb => ?_) (fun hb => ?_) <;> (try simp only [hb0, decide_eq_true_eq, decide_eq_false_iff_not, simprocAttr] at hb) <;> (try (exfalso; omega))) | (refine hK _ _ ?_; clear hK; (try simp only [pst0, simprocAttr])))
                    all_goals (rw [hw])
                  | false =>
                    cases s8 : ((c.toNat : Int) == 42) with
                    | true =>
                      have hw : wB c = true := by simp only [wB, hlet, hdig, signs_c, s0, s1, s2, s3, s4, s5, s6, s7, s8, Bool.or_true, Bool.true_or, Bool.false_or]
                      repeat' (first | (refine a_seq (fun K hK => ?_)) | ((first | refine a_regionS ?_ | refine a_ret ?_); simp (maxSteps := 2000000) only [Ty.w, simprocAttr, c1, c2, c3, c4, s0, s1, s2, s3, s4, s5, s6, s7, s8]) | (refine a_skip ?_; (try simp only [pst0, simprocAttr])) | (refine a_cond _ (by (try simp (maxSteps := 2000000) only [Ty.w, simprocAttr, c1, c2, c3, c4, s0, s1, s2, s3, s4, s5, s6, s7, s8]); rfl) (fun hb => ?_) (fun hb => ?_) <;> (try simp only [hb0, decide_eq_true_eq, decide_eq_false_iff_not, simprocAttr] at hb) <;> (try (exfalso; omega))) | (refine hK _ _ ?_; clear hK; (try simp only [pst0, simprocAttr])))
                      all_goals (rw [hw])
                    | false =>
                      have hw : wB c = false := by simp only [wB, hlet, hdig, signs_c, s0, s1, s2, s3, s4, s5, s6, s7, s8, Bool.or_false]
                      repeat' (first | (refine a_seq (fun K hK => ?_)) | ((first | refine a_regionS ?_ | refine a_ret ?_); simp (maxSteps := 2000000) only [Ty.w, simprocAttr, c1, c2, c3, c4, s0, s1, s2, s3, s4, s5, s6, s7, s8]) | (refine a_skip ?_; (try simp only [pst0, simprocAttr])) | (refine a_cond _ (by (try simp (maxSteps := 2000000) only [Ty.w, simprocAttr, c1, c2, c3, c4, s0, s1, s2, s3, s4, s5, s6, s7, s8]); rfl) (fun hb => ?_) (fun hb => ?_) <;> (try simp only [hb0, decide_eq_true_eq, decide_eq_false_iff_not, simprocAttr] at hb) <;> (try (exfalso; omega))) | (refine hK _ _ ?_; clear hK; (try simp only [pst0, simprocAttr])))
                      all_goals (rw [hw])
  · cases s0 : ((c.toNat : Int) == 45) with
    | true =>
      have hw : wB c = true := by simp only [wB, hlet, hdig, signs_c, s0, Bool.or_true, Bool.true_or, Bool.false_or]
      repeat' (first | (refine a_seq (fun K hK => ?_)) | ((first | refine a_regionS ?_ | refine a_ret ?_); simp (maxSteps := 2000000) only [Ty.w, simprocAttr, c1, c3, s0]) | (refine a_skip ?_; (try simp only [pst0, simprocAttr])) | (refine a_cond _ (by (try simp (maxSteps := 2000000) only [Ty.w, simprocAttr, c1, c3, s0]); rfl) (fun hb => ?_) (fun hb => ?_) <;> (try simp only [hb0, decide_eq_true_eq, decide_eq_false_iff_not, simprocAttr] at hb) <;> (try (exfalso; omega))) | (refine hK _ _ ?_; clear hK; (try simp only [pst0, simprocAttr])))
      all_goals (rw [hw])
    | false =>
      cases s1 : ((c.toNat : Int) == 95) with
      | true =>
        have hw : wB c = true := by simp only [wB, hlet, hdig, signs_c, s0, s1, Bool.or_true, Bool.true_or, Bool.false_or]
        repeat' (first | (refine a_seq (fun K hK => ?_)) | ((first | refine a_regionS ?_ | refine a_ret ?_); simp (maxSteps := 2000000) only [Ty.w, simprocAttr, c1, c3, s0, s1]) | (refine a_skip ?_; (try simp only [pst0, simprocAttr])) | (refine a_cond _ (by (try simp (maxSteps := 2000000) only [Ty.w, simprocAttr, c1, c3, s0, s1]); rfl) (fun hb => ?_) (fun hb => ?_) <;> (try simp only [hb0, decide_eq_true_eq, decide_eq_false_iff_not, simprocAttr] at hb) <;> (try (exfalso; omega))) | (refine hK _ _ ?_; clear hK; (try simp only [pst0, simprocAttr])))
        all_goals (rw [hw])
      | false =>
        cases s2 : ((c.toNat : Int) == 63) with
        | true =>
          have hw : wB c = true := by simp only [wB, hlet, hdig, signs_c, s0, s1, s2, Bool.or_true, Bool.true_or, Bool.false_or]
          repeat' (first | (refine a_seq (fun K hK => ?_)) | ((first | refine a_regionS ?_ | refine a_ret ?_); simp (maxSteps := 2000000) only [Ty.w, simprocAttr, c1, c3, s0, s1, s2]) | (refine a_skip ?_; (try simp only [pst0, simprocAttr])) | (refine a_cond _ (by (try simp (maxSteps := 2000000) only [Ty.w, simprocAttr, c1, c3, s0, s1, s2]); rfl) (fun hb => ?_) (fun hb => ?_) <;> (try simp only [hb0, decide_eq_true_eq, decide_eq_false_iff_not, simprocAttr] at hb) <;> (try (exfalso; omega))) | (refine hK _ _ ?_; clear hK; (try simp only [pst0, simprocAttr])))
          all_goals (rw [hw])
        | false =>
          cases s3 : ((c.toNat : Int) == 58) with
          | true =>
            have hw : wB c = true := by simp only [wB, hlet, hdig, signs_c, s0, s1, s2, s3, Bool.or_true, Bool.true_or, Bool.false_or]
            repeat' (first | (refine a_seq (fun K hK => ?_)) | ((first | refine a_regionS ?_ | refine a_ret ?_); simp (maxSteps := 2000000) only [Ty.w, simprocAttr, c1, c3, s0, s1, s2, s3]) | (refine a_skip ?_; (try simp only [pst0, simprocAttr])) | (refine a_cond _ (by (try simp (maxSteps := 2000000) only [Ty.w, simprocAttr, c1, c3, s0, s1, s2, s3]); rfl) (fun hb => ?_) (fun hb => ?_) <;> (try simp only [hb0, decide_eq_true_eq, decide_eq_false_iff_not, simprocAttr] at hb) <;> (try (exfalso; omega))) | (refine hK _ _ ?_; clear hK; (try simp only [pst0, simprocAttr])))
            all_goals (rw [hw])
          | false =>
            cases s4 : ((c.toNat : Int) == 60) with
            | true =>
              have hw : wB c = true := by simp only [wB, hlet, hdig, signs_c, s0, s1, s2, s3, s4, Bool.or_true, Bool.true_or, Bool.false_or]
              repeat' (first | (refine a_seq (fun K hK => ?_)) | ((first | refine a_regionS ?_ | refine a_ret ?_); simp (maxSteps := 2000000) only [Ty.w, simprocAttr, c1, c3, s0, s1, s2, s3, s4]) | (refine a_skip ?_; (try simp only [pst0, simprocAttr])) | (refine a_cond _ (by (try simp (maxSteps := 2000000) only [Ty.w, simprocAttr, c1, c3, s0, s1, s2, s3, s4]); rfl) (fun hb => ?_) (fun hb => ?_) <;> (try simp only [hb0, decide_eq_true_eq, decide_eq_false_iff_not, simprocAttr] at hb) <;> (try (exfalso; omega))) | (refine hK _ _ ?_; clear hK; (try simp only [pst0, simprocAttr])))
              all_goals (rw [hw])
            | false =>
              cases s5 : ((c.toNat : Int) == 62) with
              | true =>
                have hw : wB c = true := by simp only [wB, hlet, hdig, signs_c, s0, s1, s2, s3, s4, s5, Bool.or_true, Bool.true_or, Bool.false_or]
                repeat' (first | (refine a_seq (fun K hK => ?_)) | ((first | refine a_regionS ?_ | refine a_ret ?_); simp (maxSteps := 2000000) only [Ty.w, simprocAttr, c1, c3, s0, s1, s2, s3, s4, s5]) | (refine a_skip ?_; (try simp only [pst0, simprocAttr])) | (refine a_cond _ (by (try simp (maxSteps := 2000000) only [Ty.w, simprocAttr, c1, c3, s0, s1, s2, s3, s4, s5]); rfl) (fun hb => ?_) (fun hb => ?_) <;> (try simp only [hb0, decide_eq_true_eq, decide_eq_false_iff_not, simprocAttr] at hb) <;> (try (exfalso; omega))) | (refine hK _ _ ?_; clear hK; (try simp only [pst0, simprocAttr])))
                all_goals (rw [hw])
              | false =>
                cases s6 : ((c.toNat : Int) == 61) with
                | true =>
                  have hw : wB c = true := by simp only [wB, hlet, hdig, signs_c, s0, s1, s2, s3, s4, s5, s6, Bool.or_true, Bool.true_or, Bool.false_or]
                  repeat' (first | (refine a_seq (fun K hK => ?_)) | ((first | refine a_regionS ?_ | refine a_ret ?_); simp (maxSteps := 2000000) only [Ty.w, simprocAttr, c1, c3, s0, s1, s2, s3, s4, s5, s6]) | (refine a_skip ?_; (try simp only [pst0, simprocAttr])) | (refine a_cond _ (by (try simp (maxSteps := 2000000) only [Ty.w, simprocAttr, c1, c3, s0, s1, s2, s3, s4, s5, s6]); rfl) (fun hb => ?_) (fun hb => ?_) <;> (try simp only [hb0, decide_eq_true_eq, decide_eq_false_iff_not, simprocAttr] at hb) <;> (try (exfalso; omega))) | (refine hK _ _ ?_; clear hK; (try simp only [pst0, simprocAttr])))
                  all_goals (rw [hw])
                | false =>
                  cases s7 : ((c.toNat : Int) == 43) with
                  | true =>
                    have hw : wB c = true := by simp only [wB, hlet, hdig, signs_c, s0, s1, s2, s3, s4, s5, s6, s7, Bool.or_true, Bool.true_or, Bool.false_or]
                    repeat' (first | (refine a_seq (fun K hK => ?_)) | ((first | refine a_regionS ?_ | refine a_ret ?_); simp (maxSteps := 2000000) only [Ty.w, simprocAttr, c1, c3, s0, s1, s2, s3, s4, s5, s6, s7]) | (refine a_skip ?_; (try simp only [pst0, simprocAttr])) | (refine a_cond _ (by (try simp (maxSteps := 2000000) only [Ty.w, simprocAttr, c1, c3, s0, s1, s2, s3, s4, s5, s6, s7]); rfl) (fun hb => ?_) (fun hb => ?_) <;> (try simp only [hb0, decide_eq_true_eq, decide_eq_false_iff_not, simprocAttr] at hb) <;> (try (exfalso; omega))) | (refine hK _ _ ?_; clear hK; (try simp only [pst0, simprocAttr])))
                    all_goals (rw [hw])
                  | false =>
                    cases s8 : ((c.toNat : Int) == 42) with
                    | true =>
                      have hw : wB c = true := by simp only [wB, hlet, hdig, signs_c, s0, s1, s2, s3, s4, s5, s6, s7, s8, Bool.or_true, Bool.true_or, Bool.false_or]
                      repeat' (first | (refine a_seq (fun K hK => ?_)) | ((first | refine a_regionS ?_ | refine a_ret ?_); simp (maxSteps := 2000000) only [Ty.w, simprocAttr, c1, c3, s0, s1, s2, s3, s4, s5, s6, s7, s8]) | (refine a_skip ?_; (try simp only [pst0, simprocAttr])) | (refine a_cond _ (by (try simp (maxSteps := 2000000) only [Ty.w, simprocAttr, c1, c3, s0, s1, s2, s3, s4, s5, s6, s7, s8]); rfl) (fun hb => ?_) (fun hb => ?_) <;> (try simp only [hb0, decide_eq_true_eq, decide_eq_false_iff_not, simprocAttr] at hb) <;> (try (exfalso; omega))) | (refine hK _ _ ?_; clear hK; (try simp only [pst0, simprocAttr])))
                      all_goals (rw [hw])
                    | false =>
                      have hw : wB c = false := by simp only [wB, hlet, hdig, signs_c, s0, s1, s2, s3, s4, s5, s6, s7, s8, Bool.or_false]
                      repeat' (first | (refine a_seq (fun K hK => ?_)) | ((first | refine a_regionS ?_ | refine a_ret ?_); simp (maxSteps := 2000000) only [Ty.w, simprocAttr, c1, c3, s0, s1, s2, s3, s4, s5, s6, s7, s8]) | (refine a_skip ?_; (try simp only [pst0, simprocAttr])) | (refine a_cond _ (by (try simp (maxSteps := 2000000) only [Ty.w, simprocAttr, c1, c3, s0, s1, s2, s3, s4, s5, s6, s7, s8]); rfl) (fun hb => ?_) (fun hb => ?_) <;> (try simp only [hb0, decide_eq_true_eq, decide_eq_false_iff_not, simprocAttr] at hb) <;> (try (exfalso; omega))) | (refine hK _ _ ?_; clear hK; (try simp only [pst0, simprocAttr])))
                      all_goals (rw [hw])
  · repeat' (first | (refine a_seq (fun K hK => ?_)) | ((first | refine a_regionS ?_ | refine a_ret ?_); simp (maxSteps := 2000000) only [Ty.w, simprocAttr, c1, c3, c4]) | (refine hK _ _ ?_; clear hK; (try simp only [pst0, simprocAttr])))
    all_goals (rw [hw])
  · cases s0 : ((c.toNat : Int) == 45) with
    | true =>
      have hw : wB c = true := by simp only [wB, hlet, hdig, signs_c, s0, Bool.or_true, Bool.true_or, Bool.false_or]
      repeat' (first | (refine a_seq (fun K hK => ?_)) | ((first | refine a_regionS ?_ | refine a_ret ?_); simp (maxSteps := 2000000) only [Ty.w, simprocAttr, c1, c3, c4, s0]) | (refine a_skip ?_; (try simp only [pst0, simprocAttr])) | (refine a_cond _ (by (try simp (maxSteps := 2000000) only [Ty.w, simprocAttr, c1, c3, c4, s0]); rfl) (fun hb => ?_) (fun hb => ?_) <;> (try simp only [hb0, decide_eq_true_eq, decide_eq_false_iff_not, simprocAttr] at hb) <;> (try (exfalso; omega))) | (refine hK _ _ ?_; clear hK; (try simp only [pst0, simprocAttr])))
      all_goals (rw [hw])
    | false =>
      cases s1 : ((c.toNat : Int) == 95) with
      | true =>
        have hw : wB c = true := by simp only [wB, hlet, hdig, signs_c, s0, s1, Bool.or_true, Bool.true_or, Bool.false_or]
        repeat' (first | (refine a_seq (fun K hK => ?_)) | ((first | refine a_regionS ?_ | refine a_ret ?_); simp (maxSteps := 2000000) only [Ty.w, simprocAttr, c1, c3, c4, s0, s1]) | (refine a_skip ?_; (try simp only [pst0, simprocAttr])) | (refine a_cond _ (by (try simp (maxSteps := 2000000) only [Ty.w, simprocAttr, c1, c3, c4, s0, s1]); rfl) (fun hb => ?_) (fun hb => ?_) <;> (try simp only [hb0, decide_eq_true_eq, decide_eq_false_iff_not, simprocAttr] at hb) <;> (try (exfalso; omega))) | (refine hK _ _ ?_; clear hK; (try simp only [pst0, simprocAttr])))
        all_goals (rw [hw])
      | false =>
        cases s2 : ((c.toNat : Int) == 63) with
        | true =>
          have hw : wB c = true := by simp only [wB, hlet, hdig, signs_c, s0, s1, s2, Bool.or_true, Bool.true_or, Bool.false_or]
          repeat' (first | (refine a_seq (fun K hK => ?_)) | ((first | refine a_regionS ?_ | refine a_ret ?_); simp (maxSteps := 2000000) only [Ty.w, simprocAttr, c1, c3, c4, s0, s1, s2]) | (refine a_skip ?_; (try simp only [pst0, simprocAttr])) | (refine a_cond _ (by (try simp (maxSteps := 2000000) only [Ty.w, simprocAttr, c1, c3, c4, s0, s1, s2]); rfl) (fun hb => ?_) (fun hb => ?_) <;> (try simp only [hb0, decide_eq_true_eq, decide_eq_false_iff_not, simprocAttr] at hb) <;> (try (exfalso; omega))) | (refine hK _ _ ?_; clear hK; (try simp only [pst0, simprocAttr])))
          all_goals (rw [hw])
        | false =>
          cases s3 : ((c.toNat : Int) == 58) with
          | true =>
            have hw : wB c = true := by simp only [wB, hlet, hdig, signs_c, s0, s1, s2, s3, Bool.or_true, Bool.true_or, Bool.false_or]
            repeat' (first | (refine a_seq (fun K hK => ?_)) | ((first | refine a_regionS ?_ | refine a_ret ?_); simp (maxSteps := 2000000) only [Ty.w, simprocAttr, c1, c3, c4, s0, s1, s2, s3]) | (refine a_skip ?_; (try simp only [pst0, simprocAttr])) | (refine a_cond _ (by (try simp (maxSteps := 2000000) only [Ty.w, simprocAttr, c1, c3, c4, s0, s1, s2, s3]); rfl) (fun hb => ?_) (fun hb => ?_) <;> (try simp only [hb0, decide_eq_true_eq, decide_eq_false_iff_not, simprocAttr] at hb) <;> (try (exfalso; omega))) | (refine hK _ _ ?_; clear hK; (try simp only [pst0, simprocAttr])))
            all_goals (rw [hw])
          | false =>
            cases s4 : ((c.toNat : Int) == 60) with
            | true =>
              have hw : wB c = true := by simp only [wB, hlet, hdig, signs_c, s0, s1, s2, s3, s4, Bool.or_true, Bool.true_or, Bool.false_or]
              repeat' (first | (refine a_seq (fun K hK => ?_)) | ((first | refine a_regionS ?_ | refine a_ret ?_); simp (maxSteps := 2000000) only [Ty.w, simprocAttr, c1, c3, c4, s0, s1, s2, s3, s4]) | (refine a_skip ?_; (try simp only [pst0, simprocAttr])) | (refine a_cond _ (by (try simp (maxSteps := 2000000) only [Ty.w, simprocAttr, c1, c3, c4, s0, s1, s2, s3, s4]); rfl) (fun hb => ?_) (fun hb => ?_) <;> (try simp only [hb0, decide_eq_true_eq, decide_eq_false_iff_not, simprocAttr] at hb) <;> (try (exfalso; omega))) | (refine hK _ _ ?_; clear hK; (try simp only [pst0, simprocAttr])))
              all_goals (rw [hw])
            | false =>
              cases s5 : ((c.toNat : Int) == 62) with
              | true =>
                have hw : wB c = true := by simp only [wB, hlet, hdig, signs_c, s0, s1, s2, s3, s4, s5, Bool.or_true, Bool.true_or, Bool.false_or]
                repeat' (first | (refine a_seq (fun K hK => ?_)) | ((first | refine a_regionS ?_ | refine a_ret ?_); simp (maxSteps := 2000000) only [Ty.w, simprocAttr, c1, c3, c4, s0, s1, s2, s3, s4, s5]) | (refine a_skip ?_; (try simp only [pst0, simprocAttr])) | (refine a_cond _ (by (try simp (maxSteps := 2000000) only [Ty.w, simprocAttr, c1, c3, c4, s0, s1, s2, s3, s4, s5]); rfl) (fun hb => ?_) (fun hb => ?_) <;> (try simp only [hb0, decide_eq_true_eq, decide_eq_false_iff_not, simprocAttr] at hb) <;> (try (exfalso; omega))) | (refine hK _ _ ?_; clear hK; (try simp only [pst0, simprocAttr])))
                all_goals (rw [hw])
              | false =>
                cases s6 : ((c.toNat : Int) == 61) with
                | true =>
                  have hw : wB c = true := by simp only [wB, hlet, hdig, signs_c, s0, s1, s2, s3, s4, s5, s6, Bool.or_true, Bool.true_or, Bool.false_or]
                  repeat' (first | (refine a_seq (fun K hK => ?_)) | ((first | refine a_regionS ?_ | refine a_ret ?_); simp (maxSteps := 2000000) only [Ty.w, simprocAttr, c1, c3, c4, s0, s1, s2, s3, s4, s5, s6]) | (refine a_skip ?_; (try simp only [pst0, simprocAttr])) | (refine a_cond _ (by (try simp (maxSteps := 2000000) only [Ty.w, simprocAttr, c1, c3, c4, s0, s1, s2, s3, s4, s5, s6]); rfl) (fun hb => ?_) (fun hb => ?_) <;> (try simp only [hb0, decide_eq_true_eq, decide_eq_false_iff_not, simprocAttr] at hb) <;> (try (exfalso; omega))) | (refine hK _ _ ?_; clear hK; (try simp only [pst0, simprocAttr])))
                  all_goals (rw [hw])
                | false =>
                  cases s7 : ((c.toNat : Int) == 43) with
                  | true =>
                    have hw : wB c = true := by simp only [wB, hlet, hdig, signs_c, s0, s1, s2, s3, s4, s5, s6, s7, Bool.or_true, Bool.true_or, Bool.false_or]
                    repeat' (first | (refine a_seq (fun K hK => ?_)) | ((first | refine a_regionS ?_ | refine a_ret ?_); simp (maxSteps := 2000000) only [Ty.w, simprocAttr, c1, c3, c4, s0, s1, s2, s3, s4, s5, s6, s7]) | (refine a_skip ?_; (try simp only [pst0, simprocAttr])) | (refine a_cond _ (by (try simp (maxSteps := 2000000) only [Ty.w, simprocAttr, c1, c3, c4, s0, s1, s2, s3, s4, s5, s6, s7]); rfl) (fun hb => ?_) (fun hb => ?_) <;> (try simp only [hb0, decide_eq_true_eq, decide_eq_false_iff_not, simprocAttr] at hb) <;> (try (exfalso; omega))) | (refine hK _ _ ?_; clear hK; (try simp only [pst0, simprocAttr])))
                    all_goals (rw [hw])
                  | false =>
                    cases s8 : ((c.toNat : Int) == 42) with
                    | true =>
                      have hw : wB c = true := by simp only [wB, hlet, hdig, signs_c, s0, s1, s2, s3, s4, s5, s6, s7, s8, Bool.or_true, Bool.true_or, Bool.false_or]
                      repeat' (first | (refine a_seq (fun K hK => ?_)) | ((first | refine a_regionS ?_ | refine a_ret ?_); simp (maxSteps := 2000000) only [Ty.w, simprocAttr, c1, c3, c4, s0, s1, s2, s3, s4, s5, s6, s7, s8]) | (refine a_skip ?_; (try simp only [pst0, simprocAttr])) | (refine a_cond _ (by (try simp (maxSteps := 2000000) only [Ty.w, simprocAttr, c1, c3, c4, s0, s1, s2, s3, s4, s5, s6, s7, s8]); rfl) (fun hb => ?_) (fun hb => ?_) <;> (try simp only [hb0, decide_eq_true_eq, decide_eq_false_iff_not, simprocAttr] at hb) <;> (try (exfalso; omega))) | (refine hK _ _ ?_; clear hK; (try simp only [pst0, simprocAttr])))
                      all_goals (rw [hw])
                    | false =>
                      have hw : wB c = false := by simp only [wB, hlet, hdig, signs_c, s0, s1, s2, s3, s4, s5, s6, s7, s8, Bool.or_false]
                      repeat' (first | (refine a_seq (fun K hK => ?_)) | ((first | refine a_regionS ?_ | refine a_ret ?_); simp (maxSteps := 2000000) only [Ty.w, simprocAttr, c1, c3, c4, s0, s1, s2, s3, s4, s5, s6, s7, s8]) | (refine a_skip ?_; (try simp only [pst0, simprocAttr])) | (refine a_cond _ (by (try simp (maxSteps := 2000000) only [Ty.w, simprocAttr, c1, c3, c4, s0, s1, s2, s3, s4, s5, s6, s7, s8]); rfl) (fun hb => ?_) (fun hb => ?_) <;> (try simp only [hb0, decide_eq_true_eq, decide_eq_false_iff_not, simprocAttr] at hb) <;> (try (exfalso; omega))) | (refine hK _ _ ?_; clear hK; (try simp only [pst0, simprocAttr])))
                      all_goals (rw [hw])
/-- is a string the text of a word, for the reference? -/
def wordR (s : ByteArray) : Bool := s.data.toList.all wB && decide (1 ≤ s.size) && decide (s.size ≤ 32) && !(numB s)
theorem rword_c {h : Heap} {s : ByteArray} (hs : s.size ≤ bigN) : PCall Try.prog 134 [sPV s] h fun r h' => r = .sc (.bool (wordR s)) ∧ h' = h := by
  have hs' := hs
  unfold bigN at hs'
  have htl : s.data.toList.length = s.size := by rw [Array.length_toList]; try rfl
  refine pcall_body (ow := fun _ => false) (wf := fun _ => false) Ty.mixed Try.func134 rfl Ty.hb_134 (by rw [Try.ntmps134]; simp) ?_
  rw [Try.ntmps134, Try.results134]
  repeat' (first | (refine a_seq (fun K hK => ?_)) | (refine a_block ?_) | (refine a_regionS ?_; simp (maxSteps := 2000000) only [Ty.w, simprocAttr]) | (refine hK _ _ ?_; clear hK; (try simp only [pst0, simprocAttr])))
  refine a_loop (fun m S h' => h' = h ∧ S 0 = sPV s ∧ ∃ k : Nat, S 3 = .sc (.int .i64 k) ∧ k ≤ s.size ∧ m = s.size - k ∧ ∀ (i : Nat) (c : UInt8), i < k → s.data.toList[i]? = some c → wB c = true) s.size ?_ ?_
  · simp only [Ty.w, simprocAttr]
    exact ⟨0, rfl, by omega, rfl, by omega⟩
  · rintro m S h' ⟨rfl, g0, k, g3, hk, rfl, hall⟩
    by_cases hlt : k < s.size
    · have hd : decide ((k : Int) < (s.size : Int)) = true := by simp; omega
      have w7 : IntKind.i64.wrap ((k : Int) + 1) = k + 1 := by rw [wrap64 (by omega) (by omega)]
      obtain ⟨c, hx⟩ : ∃ c, s.data.toList[k]? = some c := ⟨_, List.getElem?_eq_getElem (by omega)⟩
      have hr : s[k]? = some c := by rw [ba_get]; exact hx
      cases hg : wB c with
      | false =>
        have bad : s.data.toList.all wB = false := by rw [List.all_eq_false]; exact ⟨c, List.mem_of_getElem? hx, by simp [hg]⟩
        have hw : wordR s = false := by simp only [wordR, bad, Bool.false_and]
        repeat' (first | (refine a_seq (fun K hK => ?_)) | (refine a_regionS ?_; simp (maxSteps := 2000000) only [Ty.w, simprocAttr, g0, g3, hd, hr]) | (refine a_skip ?_; (try simp only [pst0, simprocAttr])) | (refine a_cond _ (by (try simp (maxSteps := 2000000) only [Ty.w, simprocAttr, g0, g3, hd, hr]); rfl) (fun hb => ?_) (fun hb => ?_) <;> (try simp only [hb0, decide_eq_true_eq, decide_eq_false_iff_not, simprocAttr] at hb) <;> (try (exfalso; omega))) | (refine hK _ _ ?_; clear hK; (try simp only [pst0, simprocAttr])))
        refine owp_useQ (letter_c (c := c)) (by (try simp only [Ty.w, simprocAttr, g0, g3, hd, hr, hg, Bool.not_false]); try rfl) ?_; simp (maxSteps := 2000000) only [Ty.w, simprocAttr, g0, g3, hd, hr, hg, Bool.not_false]
        repeat' (first | (refine a_seq (fun K hK => ?_)) | ((first | refine a_regionS ?_ | refine a_ret ?_); simp (maxSteps := 2000000) only [Ty.w, simprocAttr, g0, g3, Bool.not_false]) | (refine hK _ _ ?_; clear hK; (try simp only [pst0, simprocAttr])))
        all_goals (rw [hw])
      | true =>
        repeat' (first | (refine a_seq (fun K hK => ?_)) | (refine a_regionS ?_; simp (maxSteps := 2000000) only [Ty.w, simprocAttr, g0, g3, hd, hr]) | (refine a_skip ?_; (try simp only [pst0, simprocAttr])) | (refine a_cond _ (by (try simp (maxSteps := 2000000) only [Ty.w, simprocAttr, g0, g3, hd, hr]); rfl) (fun hb => ?_) (fun hb => ?_) <;> (try simp only [hb0, decide_eq_true_eq, decide_eq_false_iff_not, simprocAttr] at hb) <;> (try (exfalso; omega))) | (refine hK _ _ ?_; clear hK; (try simp only [pst0, simprocAttr])))
        refine owp_useQ (letter_c (c := c)) (by (try simp only [Ty.w, simprocAttr, g0, g3, hd, hr, hg, Bool.not_true]); try rfl) ?_; simp (maxSteps := 2000000) only [Ty.w, simprocAttr, g0, g3, hd, hr, hg, Bool.not_true]
        repeat' (first | (refine a_block ?_) | (refine a_regionS ?_; simp (maxSteps := 2000000) only [Ty.w, simprocAttr, g0, g3, w7, Bool.not_true]) | (refine a_skip ?_; (try simp only [pst0, simprocAttr])) | (refine hK _ _ ?_; clear hK; (try simp only [pst0, simprocAttr])))
        refine ⟨s.size - (k + 1), by omega, k + 1, by simp, by omega, rfl, fun i c2 hi hw => ?_⟩
        by_cases hik : i = k
        · subst hik; rw [hx] at hw; simp at hw; rw [← hw]; exact hg
        · exact hall i c2 (by omega) hw
    · have hd : decide ((k : Int) < (s.size : Int)) = false := by simp; omega
      have hok : s.data.toList.all wB = true := by
        rw [List.all_eq_true]
        intro c hc
        obtain ⟨i, hi⟩ := List.getElem?_of_mem hc
        exact hall i c (by have := (List.getElem?_eq_some_iff.1 hi).1; omega) hi
      have e1 : decide ((s.size : Int) ≥ 1) = decide (1 ≤ s.size) := decide_eq_decide.2 (by omega)
      have e2 : decide ((s.size : Int) ≤ 32) = decide (s.size ≤ 32) := decide_eq_decide.2 (by omega)
      have hW : wordR s = (decide ((s.size : Int) ≥ 1) && decide ((s.size : Int) ≤ 32) && !(numB s)) := by simp only [wordR, hok, e1, e2, Bool.true_and]
      clear hall e1 e2
      have hn := fun h : Heap => rnumeric_c (h := h) hs
      cases q1 : decide ((s.size : Int) ≥ 1) with
      | false =>
        repeat' (first | (refine a_seq (fun K hK => ?_)) | ((first | refine a_regionS ?_ | refine a_ret ?_); simp (maxSteps := 2000000) only [Ty.w, simprocAttr, g0, g3, hd, q1]) | (refine a_exit ?_; (try simp only [pst0, simprocAttr])) | (refine a_cond _ (by (try simp (maxSteps := 2000000) only [Ty.w, simprocAttr, g0, g3, hd, q1]); rfl) (fun hb => ?_) (fun hb => ?_) <;> (try simp only [hb0, decide_eq_true_eq, decide_eq_false_iff_not, simprocAttr] at hb) <;> (try (exfalso; omega))) | ((first | refine hK _ _ ?_ | (clear hK; refine hK _ _ ?_)); clear hK; (try simp only [pst0, simprocAttr])))
        all_goals (rw [hW, q1]; try rfl)
      | true =>
        cases q2 : decide ((s.size : Int) ≤ 32) with
        | false =>
          repeat' (first | (refine a_seq (fun K hK => ?_)) | ((first | refine a_regionS ?_ | refine a_ret ?_); simp (maxSteps := 2000000) only [Ty.w, simprocAttr, g0, g3, hd, q1, q2]) | (refine a_exit ?_; (try simp only [pst0, simprocAttr])) | (refine a_cond _ (by (try simp (maxSteps := 2000000) only [Ty.w, simprocAttr, g0, g3, hd, q1, q2]); rfl) (fun hb => ?_) (fun hb => ?_) <;> (try simp only [hb0, decide_eq_true_eq, decide_eq_false_iff_not, simprocAttr] at hb) <;> (try (exfalso; omega))) | ((first | refine hK _ _ ?_ | (clear hK; refine hK _ _ ?_)); clear hK; (try simp only [pst0, simprocAttr])))
          all_goals (rw [hW, q1, q2]; try rfl)
        | true =>
          repeat' (first | (refine a_seq (fun K hK => ?_)) | (refine a_regionS ?_; simp (maxSteps := 2000000) only [Ty.w, simprocAttr, g0, g3, hd, q1, q2]) | (refine a_exit ?_; (try simp only [pst0, simprocAttr])) | (refine a_cond _ (by (try simp (maxSteps := 2000000) only [Ty.w, simprocAttr, g0, g3, hd, q1, q2]); rfl) (fun hb => ?_) (fun hb => ?_) <;> (try simp only [hb0, decide_eq_true_eq, decide_eq_false_iff_not, simprocAttr] at hb) <;> (try (exfalso; omega))) | ((first | refine hK _ _ ?_ | (clear hK; refine hK _ _ ?_)); clear hK; (try simp only [pst0, simprocAttr])))
          refine owp_useQ (hn _) (by (try simp only [Ty.w, simprocAttr, q1, q2]); try rfl) ?_; simp (maxSteps := 2000000) only [Ty.w, simprocAttr, q1, q2]
          repeat' (first | (refine a_ret ?_; simp (maxSteps := 2000000) only [Ty.w, simprocAttr, q1, q2]) | (refine hK _ _ ?_; clear hK; (try simp only [pst0, simprocAttr])))
          all_goals (rw [hW, q1, q2]; try rfl)
end Go.Proofs.Ytjlkapgpjamnkaa
namespace Go.AM
mutual
def Sx.count : Sx → Int
  | .mk _ _ _ _ _ kids => Sx.counts 1 kids
def Sx.counts (n : Int) : List Sx → Int
  | [] => n
  | k :: ks => Sx.counts (IntKind.i64.wrap (n + k.count)) ks
end
theorem Sx.counts_append : ∀ (l m : List Sx) (n : Int), Sx.counts n (l ++ m) = Sx.counts (Sx.counts n l) m
  | [], m, n => by simp [Sx.counts]
  | k :: l, m, n => by simp only [List.cons_append, Sx.counts]; exact Sx.counts_append l m _
theorem Sx.counts_take {l : List Sx} {i : Nat} {k : Sx} (n : Int) (h : l[i]? = some k) : Sx.counts n (l.take (i + 1)) = IntKind.i64.wrap (Sx.counts n (l.take i) + k.count) := by
  rw [List.take_add_one, h, Sx.counts_append]; try rfl
mutual
def Sx.depth : Sx → Nat
  | .mk kind _ _ _ _ kids => if kind = 3 then Sx.depths 0 kids + 1 else Sx.depths 0 kids
def Sx.depths (n : Nat) : List Sx → Nat
  | [] => n
  | k :: ks => Sx.depths (max n k.depth) ks
end
theorem Sx.depths_append : ∀ (l m : List Sx) (n : Nat), Sx.depths n (l ++ m) = Sx.depths (Sx.depths n l) m
  | [], m, n => by simp [Sx.depths]
  | k :: l, m, n => by simp only [List.cons_append, Sx.depths]; exact Sx.depths_append l m _
theorem Sx.depths_take {l : List Sx} {i : Nat} {k : Sx} (n : Nat) (h : l[i]? = some k) : Sx.depths n (l.take (i + 1)) = max (Sx.depths n (l.take i)) k.depth := by
  rw [List.take_add_one, h, Sx.depths_append]; try rfl
theorem Sx.depths_le : ∀ (l : List Sx) (n : Nat), n ≤ Sx.depths n l
  | [], n => Nat.le_refl _
  | k :: l, n => by simp only [Sx.depths]; exact Nat.le_trans (Nat.le_max_left _ _) (Sx.depths_le l _)
theorem Sx.depths_mem : ∀ {l : List Sx} {k : Sx} (n : Nat), k ∈ l → k.depth ≤ Sx.depths n l
  | k' :: l, k, n, h => by
    simp only [Sx.depths]
    rcases List.mem_cons.1 h with rfl | h
    · exact Nat.le_trans (Nat.le_max_right _ _) (Sx.depths_le l _)
    · exact Sx.depths_mem _ h
end Go.AM
namespace Go.Proofs.Ytjlkapgpjamnkaa
open Go.AM
set_option maxHeartbeats 2000000
set_option maxRecDepth 20000
mutual
def shapedS : Sx → Bool
  | .mk kind value _ _ text kids =>
    if kind = 1 then (value == 0) && kids.isEmpty && wordR text
    else if kind = 2 then (text.data.toList == (#[] : Array UInt8).toList) && kids.isEmpty && decide (value ≥ -1099511627776) && decide (value ≤ 1099511627776)
    else if kind = 3 then shapedSs kids && ((text.data.toList == (#[] : Array UInt8).toList) && (value == 0))
    else false
def shapedSs : List Sx → Bool
  | [] => true
  | k :: ks => shapedS k && shapedSs ks
end
theorem emp_lenS (l : List Sx) : ((l.length : Int) == 0) = l.isEmpty := by cases l <;> simp; omega
theorem rcount_c : ∀ (e : Sx), e.ok → ∀ h : Heap, PCall Try.prog 32 [.agg e.cells] h fun r h' => r = .sc (.int .i64 e.count) ∧ h' = h := by
  refine Sx.ind ?_
  intro kind value line col text kids ih hok h
  simp only [Sx.ok] at hok
  obtain ⟨_, _, _, hk, hks⟩ := hok
  rw [Sx.oks_iff] at hks
  have hlen := Sx.rows_len kids
  simp only [Sx.cells, Sx.count]
  refine pcall_body (ow := fun _ => false) (wf := fun _ => false) Ty.mixed Try.func32 rfl Ty.hb_32 (by rw [Try.ntmps32]; simp) ?_
  rw [Try.ntmps32, Try.results32]
  repeat' (first | (refine a_seq (fun K hK => ?_)) | (refine a_block ?_) | (refine a_regionS ?_; simp (maxSteps := 2000000) only [Ty.w, simprocAttr, hlen]) | (refine hK _ _ ?_; clear hK; (try simp only [pst0, simprocAttr])))
  refine a_loop (fun m S h' => h' = h ∧ S 1 = .cptr (Sx.mk kind value line col text kids).cells ∧ ∃ k : Nat, S 4 = .sc (.int .i64 k) ∧ k ≤ kids.length ∧ m = kids.length - k ∧ S 3 = .sc (.int .i64 (Sx.counts 1 (kids.take k)))) kids.length ?_ ?_
  · simp only [Ty.w, simprocAttr]
    exact ⟨rfl, 0, rfl, by omega, rfl, by simp [Sx.counts]⟩
  · rintro m S h' ⟨rfl, g1, k, g4, hkl, rfl, g3⟩
    simp only [Sx.cells] at g1
    by_cases hlt : k < kids.length
    · have hd : decide ((k : Int) < (kids.length : Int)) = true := by simp; omega
      have w7 : IntKind.i64.wrap ((k : Int) + 1) = k + 1 := by unfold bigN at hk; rw [wrap64 (by omega) (by omega)]
      obtain ⟨e, hx⟩ : ∃ e, kids[k]? = some e := ⟨_, List.getElem?_eq_getElem hlt⟩
      have hmem := List.mem_of_getElem? hx
      have hc := ih e hmem (hks e hmem)
      have hsz := Sx.counts_take 1 hx
      have hr := Sx.rows_get hx
      obtain ⟨ki, va, li, co, te, ks⟩ := e
      simp only [Sx.cells] at hr hc
      repeat' (first | (refine a_seq (fun K hK => ?_)) | (refine a_block ?_) | ((first | refine a_regionS ?_ | refine a_region (fun K hK => ?_)); simp (maxSteps := 2000000) only [Ty.w, simprocAttr, g1, g3, g4, hlen, hd, hr, w7]) | (refine a_skip ?_; (try simp only [pst0, simprocAttr])) | (refine a_cond _ (by (try simp (maxSteps := 2000000) only [Ty.w, simprocAttr, g1, g3, g4, hlen, hd, hr, w7]); rfl) (fun hb => ?_) (fun hb => ?_) <;> (try simp only [hb0, decide_eq_true_eq, decide_eq_false_iff_not, simprocAttr] at hb) <;> (try (exfalso; omega))) | (refine hK _ _ ?_; clear hK; (try simp only [pst0, simprocAttr])))
      refine owp_useQ (hc _) (by (try simp only [Ty.w, simprocAttr, g1, g3, g4, hlen, hd, hr]); try rfl) ?_; simp (maxSteps := 2000000) only [Ty.w, simprocAttr, g1, g3, g4, hlen, hd, hr]
      repeat' (first | (refine a_regionS ?_; simp (maxSteps := 2000000) only [Ty.w, simprocAttr, g1, g3, g4, w7]) | (refine hK _ _ ?_; clear hK; (try simp only [pst0, simprocAttr])))
      exact ⟨kids.length - (k + 1), by omega, rfl, k + 1, by simp, by omega, rfl, by rw [hsz]⟩
    · have hd : decide ((k : Int) < (kids.length : Int)) = false := by simp; omega
      have hke : k = kids.length := by omega
      subst hke
      rw [List.take_length] at g3
      repeat' (first | (refine a_seq (fun K hK => ?_)) | ((first | refine a_regionS ?_ | refine a_ret ?_); simp (maxSteps := 2000000) only [Ty.w, simprocAttr, g1, g3, g4, hlen, hd]) | (refine a_exit ?_; (try simp only [pst0, simprocAttr])) | (refine a_cond _ (by (try simp (maxSteps := 2000000) only [Ty.w, simprocAttr, g1, g3, g4, hlen, hd]); rfl) (fun hb => ?_) (fun hb => ?_) <;> (try simp only [hb0, decide_eq_true_eq, decide_eq_false_iff_not, simprocAttr] at hb) <;> (try (exfalso; omega))) | ((first | refine hK _ _ ?_ | (clear hK; refine hK _ _ ?_)); clear hK; (try simp only [pst0, simprocAttr])))
theorem rdepth_c : ∀ (e : Sx), e.ok → e.depth ≤ bigN → ∀ h : Heap, PCall Try.prog 98 [.agg e.cells] h fun r h' => r = .sc (.int .i64 e.depth) ∧ h' = h := by
  refine Sx.ind ?_
  intro kind value line col text kids ih hok hdp h
  simp only [Sx.ok] at hok
  obtain ⟨_, _, _, hk, hks⟩ := hok
  rw [Sx.oks_iff] at hks
  have hlen := Sx.rows_len kids
  simp only [Sx.depth] at hdp
  have hdb : Sx.depths 0 kids ≤ bigN := by split at hdp <;> omega
  simp only [Sx.cells, Sx.depth]
  refine pcall_body (ow := fun _ => false) (wf := fun _ => false) Ty.mixed Try.func98 rfl Ty.hb_98 (by rw [Try.ntmps98]; simp) ?_
  rw [Try.ntmps98, Try.results98]
  repeat' (first | (refine a_seq (fun K hK => ?_)) | (refine a_block ?_) | (refine a_regionS ?_; simp (maxSteps := 2000000) only [Ty.w, simprocAttr, hlen]) | (refine hK _ _ ?_; clear hK; (try simp only [pst0, simprocAttr])))
  refine a_loop (fun m S h' => h' = h ∧ S 1 = .cptr (Sx.mk kind value line col text kids).cells ∧ ∃ k : Nat, S 4 = .sc (.int .i64 k) ∧ k ≤ kids.length ∧ m = kids.length - k ∧ S 3 = .sc (.int .i64 (Sx.depths 0 (kids.take k) : Nat))) kids.length ?_ ?_
  · simp only [Ty.w, simprocAttr]
    exact ⟨rfl, 0, rfl, by omega, rfl, by simp [Sx.depths]⟩
  · rintro m S h' ⟨rfl, g1, k, g4, hkl, rfl, g3⟩
    simp only [Sx.cells] at g1
    by_cases hlt : k < kids.length
    · have hd : decide ((k : Int) < (kids.length : Int)) = true := by simp; omega
      have w7 : IntKind.i64.wrap ((k : Int) + 1) = k + 1 := by unfold bigN at hk; rw [wrap64 (by omega) (by omega)]
      obtain ⟨e, hx⟩ : ∃ e, kids[k]? = some e := ⟨_, List.getElem?_eq_getElem hlt⟩
      have hmem := List.mem_of_getElem? hx
      have hc := ih e hmem (hks e hmem) (Nat.le_trans (Sx.depths_mem 0 hmem) hdb)
      have hsz := Sx.depths_take 0 hx
      have hr := Sx.rows_get hx
      generalize Sx.depths 0 (kids.take k) = D at g3 hsz
      generalize e.depth = E at hc hsz
      obtain ⟨ki, va, li, co, te, ks⟩ := e
      simp only [Sx.cells] at hr hc
      cases q : decide ((E : Int) > (D : Int)) with
      | true =>
        have hm : max D E = E := by have := of_decide_eq_true q; omega
        repeat' (first | (refine a_seq (fun K hK => ?_)) | (refine a_regionS ?_; simp (maxSteps := 2000000) only [Ty.w, simprocAttr, g1, g3, g4, hlen, hd, hr, w7]) | (refine a_skip ?_; (try simp only [pst0, simprocAttr])) | (refine a_cond _ (by (try simp (maxSteps := 2000000) only [Ty.w, simprocAttr, g1, g3, g4, hlen, hd, hr, w7]); rfl) (fun hb => ?_) (fun hb => ?_) <;> (try simp only [hb0, decide_eq_true_eq, decide_eq_false_iff_not, simprocAttr] at hb) <;> (try (exfalso; omega))) | (refine hK _ _ ?_; clear hK; (try simp only [pst0, simprocAttr])))
        refine owp_useQ (hc _) (by (try simp only [Ty.w, simprocAttr, g1, g3, g4, hlen, hd, hr, q]); try rfl) ?_; simp (maxSteps := 2000000) only [Ty.w, simprocAttr, g1, g3, g4, hlen, hd, hr, q]
        repeat' (first | (refine a_seq (fun K hK => ?_)) | (refine a_block ?_) | ((first | refine a_regionS ?_ | refine a_region (fun K hK => ?_)); simp (maxSteps := 2000000) only [Ty.w, simprocAttr, g1, g3, g4, w7, q]) | (refine hK _ _ ?_; clear hK; (try simp only [pst0, simprocAttr])))
        exact ⟨kids.length - (k + 1), by omega, rfl, k + 1, by simp, by omega, rfl, by rw [hsz, hm]⟩
      | false =>
        have hm : max D E = D := by have := of_decide_eq_false q; omega
        repeat' (first | (refine a_seq (fun K hK => ?_)) | (refine a_regionS ?_; simp (maxSteps := 2000000) only [Ty.w, simprocAttr, g1, g3, g4, hlen, hd, hr, w7]) | (refine a_skip ?_; (try simp only [pst0, simprocAttr])) | (refine a_cond _ (by (try simp (maxSteps := 2000000) only [Ty.w, simprocAttr, g1, g3, g4, hlen, hd, hr, w7]); rfl) (fun hb => ?_) (fun hb => ?_) <;> (try simp only [hb0, decide_eq_true_eq, decide_eq_false_iff_not, simprocAttr] at hb) <;> (try (exfalso; omega))) | (refine hK _ _ ?_; clear hK; (try simp only [pst0, simprocAttr])))
        refine owp_useQ (hc _) (by (try simp only [Ty.w, simprocAttr, g1, g3, g4, hlen, hd, hr, q]); try rfl) ?_; simp (maxSteps := 2000000) only [Ty.w, simprocAttr, g1, g3, g4, hlen, hd, hr, q]
        repeat' (first | (refine a_seq (fun K hK => ?_)) | (refine a_block ?_) | (refine a_regionS ?_; simp (maxSteps := 2000000) only [Ty.w, simprocAttr, g1, g3, g4, w7, q]) | (refine a_skip ?_; (try simp only [pst0, simprocAttr])) | (refine hK _ _ ?_; clear hK; (try simp only [pst0, simprocAttr])))
        exact ⟨kids.length - (k + 1), by omega, rfl, k + 1, by simp, by omega, rfl, by rw [hsz, hm]⟩
    · have hd : decide ((k : Int) < (kids.length : Int)) = false := by simp; omega
      have hke : k = kids.length := by omega
      subst hke
      rw [List.take_length] at g3
      generalize hD : Sx.depths 0 kids = D at g3 hdb
      have wd : IntKind.i64.wrap ((D : Int) + 1) = (D : Int) + 1 := by unfold bigN at hdb; rw [wrap64 (by omega) (by omega)]
      cases q : (kind == 3) with
      | true =>
        have hk3 : kind = 3 := by simpa using q
        repeat' (first | (refine a_seq (fun K hK => ?_)) | ((first | refine a_regionS ?_ | refine a_ret ?_); simp (maxSteps := 2000000) only [Ty.w, simprocAttr, g1, g3, g4, hlen, hd, q, wd]) | (refine a_exit ?_; (try simp only [pst0, simprocAttr])) | (refine a_cond _ (by (try simp (maxSteps := 2000000) only [Ty.w, simprocAttr, g1, g3, g4, hlen, hd, q, wd]); rfl) (fun hb => ?_) (fun hb => ?_) <;> (try simp only [hb0, decide_eq_true_eq, decide_eq_false_iff_not, simprocAttr] at hb) <;> (try (exfalso; omega))) | ((first | refine hK _ _ ?_ | (clear hK; refine hK _ _ ?_)); clear hK; (try simp only [pst0, simprocAttr])))
        rw [if_pos hk3, hD]; simp
      | false =>
        have hk3 : ¬ kind = 3 := by simpa using q
        repeat' (first | (refine a_seq (fun K hK => ?_)) | ((first | refine a_regionS ?_ | refine a_ret ?_); simp (maxSteps := 2000000) only [Ty.w, simprocAttr, g1, g3, g4, hlen, hd, q, wd]) | ((first | refine a_skip ?_ | refine a_exit ?_); (try simp only [pst0, simprocAttr])) | (refine a_cond _ (by (try simp (maxSteps := 2000000) only [Ty.w, simprocAttr, g1, g3, g4, hlen, hd, q, wd]); rfl) (fun hb => ?_) (fun hb => ?_) <;> (try simp only [hb0, decide_eq_true_eq, decide_eq_false_iff_not, simprocAttr] at hb) <;> (try (exfalso; omega))) | ((first | refine hK _ _ ?_ | (clear hK; refine hK _ _ ?_)); clear hK; (try simp only [pst0, simprocAttr])))
        rw [if_neg hk3, hD]
theorem rshaped_c : ∀ (e : Sx), e.ok → ∀ h : Heap, PCall Try.prog 97 [.agg e.cells] h fun r h' => r = .sc (.bool (shapedS e)) ∧ h' = h := by
  refine Sx.ind ?_
  intro kind value line col text kids ih hok h
  simp only [Sx.ok] at hok
  obtain ⟨_, _, ht, hk, hks⟩ := hok
  rw [Sx.oks_iff] at hks
  have hlen := Sx.rows_len kids
  have e1 := emp_lenS kids
  have hw := fun h : Heap => rword_c (h := h) ht
  generalize hF : shapedS (.mk kind value line col text kids) = F
  unfold shapedS at hF
  rw [← e1] at hF
  clear e1
  simp only [Sx.cells]
  cases k1 : (kind == 1) with
  | true =>
    rw [if_pos (by simpa using k1)] at hF
    cases q1 : (value == 0) with
    | false =>
      rw [q1] at hF
      simp only [Bool.false_and] at hF
      subst hF
      refine pcall_body (ow := fun _ => false) (wf := fun _ => false) Ty.mixed Try.func97 rfl Ty.hb_97 (by rw [Try.ntmps97]; simp) ?_
      rw [Try.ntmps97, Try.results97]
      repeat' (first | (refine a_seq (fun K hK => ?_)) | ((first | refine a_regionS ?_ | refine a_ret ?_); simp (maxSteps := 2000000) only [Ty.w, simprocAttr, k1, q1, hlen]) | (refine hK _ _ ?_; clear hK; (try simp only [pst0, simprocAttr])))
    | true =>
      rw [q1] at hF
      cases q2 : ((kids.length : Int) == 0) with
      | false =>
        rw [q2] at hF
        simp only [Bool.false_and, Bool.and_false] at hF
        subst hF
        refine pcall_body (ow := fun _ => false) (wf := fun _ => false) Ty.mixed Try.func97 rfl Ty.hb_97 (by rw [Try.ntmps97]; simp) ?_
        rw [Try.ntmps97, Try.results97]
        repeat' (first | (refine a_seq (fun K hK => ?_)) | ((first | refine a_regionS ?_ | refine a_ret ?_); simp (maxSteps := 2000000) only [Ty.w, simprocAttr, k1, q1, q2, hlen]) | (refine hK _ _ ?_; clear hK; (try simp only [pst0, simprocAttr])))
      | true =>
        rw [q2] at hF
        simp only [Bool.true_and] at hF
        subst hF
        refine pcall_body (ow := fun _ => false) (wf := fun _ => false) Ty.mixed Try.func97 rfl Ty.hb_97 (by rw [Try.ntmps97]; simp) ?_
        rw [Try.ntmps97, Try.results97]
        repeat' (first | (refine a_seq (fun K hK => ?_)) | (refine a_regionS ?_; simp (maxSteps := 2000000) only [Ty.w, simprocAttr, k1, q1, q2, hlen]) | (refine hK _ _ ?_; clear hK; (try simp only [pst0, simprocAttr])))
        refine owp_useQ (hw _) (by (try simp only [Ty.w, simprocAttr, k1, q1, q2, hlen]); try rfl) ?_; simp (maxSteps := 2000000) only [Ty.w, simprocAttr, k1, q1, q2, hlen]
        repeat' (first | (refine a_ret ?_; simp (maxSteps := 2000000) only [Ty.w, simprocAttr, k1, q1, q2, hlen]) | (refine hK _ _ ?_; clear hK; (try simp only [pst0, simprocAttr])))
  | false =>
    rw [if_neg (by simpa using k1)] at hF
    cases k2 : (kind == 2) with
    | true =>
      rw [if_pos (by simpa using k2)] at hF
      cases q1 : (text.data.toList == (#[] : Array UInt8).toList) with
      | false =>
        rw [q1] at hF
        simp only [Bool.false_and] at hF
        subst hF
        refine pcall_body (ow := fun _ => false) (wf := fun _ => false) Ty.mixed Try.func97 rfl Ty.hb_97 (by rw [Try.ntmps97]; simp) ?_
        rw [Try.ntmps97, Try.results97]
        repeat' (first | (refine a_seq (fun K hK => ?_)) | ((first | refine a_regionS ?_ | refine a_ret ?_); simp (maxSteps := 2000000) only [Ty.w, simprocAttr, k1, k2, q1, hlen]) | (refine hK _ _ ?_; clear hK; (try simp only [pst0, simprocAttr])))
      | true =>
        rw [q1] at hF
        cases q2 : ((kids.length : Int) == 0) with
        | false =>
          rw [q2] at hF
          simp only [Bool.false_and, Bool.and_false] at hF
          subst hF
          refine pcall_body (ow := fun _ => false) (wf := fun _ => false) Ty.mixed Try.func97 rfl Ty.hb_97 (by rw [Try.ntmps97]; simp) ?_
          rw [Try.ntmps97, Try.results97]
          repeat' (first | (refine a_seq (fun K hK => ?_)) | ((first | refine a_regionS ?_ | refine a_ret ?_); simp (maxSteps := 2000000) only [Ty.w, simprocAttr, k1, k2, q1, q2, hlen]) | (refine hK _ _ ?_; clear hK; (try simp only [pst0, simprocAttr])))
        | true =>
          rw [q2] at hF
          cases q3 : decide (value ≥ -1099511627776) with
          | false =>
            rw [q3] at hF
            simp only [Bool.false_and, Bool.and_false] at hF
            subst hF
            refine pcall_body (ow := fun _ => false) (wf := fun _ => false) Ty.mixed Try.func97 rfl Ty.hb_97 (by rw [Try.ntmps97]; simp) ?_
            rw [Try.ntmps97, Try.results97]
            repeat' (first | (refine a_seq (fun K hK => ?_)) | ((first | refine a_regionS ?_ | refine a_ret ?_); simp (maxSteps := 2000000) only [Ty.w, simprocAttr, k1, k2, q1, q2, q3, hlen]) | (refine hK _ _ ?_; clear hK; (try simp only [pst0, simprocAttr])))
          | true =>
            rw [q3] at hF
            simp only [Bool.true_and] at hF
            subst hF
            refine pcall_body (ow := fun _ => false) (wf := fun _ => false) Ty.mixed Try.func97 rfl Ty.hb_97 (by rw [Try.ntmps97]; simp) ?_
            rw [Try.ntmps97, Try.results97]
            repeat' (first | (refine a_seq (fun K hK => ?_)) | ((first | refine a_regionS ?_ | refine a_ret ?_); simp (maxSteps := 2000000) only [Ty.w, simprocAttr, k1, k2, q1, q2, q3, hlen]) | (refine hK _ _ ?_; clear hK; (try simp only [pst0, simprocAttr])))
    | false =>
      rw [if_neg (by simpa using k2)] at hF
      cases k3 : (kind == 3) with
      | false =>
        rw [if_neg (by simpa using k3)] at hF
        subst hF
        refine pcall_body (ow := fun _ => false) (wf := fun _ => false) Ty.mixed Try.func97 rfl Ty.hb_97 (by rw [Try.ntmps97]; simp) ?_
        rw [Try.ntmps97, Try.results97]
        repeat' (first | (refine a_seq (fun K hK => ?_)) | (refine a_block ?_) | ((first | refine a_regionS ?_ | refine a_ret ?_); simp (maxSteps := 2000000) only [Ty.w, simprocAttr, k1, k2, k3]) | (refine a_skip ?_; (try simp only [pst0, simprocAttr])) | (refine hK _ _ ?_; clear hK; (try simp only [pst0, simprocAttr])))
      | true =>
        rw [if_pos (by simpa using k3)] at hF
        refine pcall_body (ow := fun _ => false) (wf := fun _ => false) Ty.mixed Try.func97 rfl Ty.hb_97 (by rw [Try.ntmps97]; simp) ?_
        rw [Try.ntmps97, Try.results97]
        repeat' (first | (refine a_seq (fun K hK => ?_)) | (refine a_block ?_) | (refine a_regionS ?_; simp (maxSteps := 2000000) only [Ty.w, simprocAttr, k1, k2, k3, hlen]) | (refine hK _ _ ?_; clear hK; (try simp only [pst0, simprocAttr])))
        refine a_loop (fun m S h' => h' = h ∧ S 1 = .cptr (Sx.mk kind value line col text kids).cells ∧ ∃ k : Nat, S 3 = .sc (.int .i64 k) ∧ k ≤ kids.length ∧ m = kids.length - k ∧ shapedSs kids = shapedSs (kids.drop k)) kids.length ?_ ?_
        · simp only [Ty.w, simprocAttr]
          exact ⟨rfl, 0, rfl, by omega, rfl, by simp⟩
        · rintro m S h' ⟨rfl, g1, k, g3, hkl, rfl, hinv⟩
          simp only [Sx.cells] at g1
          by_cases hlt : k < kids.length
          · have hd : decide ((k : Int) < (kids.length : Int)) = true := by simp; omega
            have w7 : IntKind.i64.wrap ((k : Int) + 1) = k + 1 := by unfold bigN at hk; rw [wrap64 (by omega) (by omega)]
            obtain ⟨e, hx⟩ : ∃ e, kids[k]? = some e := ⟨_, List.getElem?_eq_getElem hlt⟩
            have hmem := List.mem_of_getElem? hx
            have hc := ih e hmem (hks e hmem)
            rw [drop_of_get hx] at hinv
            simp only [shapedSs] at hinv
            have hr := Sx.rows_get hx
            generalize shapedS e = b at hc hinv
            obtain ⟨ki, va, li, co, te, ks⟩ := e
            simp only [Sx.cells] at hr hc
            cases b with
            | false =>
              rw [hinv] at hF
              simp only [Bool.false_and] at hF
              subst hF
              repeat' (first | (refine a_seq (fun K hK => ?_)) | (refine a_regionS ?_; simp (maxSteps := 2000000) only [Ty.w, simprocAttr, g1, g3, hlen, hd, hr, w7]) | (refine a_skip ?_; (try simp only [pst0, simprocAttr])) | (refine a_cond _ (by (try simp (maxSteps := 2000000) only [Ty.w, simprocAttr, g1, g3, hlen, hd, hr, w7]); rfl) (fun hb => ?_) (fun hb => ?_) <;> (try simp only [hb0, decide_eq_true_eq, decide_eq_false_iff_not, simprocAttr] at hb) <;> (try (exfalso; omega))) | (refine hK _ _ ?_; clear hK; (try simp only [pst0, simprocAttr])))
              refine owp_useQ (hc _) (by (try simp only [Ty.w, simprocAttr, g1, g3, hlen, hd, hr, Bool.not_false]); try rfl) ?_; simp (maxSteps := 2000000) only [Ty.w, simprocAttr, g1, g3, hlen, hd, hr, Bool.not_false]
              repeat' (first | (refine a_seq (fun K hK => ?_)) | ((first | refine a_regionS ?_ | refine a_ret ?_); simp (maxSteps := 2000000) only [Ty.w, simprocAttr, g1, g3, w7, Bool.not_false]) | (refine hK _ _ ?_; clear hK; (try simp only [pst0, simprocAttr])))
            | true =>
              rw [Bool.true_and] at hinv
              repeat' (first | (refine a_seq (fun K hK => ?_)) | (refine a_regionS ?_; simp (maxSteps := 2000000) only [Ty.w, simprocAttr, g1, g3, hlen, hd, hr, w7]) | (refine a_skip ?_; (try simp only [pst0, simprocAttr])) | (refine a_cond _ (by (try simp (maxSteps := 2000000) only [Ty.w, simprocAttr, g1, g3, hlen, hd, hr, w7]); rfl) (fun hb => ?_) (fun hb => ?_) <;> (try simp only [hb0, decide_eq_true_eq, decide_eq_false_iff_not, simprocAttr] at hb) <;> (try (exfalso; omega))) | (refine hK _ _ ?_; clear hK; (try simp only [pst0, simprocAttr])))
              refine owp_useQ (hc _) (by (try simp only [Ty.w, simprocAttr, g1, g3, hlen, hd, hr, Bool.not_true]); try rfl) ?_; simp (maxSteps := 2000000) only [Ty.w, simprocAttr, g1, g3, hlen, hd, hr, Bool.not_true]
              repeat' (first | (refine a_block ?_) | (refine a_regionS ?_; simp (maxSteps := 2000000) only [Ty.w, simprocAttr, g1, g3, w7, Bool.not_true]) | (refine a_skip ?_; (try simp only [pst0, simprocAttr])) | (refine hK _ _ ?_; clear hK; (try simp only [pst0, simprocAttr])))
              exact ⟨kids.length - (k + 1), by omega, rfl, k + 1, by simp, by omega, rfl, hinv⟩
          · have hd : decide ((k : Int) < (kids.length : Int)) = false := by simp; omega
            rw [List.drop_eq_nil_of_le (by omega)] at hinv
            rw [hinv] at hF
            simp only [shapedSs, Bool.true_and] at hF
            cases q1 : (text.data.toList == (#[] : Array UInt8).toList) with
            | false =>
              rw [q1] at hF
              simp only [Bool.false_and] at hF
              subst hF
              repeat' (first | (refine a_seq (fun K hK => ?_)) | ((first | refine a_regionS ?_ | refine a_ret ?_); simp (maxSteps := 2000000) only [Ty.w, simprocAttr, g1, g3, hlen, hd, q1]) | (refine a_exit ?_; (try simp only [pst0, simprocAttr])) | (refine a_cond _ (by (try simp (maxSteps := 2000000) only [Ty.w, simprocAttr, g1, g3, hlen, hd, q1]); rfl) (fun hb => ?_) (fun hb => ?_) <;> (try simp only [hb0, decide_eq_true_eq, decide_eq_false_iff_not, simprocAttr] at hb) <;> (try (exfalso; omega))) | ((first | refine hK _ _ ?_ | (clear hK; refine hK _ _ ?_)); clear hK; (try simp only [pst0, simprocAttr])))
            | true =>
              rw [q1] at hF
              simp only [Bool.true_and] at hF
              subst hF
              repeat' (first | (refine a_seq (fun K hK => ?_)) | ((first | refine a_regionS ?_ | refine a_ret ?_); simp (maxSteps := 2000000) only [Ty.w, simprocAttr, g1, g3, hlen, hd, q1]) | (refine a_exit ?_; (try simp only [pst0, simprocAttr])) | (refine a_cond _ (by (try simp (maxSteps := 2000000) only [Ty.w, simprocAttr, g1, g3, hlen, hd, q1]); rfl) (fun hb => ?_) (fun hb => ?_) <;> (try simp only [hb0, decide_eq_true_eq, decide_eq_false_iff_not, simprocAttr] at hb) <;> (try (exfalso; omega))) | ((first | refine hK _ _ ?_ | (clear hK; refine hK _ _ ?_)); clear hK; (try simp only [pst0, simprocAttr])))
theorem rvalid_c {x : Sx} (hok : x.ok) (hd : x.depth ≤ bigN) (h : Heap) : PCall Try.prog 58 [.agg x.cells] h fun r h' => r = .sc (.bool (shapedS x && decide ((x.depth : Int) ≤ 32) && decide (x.count ≤ 4096))) ∧ h' = h := by
  have c1 := rshaped_c x hok
  have c2 := rdepth_c x hok hd
  have c3 := rcount_c x hok
  generalize shapedS x = b at c1 ⊢
  generalize x.depth = D at c2 ⊢
  generalize x.count = N at c3 ⊢
  obtain ⟨ki, va, li, co, te, ks⟩ := x
  simp only [Sx.cells] at c1 c2 c3 ⊢
  cases b with
  | false =>
    refine pcall_body (ow := fun _ => false) (wf := fun _ => false) Ty.mixed Try.func58 rfl Ty.hb_58 (by rw [Try.ntmps58]; simp) ?_
    rw [Try.ntmps58, Try.results58]
    repeat' (first | (refine a_seq (fun K hK => ?_)) | (refine a_regionS ?_; simp (maxSteps := 2000000) only [Ty.w, simprocAttr]) | (refine hK _ _ ?_; clear hK; (try simp only [pst0, simprocAttr])))
    refine owp_useQ (c1 _) (by (try simp only [Ty.w, simprocAttr, ]); try rfl) ?_; simp (maxSteps := 2000000) only [Ty.w, simprocAttr, ]
    repeat' (first | (refine a_ret ?_; simp (maxSteps := 2000000) only [Ty.w, simprocAttr]) | (refine hK _ _ ?_; clear hK; (try simp only [pst0, simprocAttr])))
    all_goals rfl
  | true =>
    cases q : decide ((D : Int) ≤ 32) with
    | false =>
      refine pcall_body (ow := fun _ => false) (wf := fun _ => false) Ty.mixed Try.func58 rfl Ty.hb_58 (by rw [Try.ntmps58]; simp) ?_
      rw [Try.ntmps58, Try.results58]
      repeat' (first | (refine a_seq (fun K hK => ?_)) | (refine a_regionS ?_; simp (maxSteps := 2000000) only [Ty.w, simprocAttr]) | (refine hK _ _ ?_; clear hK; (try simp only [pst0, simprocAttr])))
      refine owp_useQ (c1 _) (by (try simp only [Ty.w, simprocAttr, ]); try rfl) ?_; simp (maxSteps := 2000000) only [Ty.w, simprocAttr, ]
      skip
      refine owp_useQ (c2 _) (by (try simp only [Ty.w, simprocAttr, q]); try rfl) ?_; simp (maxSteps := 2000000) only [Ty.w, simprocAttr, q]
      repeat' (first | (refine a_ret ?_; simp (maxSteps := 2000000) only [Ty.w, simprocAttr, q]) | (refine hK _ _ ?_; clear hK; (try simp only [pst0, simprocAttr])))
      all_goals rfl
    | true =>
      refine pcall_body (ow := fun _ => false) (wf := fun _ => false) Ty.mixed Try.func58 rfl Ty.hb_58 (by rw [Try.ntmps58]; simp) ?_
      rw [Try.ntmps58, Try.results58]
      repeat' (first | (refine a_seq (fun K hK => ?_)) | (refine a_regionS ?_; simp (maxSteps := 2000000) only [Ty.w, simprocAttr]) | (refine hK _ _ ?_; clear hK; (try simp only [pst0, simprocAttr])))
      refine owp_useQ (c1 _) (by (try simp only [Ty.w, simprocAttr, ]); try rfl) ?_; simp (maxSteps := 2000000) only [Ty.w, simprocAttr, ]
      skip
      refine owp_useQ (c2 _) (by (try simp only [Ty.w, simprocAttr, q]); try rfl) ?_; simp (maxSteps := 2000000) only [Ty.w, simprocAttr, q]
      skip
      refine owp_useQ (c3 _) (by (try simp only [Ty.w, simprocAttr, q]); try rfl) ?_; simp (maxSteps := 2000000) only [Ty.w, simprocAttr, q]
      repeat' (first | (refine a_ret ?_; simp (maxSteps := 2000000) only [Ty.w, simprocAttr, q]) | (refine hK _ _ ?_; clear hK; (try simp only [pst0, simprocAttr])))
      all_goals (simp only [Bool.true_and])
end Go.Proofs.Ytjlkapgpjamnkaa
namespace Go.AM
mutual
def Sx.nodes : Sx → Nat
  | .mk _ _ _ _ _ kids => Sx.nodess kids + 1
def Sx.nodess : List Sx → Nat
  | [] => 0
  | k :: ks => k.nodes + Sx.nodess ks
end
mutual
theorem Sx.count_eq : ∀ (x : Sx), x.nodes ≤ bigN → x.count = x.nodes
  | .mk _ _ _ _ _ kids, h => by
    simp only [Sx.nodes] at h
    simp only [Sx.count, Sx.nodes]
    have := Sx.counts_eq kids 1 (by omega)
    simp only [Int.natCast_one] at this
    rw [this]; congr 1; omega
theorem Sx.counts_eq : ∀ (l : List Sx) (n : Nat), n + Sx.nodess l ≤ bigN → Sx.counts n l = (n + Sx.nodess l : Nat)
  | [], n, h => by simp [Sx.counts, Sx.nodess]
  | k :: ks, n, h => by
    simp only [Sx.nodess] at h
    simp only [Sx.counts, Sx.nodess]
    rw [Sx.count_eq k (by omega)]
    have hw : IntKind.i64.wrap ((n : Int) + (k.nodes : Int)) = ((n + k.nodes : Nat) : Int) := by unfold bigN at h; rw [wrap64 (by omega) (by omega)]; omega
    rw [hw, Sx.counts_eq ks (n + k.nodes) (by omega)]
    congr 1; omega
end
end Go.AM
namespace Go.Proofs.Ytjlkapgpjamnkaa
open Go.AM
theorem lowB_self (c : UInt8) : lowB c = some c ↔ wB c = true := by
  unfold lowB
  cases hu : upB c with
  | true =>
    have h1 : 65 ≤ c.toNat ∧ c.toNat ≤ 90 := by simpa [upB] using hu
    have hw : wB c = false := by
      have h2 : letB c = false := by simp [letB]; omega
      have h3 : digB c = false := by simp [digB]; omega
      have h4 : signs.contains c = false := by
        rw [signs_c]
        have : ∀ v : Int, v = 45 ∨ v = 95 ∨ v = 63 ∨ v = 58 ∨ v = 60 ∨ v = 62 ∨ v = 61 ∨ v = 43 ∨ v = 42 → ((c.toNat : Int) == v) = false := by
          intro v hv
          rw [beq_eq_false_iff_ne]
          omega
        simp [this]
      simp only [wB, h2, h3, h4, Bool.or_false]
    rw [hw]
    simp only [if_true, Option.some.injEq, Bool.false_eq_true, iff_false]
    intro e
    have := congrArg UInt8.toNat e
    rw [UInt8.toNat_add] at this
    simp at this
    omega
  | false =>
    simp only [Bool.false_eq_true, if_false]
    cases wB c <;> simp
theorem lowL_self : ∀ l : List UInt8, lowL l = some l ↔ l.all wB = true
  | [] => by simp [lowL]
  | c :: l => by
    have h1 := lowB_self c
    have h2 := lowL_self l
    simp only [lowL, List.all_cons, Bool.and_eq_true]
    cases hc : lowB c with
    | none => rw [hc] at h1; simp at h1 ⊢; intro hw; rw [h1] at hw; simp at hw
    | some d =>
      rw [hc] at h1
      cases hl : lowL l with
      | none => rw [hl] at h2; simp at h2 ⊢; intro _; simpa using h2
      | some p =>
        rw [hl] at h2
        simp only [Option.map_some, Option.some.injEq, List.cons.injEq]
        rw [← h1, ← h2]
        simp
theorem word_same (s : ByteArray) : wordB s = wordR s := by
  have hsl : s.data.toList.length = s.size := by rw [Array.length_toList]; try rfl
  have hself := lowL_self s.data.toList
  unfold wordB wordR lowS
  by_cases hc : 0 < s.size ∧ s.size ≤ 32
  · rw [if_pos hc]
    have d1 : decide (1 ≤ s.size) = true := by simp; omega
    have d2 : decide (s.size ≤ 32) = true := by simp; omega
    rw [d1, d2]
    cases hl : lowL s.data.toList with
    | none =>
      rw [hl] at hself
      have : s.data.toList.all wB = false := by
        cases h : s.data.toList.all wB with
        | false => rfl
        | true => rw [h] at hself; simp at hself
      simp only [this, Bool.false_and]
    | some p =>
      rw [hl] at hself
      cases h : s.data.toList.all wB with
      | true =>
        rw [h] at hself
        have hp : p = s.data.toList := by simpa using hself
        subst hp
        have : (⟨s.data.toList.toArray⟩ : ByteArray) = s := ba_ext rfl
        simp only [this, bEq, beq_self_eq_true, Bool.true_and]
      | false =>
        rw [h] at hself
        have hp : ¬ p = s.data.toList := by simpa using hself
        have : bEq (⟨p.toArray⟩ : ByteArray) s = false := by simp only [bEq, beq_eq_false_iff_ne]; exact hp
        simp only [this, Bool.and_false, Bool.false_and]
  · rw [if_neg hc]
    have : (decide (1 ≤ s.size) && decide (s.size ≤ 32)) = false := by
      cases h : (decide (1 ≤ s.size) && decide (s.size ≤ 32)) with
      | false => rfl
      | true =>
        simp only [Bool.and_eq_true, decide_eq_true_eq] at h
        exact absurd ⟨by omega, h.2⟩ hc
    simp only [Bool.false_and]
    rw [Bool.and_assoc (s.data.toList.all wB), this]; simp
mutual
theorem svalid_iff : ∀ (x : Sx) (d n : Nat), d ≤ 32 → n ≤ 4096 → ((svalid x d n).1 = true ↔ shapedS x = true ∧ d + x.depth ≤ 32 ∧ n + x.nodes ≤ 4096) ∧ ((svalid x d n).1 = true → (svalid x d n).2 = n + x.nodes)
  | .mk kind value line col text kids, d, n, hd, hn => by
    have e1 : (kids.isEmpty = true) ↔ kids = [] := List.isEmpty_iff
    unfold svalid shapedS
    simp only [Sx.depth, Sx.nodes]
    by_cases h0 : n + 1 > 4096
    · rw [if_pos h0]
      refine ⟨⟨by simp, fun ⟨_, _, h⟩ => by omega⟩, by simp⟩
    · rw [if_neg h0]
      by_cases k1 : kind = 1
      · rw [if_pos k1, if_pos k1, word_same]
        have k3 : ¬ kind = 3 := by omega
        rw [if_neg k3]
        simp only [Bool.and_eq_true, e1, decide_eq_true_eq, beq_iff_eq]
        constructor
        · constructor
          · rintro ⟨⟨h1, h2⟩, rfl⟩
            exact ⟨⟨⟨h2, rfl⟩, h1⟩, by simp only [Sx.depths]; omega, by simp only [Sx.nodess]; omega⟩
          · rintro ⟨⟨⟨h1, h2⟩, h3⟩, _⟩
            exact ⟨⟨h3, h1⟩, h2⟩
        · rintro ⟨_, rfl⟩; simp [Sx.nodess]
      · rw [if_neg k1, if_neg k1]
        by_cases k2 : kind = 2
        · rw [if_pos k2, if_pos k2]
          have k3 : ¬ kind = 3 := by omega
          rw [if_neg k3]
          simp only [Bool.and_eq_true, e1, decide_eq_true_eq, bEq, ge_iff_le]
          constructor
          · constructor
            · rintro ⟨⟨⟨h1, rfl⟩, h3⟩, h4⟩
              exact ⟨⟨⟨⟨h1, rfl⟩, h3⟩, h4⟩, by simp only [Sx.depths]; omega, by simp only [Sx.nodess]; omega⟩
            · rintro ⟨⟨⟨⟨h1, h2⟩, h3⟩, h4⟩, _⟩
              exact ⟨⟨⟨h1, h2⟩, h3⟩, h4⟩
          · rintro ⟨⟨⟨_, rfl⟩, _⟩, _⟩; simp [Sx.nodess]
        · rw [if_neg k2, if_neg k2]
          by_cases k3 : kind = 3
          · rw [if_pos k3, if_pos k3, if_pos k3]
            simp only [Bool.and_eq_true, beq_iff_eq]
            by_cases hc : bEq text ⟨#[]⟩ = true ∧ value = 0 ∧ d ≠ 32
            · rw [if_pos hc]
              obtain ⟨g1, g2⟩ := svalids_iff kids (d + 1) (n + 1) (by omega) (by omega)
              rw [g1]
              refine ⟨⟨fun ⟨h1, h2, h3⟩ => ⟨⟨h1, by simpa [bEq] using hc.1, hc.2.1⟩, by omega, by omega⟩, fun ⟨⟨h1, _, _⟩, h2, h3⟩ => ⟨h1, by omega, by omega⟩⟩, fun h => ?_⟩
              rw [g2 (g1.2 h)]; omega
            · rw [if_neg hc]
              refine ⟨⟨by simp, fun ⟨⟨h1, h4, h5⟩, h2, h3⟩ => ?_⟩, by simp⟩
              exact absurd ⟨by simp only [bEq, beq_iff_eq]; exact h4, h5, by omega⟩ hc
          · rw [if_neg k3, if_neg k3]
            simp
theorem svalids_iff : ∀ (l : List Sx) (d n : Nat), d ≤ 32 → n ≤ 4096 → ((svalids l d n).1 = true ↔ shapedSs l = true ∧ d + Sx.depths 0 l ≤ 32 ∧ n + Sx.nodess l ≤ 4096) ∧ ((svalids l d n).1 = true → (svalids l d n).2 = n + Sx.nodess l)
  | [], d, n, hd, hn => by simp [svalids, shapedSs, Sx.depths, Sx.nodess, hd, hn]
  | k :: ks, d, n, hd, hn => by
    obtain ⟨g1, g2⟩ := svalid_iff k d n hd hn
    have hdm : ∀ (m : Nat) (l : List Sx), Sx.depths m l = max m (Sx.depths 0 l) := by
      intro m l
      induction l generalizing m with
      | nil => simp [Sx.depths]
      | cons k l ih => simp only [Sx.depths]; rw [ih (max m k.depth), ih (max 0 k.depth)]; omega
    simp only [svalids, shapedSs, Sx.depths, Sx.nodess, Bool.and_eq_true]
    rw [hdm]
    cases hb : svalid k d n with
    | mk b n' =>
      rw [hb] at g1 g2
      cases b with
      | false =>
        simp only at g1 ⊢
        refine ⟨⟨by simp, fun ⟨⟨h1, _⟩, h2, h3⟩ => ?_⟩, by simp⟩
        exact absurd (g1.2 ⟨h1, by omega, by omega⟩) (by simp)
      | true =>
        simp only at g1 g2 ⊢
        obtain ⟨a1, a2, a3⟩ := g1.1 trivial
        have e := g2 trivial
        obtain ⟨f1, f2⟩ := svalids_iff ks d n' hd (by omega)
        rw [f1]
        refine ⟨⟨fun ⟨h1, h2, h3⟩ => ⟨⟨a1, h1⟩, by omega, by omega⟩, fun ⟨⟨_, h1⟩, h2, h3⟩ => ⟨h1, by omega, by omega⟩⟩, fun h => ?_⟩
        rw [f2 (f1.2 h)]; omega
end
/-- the reference's answer -/
def rvalidB (x : Sx) : Bool := shapedS x && decide ((x.depth : Int) ≤ 32) && decide (x.count ≤ 4096)
theorem valid_same {x : Sx} (h : x.nodes ≤ bigN) : (svalid x 0 0).1 = rvalidB x := by
  have h1 := (svalid_iff x 0 0 (by omega) (by omega)).1
  unfold rvalidB
  rw [Sx.count_eq x h]
  rw [Bool.eq_iff_iff, h1]
  simp only [Bool.and_eq_true, decide_eq_true_eq]
  constructor
  · rintro ⟨a, b, c⟩; exact ⟨⟨a, by omega⟩, by omega⟩
  · rintro ⟨⟨a, b⟩, c⟩; exact ⟨a, by omega, by omega⟩
end Go.Proofs.Ytjlkapgpjamnkaa
namespace Go.AM
mutual
theorem Sx.small_of : ∀ (x : Sx), x.nodes ≤ 1048576 → x.small
  | .mk _ _ _ _ _ kids, h => by
    simp only [Sx.nodes] at h
    simp only [Sx.small]
    have := Sx.smalls_of kids (by omega)
    exact ⟨by omega, this.2⟩
theorem Sx.smalls_of : ∀ (l : List Sx), Sx.nodess l ≤ 1048576 → l.length ≤ Sx.nodess l ∧ Sx.smalls l
  | [], _ => by simp [Sx.nodess, Sx.smalls]
  | k :: ks, h => by
    simp only [Sx.nodess] at h
    have h1 := Sx.small_of k (by omega)
    have h2 := Sx.smalls_of ks (by omega)
    have h3 : 1 ≤ k.nodes := by cases k; simp only [Sx.nodes]; omega
    simp only [Sx.nodess, Sx.smalls, List.length_cons]
    exact ⟨by omega, h1, h2.2⟩
end
end Go.AM
namespace Go.Proofs.Ytjlkapgpjamnkaa
open Go.AM
theorem svalid_small {x : Sx} (h : (svalid x 0 0).1 = true) : x.small := by
  have := (svalid_iff x 0 0 (by omega) (by omega)).1.1 h
  exact Sx.small_of x (by omega)
theorem termsM_ok : ∀ {l : List Sx}, (∀ x ∈ l, x.ok) → (∀ s ∈ (termsM l).1, s.size ≤ bigN) ∧ (termsM l).1.length ≤ l.length
  | [], _ => by simp [termsM]
  | x :: l, h => by
    have h1 := termsM_ok (l := l) fun y hy => h y (by simp [hy])
    have h2 : (textOf x).size ≤ bigN := by
      have := h x (by simp)
      obtain ⟨_, _, _, _, t, _⟩ := x
      simp only [Sx.ok] at this
      exact this.2.2.1
    simp only [termsM]
    cases kindOf x == 1 with
    | false => simp
    | true =>
      cases termB (textOf x) with
      | false => simp
      | true =>
        simp only [cond_true]
        cases hq : (termsM l).2 == 0 with
        | false => simp
        | true =>
          simp only [cond_true, List.mem_cons, List.length_cons]
          exact ⟨fun s hs => hs.elim (fun e => by rw [e]; exact h2) (h1.1 s), by omega⟩
theorem zeroEx_ok : zeroEx.ok ∧ zeroEx.small := by
  simp only [zeroEx, Ex.ok, Ex.oks, Ex.small, Ex.smalls, List.length_nil]
  refine ⟨⟨by simp [bigN, ByteArray.size], by simp [bigN, ByteArray.size], by omega, ⟨by simp, by simp⟩, by simp, trivial⟩, by omega, trivial⟩
theorem exprP_ok : ∀ x : Sx, x.ok → x.small → (exprP x).1.ok ∧ (exprP x).1.small := by
  refine Sx.ind ?_
  intro kind value line col text kids ih hok hsm
  have hok' := hok
  simp only [Sx.ok] at hok'
  obtain ⟨hq1, hv, hq3, hq4, hks⟩ := hok'
  rw [Sx.oks_iff] at hks
  simp only [Sx.small] at hsm
  obtain ⟨hl, hss⟩ := hsm
  rw [Sx.smalls_iff] at hss
  rw [exprP_head]
  have kk : kindOf (.mk kind value line col text kids) = kind := rfl
  rw [kk]
  cases hk : kind == 2 with
  | true =>
    simp only [cond_true, Ex.ok, Ex.oks, Ex.small, Ex.smalls, List.length_nil]
    exact ⟨⟨by simp [opNum, bigN, ByteArray.size], by simp [bigN, ByteArray.size], hv, ⟨by simp, by simp⟩, by simp, trivial⟩, by omega, trivial⟩
  | false =>
    simp only [cond_false]
    cases hM : headM (.mk kind value line col text kids) with
    | none => exact zeroEx_ok
    | some wr =>
      obtain ⟨w, rest⟩ := wr
      obtain ⟨hw, hr⟩ := headM_ok hok hM
      obtain ⟨y, rfl⟩ := headM_rest hM
      simp only
      cases hp : isPm w with
      | true =>
        simp only [cond_true]
        split
        · rename_i a b
          have ha := ih a (by simp) (hks a (by simp)) (hss a (by simp))
          have hb := ih b (by simp) (hks b (by simp)) (hss b (by simp))
          cases q1 : (exprP a).2 == 0 with
          | false => exact zeroEx_ok
          | true =>
            cases q2 : (exprP b).2 == 0 with
            | false => exact zeroEx_ok
            | true =>
              simp only [cond_true, Ex.ok, Ex.oks, Ex.small, Ex.smalls, List.length_nil, List.length_cons]
              exact ⟨⟨hw, by simp [bigN, ByteArray.size], by omega, ⟨by simp, by simp⟩, by simp [bigN], ha.1, hb.1, trivial⟩, by omega, ha.2, hb.2, trivial⟩
        · exact zeroEx_ok
      | false =>
        simp only [cond_false]
        cases nameB w with
        | false => exact zeroEx_ok
        | true =>
          have ht := termsM_ok hr
          simp only [cond_true]
          cases q1 : (termsM rest).2 == 0 with
          | false => exact zeroEx_ok
          | true =>
            simp at hl
            simp only [cond_true, Ex.ok, Ex.oks, Ex.small, Ex.smalls, List.length_nil]
            exact ⟨⟨by simp [opFlu, bigN, ByteArray.size], hw, by omega, ⟨by have := ht.2; unfold bigN; omega, ht.1⟩, by simp, trivial⟩, by have := ht.2; omega, trivial⟩
end Go.Proofs.Ytjlkapgpjamnkaa
namespace Go.Proofs.Ytjlkapgpjamnkaa
open Go.AM
set_option maxHeartbeats 4000000
set_option maxRecDepth 20000
/-- what ParseExpr gives: the expression and 0, or an error's number -/
def parseE (x : Sx) : Ex × Int := if (svalid x 0 0).1 = true then (if (exprP x).2 = 0 then (if validE (exprP x).1 = true then ((exprP x).1, 0) else (zeroEx, 5)) else (zeroEx, (exprP x).2)) else (zeroEx, 2)
theorem parseE_exW {e : Ex} (hv : validE e = true) (hs : shapedE e = true) : parseE (exW e) = (e, 0) := by
  have h1 := exprP_exW e hs
  have h2 : (svalid (exW e) 0 0).1 = true := by unfold validE at hv; simp only [Bool.and_eq_true] at hv; exact hv.2
  unfold parseE
  rw [if_pos h2, h1]
  simp only [if_pos, hv]
theorem ParseExpr_c {x : Sx} (hok : x.ok) (h : Heap) : PCall Try.prog 36 [.agg x.cells] h fun r h' => r = .tup [.agg (parseE x).1.cells, errP (parseE x).2] ∧ h' = h := by
  refine PCall.frz Ty.hb_36 ?_
  have hv := fun h : Heap => svalid_c hok h
  have hX : parseE x = (if (svalid x 0 0).1 = true then (if (exprP x).2 = 0 then (if validE (exprP x).1 = true then ((exprP x).1, 0) else (zeroEx, 5)) else (zeroEx, (exprP x).2)) else (zeroEx, 2)) := rfl
  generalize parseE x = F at hX
  have bad : ∀ (c : Int) (h' : Heap), (c == 0) = false → Grow h h' → F = (zeroEx, c) → FrzTo h.next h' (.tup [.agg F.1.cells, errP F.2]) (.tup [.agg [.sc (.string ⟨#[]⟩), .sc (.string ⟨#[]⟩), .sc (.int .i64 0), .sc (.slice none 0 0), .sc (.slice none 0 0)], errV c]) ∧ Grow h h' := by
    intro c h' hc hg hF
    subst hF
    have : errP c = errV c := by simp only [errP, hc, cond_false]
    simp only [this]
    refine ⟨?_, hg⟩
    simp only [errV, zeroEx, Ex.cells, Ex.rows, strRows, List.map_nil, FrzTo, FrzL]
    exact ⟨_, rfl, ⟨_, rfl, rfl, rfl, rfl, .inr (.inl ⟨rfl, .inr rfl⟩), .inr (.inl ⟨rfl, .inr rfl⟩), trivial⟩, rfl, trivial⟩
  simp only [errV] at bad
  have hg1 : ∀ r, Grow h ((h.new (.arr 5 [[.sc (.string ⟨#[]⟩), .sc (.string ⟨#[]⟩), .sc (.int .i64 0), .sc (.slice none 0 0), .sc (.slice none 0 0)]])).set h.next r) := fun r => ((Grow.refl h).new _).set (Nat.le_refl _) _
  have hg2 : ∀ o1 o2 r, Grow h ((((h.new (.arr 5 [[.sc (.string ⟨#[]⟩), .sc (.string ⟨#[]⟩), .sc (.int .i64 0), .sc (.slice none 0 0), .sc (.slice none 0 0)]])).new o1).set (h.next + 1) o2).set h.next r) := fun o1 o2 r => ((((Grow.refl h).new _).new _).set (Nat.le_succ _) _).set (Nat.le_refl _) _
  have n1 : (h.next = h.next + 1) = False := by simp
  cases v1 : (svalid x 0 0).1 with
  | false =>
    rw [v1] at hv
    rw [if_neg (by rw [v1]; simp)] at hX
    obtain ⟨kind, value, line, col, text, kids⟩ := x
    simp only [Sx.cells] at hv ⊢
    refine pcall_body (ow := fun _ => false) (wf := fun _ => false) Ty.mixed Try.func36 rfl Ty.hb_36 (by rw [Try.ntmps36]; simp) ?_
    rw [Try.ntmps36, Try.results36]
    repeat' (first | (refine a_seq (fun K hK => ?_)) | (refine a_block ?_) | ((first | refine a_regionS ?_ | refine a_region (fun K hK => ?_) | refine a_ret ?_); simp (maxSteps := 2000000) only [Ty.w, simprocAttr]) | ((first | refine a_skip ?_ | refine a_exit ?_); (try simp only [pst0, simprocAttr])) | (refine a_cond _ (by (try simp (maxSteps := 2000000) only [Ty.w, simprocAttr]); rfl) (fun hb => ?_) (fun hb => ?_) <;> (try simp only [hb0, decide_eq_true_eq, decide_eq_false_iff_not, simprocAttr] at hb) <;> (try (exfalso; omega))) | (with_reducible refine ite_in (fun hb => ?_) (fun hb => ?_) <;> (try simp only [Decidable.not_not] at hb) <;> (try simp only [hb, if_true, if_false, not_false_eq_true, not_true_eq_false, ↓reduceIte]) <;> (try simp only [hb0, decide_eq_true_eq, decide_eq_false_iff_not, simprocAttr] at hb) <;> (try (exfalso; omega))) | ((first | refine hK _ _ ?_ | (clear hK; refine hK _ _ ?_) | (clear hK; clear hK; refine hK _ _ ?_) | (clear hK; clear hK; clear hK; refine hK _ _ ?_)); clear hK; (try simp only [pst0, simprocAttr])) | (rw [if_pos]; rotate_left 1; omega; simp (maxSteps := 2000000) only [Ty.w, simprocAttr]))
    refine owp_useQ (hv _) (by (try simp only [Ty.w, simprocAttr, ]); try rfl) ?_; simp (maxSteps := 2000000) only [Ty.w, simprocAttr, ]
    repeat' (first | (refine a_seq (fun K hK => ?_)) | (refine a_block ?_) | ((first | refine a_regionS ?_ | refine a_region (fun K hK => ?_) | refine a_ret ?_); simp (maxSteps := 2000000) only [Ty.w, simprocAttr, Bool.not_false]) | ((first | refine a_skip ?_ | refine a_exit ?_); (try simp only [pst0, simprocAttr])) | (refine a_cond _ (by (try simp (maxSteps := 2000000) only [Ty.w, simprocAttr, Bool.not_false]); rfl) (fun hb => ?_) (fun hb => ?_) <;> (try simp only [hb0, decide_eq_true_eq, decide_eq_false_iff_not, simprocAttr] at hb) <;> (try (exfalso; omega))) | (with_reducible refine ite_in (fun hb => ?_) (fun hb => ?_) <;> (try simp only [Decidable.not_not] at hb) <;> (try simp only [hb, if_true, if_false, not_false_eq_true, not_true_eq_false, ↓reduceIte]) <;> (try simp only [hb0, decide_eq_true_eq, decide_eq_false_iff_not, simprocAttr] at hb) <;> (try (exfalso; omega))) | ((first | refine hK _ _ ?_ | (clear hK; refine hK _ _ ?_) | (clear hK; clear hK; refine hK _ _ ?_) | (clear hK; clear hK; clear hK; refine hK _ _ ?_)); clear hK; (try simp only [pst0, simprocAttr])) | (rw [if_pos]; rotate_left 1; omega; simp (maxSteps := 2000000) only [Ty.w, simprocAttr, Bool.not_false]))
    exact bad 2 _ rfl (hg1 _) hX
  | true =>
    have hsm := svalid_small v1
    have hp := expr_c x hok hsm
    have hfo := exprP_ok x hok hsm
    rw [v1] at hv
    rw [if_pos v1] at hX
    have hfz := fun n hh => ex_frz n hh (exprP x).1
    generalize exprP x = E at hp hfo hX hfz
    obtain ⟨f, c⟩ := E
    simp only at hp hfo hX hfz
    obtain ⟨kind, value, line, col, text, kids⟩ := x
    simp only [Sx.cells] at hv hp ⊢
    cases hc : c == 0 with
    | false =>
      rw [if_neg (by simpa using hc)] at hX
      have e0 : errP c = errV c := by simp only [errP, hc, cond_false]
      rw [e0] at hp
      simp only [errV] at hp
      obtain ⟨fop, fna, fnn, far, fki⟩ := f
      simp only [Ex.cells] at hp
      refine pcall_body (ow := fun _ => false) (wf := fun _ => false) Ty.mixed Try.func36 rfl Ty.hb_36 (by rw [Try.ntmps36]; simp) ?_
      rw [Try.ntmps36, Try.results36]
      repeat' (first | (refine a_seq (fun K hK => ?_)) | (refine a_block ?_) | ((first | refine a_regionS ?_ | refine a_region (fun K hK => ?_) | refine a_ret ?_); simp (maxSteps := 2000000) only [Ty.w, simprocAttr]) | ((first | refine a_skip ?_ | refine a_exit ?_); (try simp only [pst0, simprocAttr])) | (refine a_cond _ (by (try simp (maxSteps := 2000000) only [Ty.w, simprocAttr]); rfl) (fun hb => ?_) (fun hb => ?_) <;> (try simp only [hb0, decide_eq_true_eq, decide_eq_false_iff_not, simprocAttr] at hb) <;> (try (exfalso; omega))) | (with_reducible refine ite_in (fun hb => ?_) (fun hb => ?_) <;> (try simp only [Decidable.not_not] at hb) <;> (try simp only [hb, if_true, if_false, not_false_eq_true, not_true_eq_false, ↓reduceIte]) <;> (try simp only [hb0, decide_eq_true_eq, decide_eq_false_iff_not, simprocAttr] at hb) <;> (try (exfalso; omega))) | ((first | refine hK _ _ ?_ | (clear hK; refine hK _ _ ?_) | (clear hK; clear hK; refine hK _ _ ?_) | (clear hK; clear hK; clear hK; refine hK _ _ ?_)); clear hK; (try simp only [pst0, simprocAttr])) | (rw [if_pos]; rotate_left 1; omega; simp (maxSteps := 2000000) only [Ty.w, simprocAttr]))
      refine owp_useQ (hv _) (by (try simp only [Ty.w, simprocAttr, ]); try rfl) ?_; simp (maxSteps := 2000000) only [Ty.w, simprocAttr, ]
      repeat' (first | (refine a_seq (fun K hK => ?_)) | (refine a_block ?_) | ((first | refine a_regionS ?_ | refine a_region (fun K hK => ?_) | refine a_ret ?_); simp (maxSteps := 2000000) only [Ty.w, simprocAttr, Bool.not_true]) | ((first | refine a_skip ?_ | refine a_exit ?_); (try simp only [pst0, simprocAttr])) | (refine a_cond _ (by (try simp (maxSteps := 2000000) only [Ty.w, simprocAttr, Bool.not_true]); rfl) (fun hb => ?_) (fun hb => ?_) <;> (try simp only [hb0, decide_eq_true_eq, decide_eq_false_iff_not, simprocAttr] at hb) <;> (try (exfalso; omega))) | (with_reducible refine ite_in (fun hb => ?_) (fun hb => ?_) <;> (try simp only [Decidable.not_not] at hb) <;> (try simp only [hb, if_true, if_false, not_false_eq_true, not_true_eq_false, ↓reduceIte]) <;> (try simp only [hb0, decide_eq_true_eq, decide_eq_false_iff_not, simprocAttr] at hb) <;> (try (exfalso; omega))) | ((first | refine hK _ _ ?_ | (clear hK; refine hK _ _ ?_) | (clear hK; clear hK; refine hK _ _ ?_) | (clear hK; clear hK; clear hK; refine hK _ _ ?_)); clear hK; (try simp only [pst0, simprocAttr])) | (rw [if_pos]; rotate_left 1; omega; simp (maxSteps := 2000000) only [Ty.w, simprocAttr, Bool.not_true]))
      refine owp_useQ (hp _) (by (try simp only [Ty.w, simprocAttr, ]); try rfl) ?_; simp (maxSteps := 2000000) only [Ty.w, simprocAttr, ]
      repeat' (first | (refine a_seq (fun K hK => ?_)) | (refine a_block ?_) | ((first | refine a_regionS ?_ | refine a_region (fun K hK => ?_) | refine a_ret ?_); simp (maxSteps := 2000000) only [Ty.w, simprocAttr, n1, nsucc]) | ((first | refine a_skip ?_ | refine a_exit ?_); (try simp only [pst0, simprocAttr])) | (refine a_cond _ (by (try simp (maxSteps := 2000000) only [Ty.w, simprocAttr, n1, nsucc]); rfl) (fun hb => ?_) (fun hb => ?_) <;> (try simp only [hb0, decide_eq_true_eq, decide_eq_false_iff_not, simprocAttr] at hb) <;> (try (exfalso; omega))) | (with_reducible refine ite_in (fun hb => ?_) (fun hb => ?_) <;> (try simp only [Decidable.not_not] at hb) <;> (try simp only [hb, if_true, if_false, not_false_eq_true, not_true_eq_false, ↓reduceIte]) <;> (try simp only [hb0, decide_eq_true_eq, decide_eq_false_iff_not, simprocAttr] at hb) <;> (try (exfalso; omega))) | ((first | refine hK _ _ ?_ | (clear hK; refine hK _ _ ?_) | (clear hK; clear hK; refine hK _ _ ?_) | (clear hK; clear hK; clear hK; refine hK _ _ ?_)); clear hK; (try simp only [pst0, simprocAttr])) | (rw [if_pos]; rotate_left 1; omega; simp (maxSteps := 2000000) only [Ty.w, simprocAttr, n1, nsucc]))
      exact bad c _ hc (hg2 _ _ _) hX
    | true =>
      rw [if_pos (by simpa using hc)] at hX
      have e0 : errP c = .sc .nilIface := by simp only [errP, hc, cond_true]
      rw [e0] at hp
      have hV := fun h : Heap => validE_c hfo.1 hfo.2 h
      cases v2 : validE f with
      | false =>
        rw [v2] at hV
        rw [if_neg (by rw [v2]; simp)] at hX
        obtain ⟨fop, fna, fnn, far, fki⟩ := f
        simp only [Ex.cells] at hp hV
        refine pcall_body (ow := fun _ => false) (wf := fun _ => false) Ty.mixed Try.func36 rfl Ty.hb_36 (by rw [Try.ntmps36]; simp) ?_
        rw [Try.ntmps36, Try.results36]
        repeat' (first | (refine a_seq (fun K hK => ?_)) | (refine a_block ?_) | ((first | refine a_regionS ?_ | refine a_region (fun K hK => ?_) | refine a_ret ?_); simp (maxSteps := 2000000) only [Ty.w, simprocAttr]) | ((first | refine a_skip ?_ | refine a_exit ?_); (try simp only [pst0, simprocAttr])) | (refine a_cond _ (by (try simp (maxSteps := 2000000) only [Ty.w, simprocAttr]); rfl) (fun hb => ?_) (fun hb => ?_) <;> (try simp only [hb0, decide_eq_true_eq, decide_eq_false_iff_not, simprocAttr] at hb) <;> (try (exfalso; omega))) | (with_reducible refine ite_in (fun hb => ?_) (fun hb => ?_) <;> (try simp only [Decidable.not_not] at hb) <;> (try simp only [hb, if_true, if_false, not_false_eq_true, not_true_eq_false, ↓reduceIte]) <;> (try simp only [hb0, decide_eq_true_eq, decide_eq_false_iff_not, simprocAttr] at hb) <;> (try (exfalso; omega))) | ((first | refine hK _ _ ?_ | (clear hK; refine hK _ _ ?_) | (clear hK; clear hK; refine hK _ _ ?_) | (clear hK; clear hK; clear hK; refine hK _ _ ?_)); clear hK; (try simp only [pst0, simprocAttr])) | (rw [if_pos]; rotate_left 1; omega; simp (maxSteps := 2000000) only [Ty.w, simprocAttr]))
        refine owp_useQ (hv _) (by (try simp only [Ty.w, simprocAttr, ]); try rfl) ?_; simp (maxSteps := 2000000) only [Ty.w, simprocAttr, ]
        repeat' (first | (refine a_seq (fun K hK => ?_)) | (refine a_block ?_) | ((first | refine a_regionS ?_ | refine a_region (fun K hK => ?_) | refine a_ret ?_); simp (maxSteps := 2000000) only [Ty.w, simprocAttr, Bool.not_true]) | ((first | refine a_skip ?_ | refine a_exit ?_); (try simp only [pst0, simprocAttr])) | (refine a_cond _ (by (try simp (maxSteps := 2000000) only [Ty.w, simprocAttr, Bool.not_true]); rfl) (fun hb => ?_) (fun hb => ?_) <;> (try simp only [hb0, decide_eq_true_eq, decide_eq_false_iff_not, simprocAttr] at hb) <;> (try (exfalso; omega))) | (with_reducible refine ite_in (fun hb => ?_) (fun hb => ?_) <;> (try simp only [Decidable.not_not] at hb) <;> (try simp only [hb, if_true, if_false, not_false_eq_true, not_true_eq_false, ↓reduceIte]) <;> (try simp only [hb0, decide_eq_true_eq, decide_eq_false_iff_not, simprocAttr] at hb) <;> (try (exfalso; omega))) | ((first | refine hK _ _ ?_ | (clear hK; refine hK _ _ ?_) | (clear hK; clear hK; refine hK _ _ ?_) | (clear hK; clear hK; clear hK; refine hK _ _ ?_)); clear hK; (try simp only [pst0, simprocAttr])) | (rw [if_pos]; rotate_left 1; omega; simp (maxSteps := 2000000) only [Ty.w, simprocAttr, Bool.not_true]))
        refine owp_useQ (hp _) (by (try simp only [Ty.w, simprocAttr, ]); try rfl) ?_; simp (maxSteps := 2000000) only [Ty.w, simprocAttr, ]
        repeat' (first | (refine a_seq (fun K hK => ?_)) | (refine a_block ?_) | ((first | refine a_regionS ?_ | refine a_region (fun K hK => ?_) | refine a_ret ?_); simp (maxSteps := 2000000) only [Ty.w, simprocAttr, n1, nsucc]) | ((first | refine a_skip ?_ | refine a_exit ?_); (try simp only [pst0, simprocAttr])) | (refine a_cond _ (by (try simp (maxSteps := 2000000) only [Ty.w, simprocAttr, n1, nsucc]); rfl) (fun hb => ?_) (fun hb => ?_) <;> (try simp only [hb0, decide_eq_true_eq, decide_eq_false_iff_not, simprocAttr] at hb) <;> (try (exfalso; omega))) | (with_reducible refine ite_in (fun hb => ?_) (fun hb => ?_) <;> (try simp only [Decidable.not_not] at hb) <;> (try simp only [hb, if_true, if_false, not_false_eq_true, not_true_eq_false, ↓reduceIte]) <;> (try simp only [hb0, decide_eq_true_eq, decide_eq_false_iff_not, simprocAttr] at hb) <;> (try (exfalso; omega))) | ((first | refine hK _ _ ?_ | (clear hK; refine hK _ _ ?_) | (clear hK; clear hK; refine hK _ _ ?_) | (clear hK; clear hK; clear hK; refine hK _ _ ?_)); clear hK; (try simp only [pst0, simprocAttr])) | (rw [if_pos]; rotate_left 1; omega; simp (maxSteps := 2000000) only [Ty.w, simprocAttr, n1, nsucc]))
        refine owp_useQ (hV _) (by (try simp only [Ty.w, simprocAttr, n1, nsucc]); try rfl) ?_; simp (maxSteps := 2000000) only [Ty.w, simprocAttr, n1, nsucc]
        repeat' (first | (refine a_seq (fun K hK => ?_)) | (refine a_block ?_) | ((first | refine a_regionS ?_ | refine a_region (fun K hK => ?_) | refine a_ret ?_); simp (maxSteps := 2000000) only [Ty.w, simprocAttr, n1, nsucc, Bool.not_false]) | ((first | refine a_skip ?_ | refine a_exit ?_); (try simp only [pst0, simprocAttr])) | (refine a_cond _ (by (try simp (maxSteps := 2000000) only [Ty.w, simprocAttr, n1, nsucc, Bool.not_false]); rfl) (fun hb => ?_) (fun hb => ?_) <;> (try simp only [hb0, decide_eq_true_eq, decide_eq_false_iff_not, simprocAttr] at hb) <;> (try (exfalso; omega))) | (with_reducible refine ite_in (fun hb => ?_) (fun hb => ?_) <;> (try simp only [Decidable.not_not] at hb) <;> (try simp only [hb, if_true, if_false, not_false_eq_true, not_true_eq_false, ↓reduceIte]) <;> (try simp only [hb0, decide_eq_true_eq, decide_eq_false_iff_not, simprocAttr] at hb) <;> (try (exfalso; omega))) | ((first | refine hK _ _ ?_ | (clear hK; refine hK _ _ ?_) | (clear hK; clear hK; refine hK _ _ ?_) | (clear hK; clear hK; clear hK; refine hK _ _ ?_)); clear hK; (try simp only [pst0, simprocAttr])) | (rw [if_pos]; rotate_left 1; omega; simp (maxSteps := 2000000) only [Ty.w, simprocAttr, n1, nsucc, Bool.not_false]))
        exact bad 5 _ rfl (hg2 _ _ _) hX
      | true =>
        rw [v2] at hV
        rw [if_pos v2] at hX
        subst hX
        obtain ⟨fop, fna, fnn, far, fki⟩ := f
        simp only [Ex.cells] at hp hV hfz
        have e2 : errP 0 = .sc .nilIface := rfl
        simp only [e2, Ex.cells]
        refine pcall_body (ow := fun _ => false) (wf := fun _ => false) Ty.mixed Try.func36 rfl Ty.hb_36 (by rw [Try.ntmps36]; simp) ?_
        rw [Try.ntmps36, Try.results36]
        repeat' (first | (refine a_seq (fun K hK => ?_)) | (refine a_block ?_) | ((first | refine a_regionS ?_ | refine a_region (fun K hK => ?_) | refine a_ret ?_); simp (maxSteps := 2000000) only [Ty.w, simprocAttr]) | ((first | refine a_skip ?_ | refine a_exit ?_); (try simp only [pst0, simprocAttr])) | (refine a_cond _ (by (try simp (maxSteps := 2000000) only [Ty.w, simprocAttr]); rfl) (fun hb => ?_) (fun hb => ?_) <;> (try simp only [hb0, decide_eq_true_eq, decide_eq_false_iff_not, simprocAttr] at hb) <;> (try (exfalso; omega))) | (with_reducible refine ite_in (fun hb => ?_) (fun hb => ?_) <;> (try simp only [Decidable.not_not] at hb) <;> (try simp only [hb, if_true, if_false, not_false_eq_true, not_true_eq_false, ↓reduceIte]) <;> (try simp only [hb0, decide_eq_true_eq, decide_eq_false_iff_not, simprocAttr] at hb) <;> (try (exfalso; omega))) | ((first | refine hK _ _ ?_ | (clear hK; refine hK _ _ ?_) | (clear hK; clear hK; refine hK _ _ ?_) | (clear hK; clear hK; clear hK; refine hK _ _ ?_)); clear hK; (try simp only [pst0, simprocAttr])) | (rw [if_pos]; rotate_left 1; omega; simp (maxSteps := 2000000) only [Ty.w, simprocAttr]))
        refine owp_useQ (hv _) (by (try simp only [Ty.w, simprocAttr, ]); try rfl) ?_; simp (maxSteps := 2000000) only [Ty.w, simprocAttr, ]
        repeat' (first | (refine a_seq (fun K hK => ?_)) | (refine a_block ?_) | ((first | refine a_regionS ?_ | refine a_region (fun K hK => ?_) | refine a_ret ?_); simp (maxSteps := 2000000) only [Ty.w, simprocAttr, Bool.not_true]) | ((first | refine a_skip ?_ | refine a_exit ?_); (try simp only [pst0, simprocAttr])) | (refine a_cond _ (by (try simp (maxSteps := 2000000) only [Ty.w, simprocAttr, Bool.not_true]); rfl) (fun hb => ?_) (fun hb => ?_) <;> (try simp only [hb0, decide_eq_true_eq, decide_eq_false_iff_not, simprocAttr] at hb) <;> (try (exfalso; omega))) | (with_reducible refine ite_in (fun hb => ?_) (fun hb => ?_) <;> (try simp only [Decidable.not_not] at hb) <;> (try simp only [hb, if_true, if_false, not_false_eq_true, not_true_eq_false, ↓reduceIte]) <;> (try simp only [hb0, decide_eq_true_eq, decide_eq_false_iff_not, simprocAttr] at hb) <;> (try (exfalso; omega))) | ((first | refine hK _ _ ?_ | (clear hK; refine hK _ _ ?_) | (clear hK; clear hK; refine hK _ _ ?_) | (clear hK; clear hK; clear hK; refine hK _ _ ?_)); clear hK; (try simp only [pst0, simprocAttr])) | (rw [if_pos]; rotate_left 1; omega; simp (maxSteps := 2000000) only [Ty.w, simprocAttr, Bool.not_true]))
        refine owp_useQ (hp _) (by (try simp only [Ty.w, simprocAttr, ]); try rfl) ?_; simp (maxSteps := 2000000) only [Ty.w, simprocAttr, ]
        repeat' (first | (refine a_seq (fun K hK => ?_)) | (refine a_block ?_) | ((first | refine a_regionS ?_ | refine a_region (fun K hK => ?_) | refine a_ret ?_); simp (maxSteps := 2000000) only [Ty.w, simprocAttr, n1, nsucc]) | ((first | refine a_skip ?_ | refine a_exit ?_); (try simp only [pst0, simprocAttr])) | (refine a_cond _ (by (try simp (maxSteps := 2000000) only [Ty.w, simprocAttr, n1, nsucc]); rfl) (fun hb => ?_) (fun hb => ?_) <;> (try simp only [hb0, decide_eq_true_eq, decide_eq_false_iff_not, simprocAttr] at hb) <;> (try (exfalso; omega))) | (with_reducible refine ite_in (fun hb => ?_) (fun hb => ?_) <;> (try simp only [Decidable.not_not] at hb) <;> (try simp only [hb, if_true, if_false, not_false_eq_true, not_true_eq_false, ↓reduceIte]) <;> (try simp only [hb0, decide_eq_true_eq, decide_eq_false_iff_not, simprocAttr] at hb) <;> (try (exfalso; omega))) | ((first | refine hK _ _ ?_ | (clear hK; refine hK _ _ ?_) | (clear hK; clear hK; refine hK _ _ ?_) | (clear hK; clear hK; clear hK; refine hK _ _ ?_)); clear hK; (try simp only [pst0, simprocAttr])) | (rw [if_pos]; rotate_left 1; omega; simp (maxSteps := 2000000) only [Ty.w, simprocAttr, n1, nsucc]))
        refine owp_useQ (hV _) (by (try simp only [Ty.w, simprocAttr, n1, nsucc]); try rfl) ?_; simp (maxSteps := 2000000) only [Ty.w, simprocAttr, n1, nsucc]
        repeat' (first | (refine a_seq (fun K hK => ?_)) | (refine a_block ?_) | ((first | refine a_regionS ?_ | refine a_region (fun K hK => ?_) | refine a_ret ?_); simp (maxSteps := 2000000) only [Ty.w, simprocAttr, n1, nsucc, Bool.not_true]) | ((first | refine a_skip ?_ | refine a_exit ?_); (try simp only [pst0, simprocAttr])) | (refine a_cond _ (by (try simp (maxSteps := 2000000) only [Ty.w, simprocAttr, n1, nsucc, Bool.not_true]); rfl) (fun hb => ?_) (fun hb => ?_) <;> (try simp only [hb0, decide_eq_true_eq, decide_eq_false_iff_not, simprocAttr] at hb) <;> (try (exfalso; omega))) | (with_reducible refine ite_in (fun hb => ?_) (fun hb => ?_) <;> (try simp only [Decidable.not_not] at hb) <;> (try simp only [hb, if_true, if_false, not_false_eq_true, not_true_eq_false, ↓reduceIte]) <;> (try simp only [hb0, decide_eq_true_eq, decide_eq_false_iff_not, simprocAttr] at hb) <;> (try (exfalso; omega))) | ((first | refine hK _ _ ?_ | (clear hK; refine hK _ _ ?_) | (clear hK; clear hK; refine hK _ _ ?_) | (clear hK; clear hK; clear hK; refine hK _ _ ?_)); clear hK; (try simp only [pst0, simprocAttr])) | (rw [if_pos]; rotate_left 1; omega; simp (maxSteps := 2000000) only [Ty.w, simprocAttr, n1, nsucc, Bool.not_true]))
        refine ⟨?_, hg2 _ _ _⟩
        have h1 := fun hh => hfz h.next hh
        unfold FrzTo
        refine ⟨_, rfl, ?_⟩
        unfold FrzL
        refine ⟨?_, by unfold FrzL; exact ⟨by simp only [FrzTo], by simp only [FrzL]⟩⟩
        unfold FrzTo
        exact ⟨_, rfl, h1 _⟩
end Go.Proofs.Ytjlkapgpjamnkaa
namespace Go.Proofs.Ytjlkapgpjamnkaa
open Go.AM
set_option maxHeartbeats 2000000
set_option maxRecDepth 20000
theorem fnum_c {h : Heap} {n : Int} : PCall Try.prog 35 [errV n] h fun r h' => r = .sc (.int .i64 n) ∧ h' = h := by
  unfold errV
  refine pcall_body (ow := fun _ => false) (wf := fun _ => false) Ty.mixed Try.func35 rfl Ty.hb_35 (by rw [Try.ntmps35]; simp) ?_
  rw [Try.ntmps35, Try.results35]
  repeat' (first | (refine a_seq (fun K hK => ?_)) | (refine a_block ?_) | ((first | refine a_regionS ?_ | refine a_region (fun K hK => ?_) | refine a_ret ?_); simp (maxSteps := 2000000) only [Ty.w, simprocAttr]) | ((first | refine a_skip ?_ | refine a_exit ?_); (try simp only [pst0, simprocAttr])) | (refine a_cond _ (by (try simp (maxSteps := 2000000) only [Ty.w, simprocAttr]); rfl) (fun hb => ?_) (fun hb => ?_) <;> (try simp only [hb0, decide_eq_true_eq, decide_eq_false_iff_not, simprocAttr] at hb) <;> (try (exfalso; omega))) | (with_reducible refine ite_in (fun hb => ?_) (fun hb => ?_) <;> (try simp only [Decidable.not_not] at hb) <;> (try simp only [hb, if_true, if_false, not_false_eq_true, not_true_eq_false, ↓reduceIte]) <;> (try simp only [hb0, decide_eq_true_eq, decide_eq_false_iff_not, simprocAttr] at hb) <;> (try (exfalso; omega))) | ((first | refine hK _ _ ?_ | (clear hK; refine hK _ _ ?_) | (clear hK; clear hK; refine hK _ _ ?_) | (clear hK; clear hK; clear hK; refine hK _ _ ?_)); clear hK; (try simp only [pst0, simprocAttr])) | (rw [if_pos]; rotate_left 1; omega; simp (maxSteps := 2000000) only [Ty.w, simprocAttr]))
  all_goals rfl
theorem fis_c {h : Heap} {n m : Int} : PCall Try.prog 29 [errV n, .sc (.int .i64 m)] h fun r h' => r = .sc (.bool (n == m)) ∧ h' = h := by
  have hn := fun h : Heap => fnum_c (h := h) (n := n)
  unfold errV at hn ⊢
  refine pcall_body (ow := fun _ => false) (wf := fun _ => false) Ty.mixed Try.func29 rfl Ty.hb_29 (by rw [Try.ntmps29]; simp) ?_
  rw [Try.ntmps29, Try.results29]
  repeat' (first | (refine a_seq (fun K hK => ?_)) | (refine a_block ?_) | ((first | refine a_regionS ?_ | refine a_region (fun K hK => ?_) | refine a_ret ?_); simp (maxSteps := 2000000) only [Ty.w, simprocAttr]) | ((first | refine a_skip ?_ | refine a_exit ?_); (try simp only [pst0, simprocAttr])) | (refine a_cond _ (by (try simp (maxSteps := 2000000) only [Ty.w, simprocAttr]); rfl) (fun hb => ?_) (fun hb => ?_) <;> (try simp only [hb0, decide_eq_true_eq, decide_eq_false_iff_not, simprocAttr] at hb) <;> (try (exfalso; omega))) | (with_reducible refine ite_in (fun hb => ?_) (fun hb => ?_) <;> (try simp only [Decidable.not_not] at hb) <;> (try simp only [hb, if_true, if_false, not_false_eq_true, not_true_eq_false, ↓reduceIte]) <;> (try simp only [hb0, decide_eq_true_eq, decide_eq_false_iff_not, simprocAttr] at hb) <;> (try (exfalso; omega))) | ((first | refine hK _ _ ?_ | (clear hK; refine hK _ _ ?_) | (clear hK; clear hK; refine hK _ _ ?_) | (clear hK; clear hK; clear hK; refine hK _ _ ?_)); clear hK; (try simp only [pst0, simprocAttr])) | (rw [if_pos]; rotate_left 1; omega; simp (maxSteps := 2000000) only [Ty.w, simprocAttr]))
  refine owp_useQ (hn _) (by (try simp only [Ty.w, simprocAttr, eq_self]); try rfl) ?_; simp (maxSteps := 2000000) only [Ty.w, simprocAttr, eq_self]
  repeat' (first | (refine a_seq (fun K hK => ?_)) | (refine a_block ?_) | ((first | refine a_regionS ?_ | refine a_region (fun K hK => ?_) | refine a_ret ?_); simp (maxSteps := 2000000) only [Ty.w, simprocAttr]) | ((first | refine a_skip ?_ | refine a_exit ?_); (try simp only [pst0, simprocAttr])) | (refine a_cond _ (by (try simp (maxSteps := 2000000) only [Ty.w, simprocAttr]); rfl) (fun hb => ?_) (fun hb => ?_) <;> (try simp only [hb0, decide_eq_true_eq, decide_eq_false_iff_not, simprocAttr] at hb) <;> (try (exfalso; omega))) | (with_reducible refine ite_in (fun hb => ?_) (fun hb => ?_) <;> (try simp only [Decidable.not_not] at hb) <;> (try simp only [hb, if_true, if_false, not_false_eq_true, not_true_eq_false, ↓reduceIte]) <;> (try simp only [hb0, decide_eq_true_eq, decide_eq_false_iff_not, simprocAttr] at hb) <;> (try (exfalso; omega))) | ((first | refine hK _ _ ?_ | (clear hK; refine hK _ _ ?_) | (clear hK; clear hK; refine hK _ _ ?_) | (clear hK; clear hK; clear hK; refine hK _ _ ?_)); clear hK; (try simp only [pst0, simprocAttr])) | (rw [if_pos]; rotate_left 1; omega; simp (maxSteps := 2000000) only [Ty.w, simprocAttr]))
end Go.Proofs.Ytjlkapgpjamnkaa
namespace Go.AM
section
variable {P : Program} {ow : Nat → Bool} {wf : FuncId → Bool} {n : Nat}
/-- one operation -/
def Loc (P : Program) (ow : Nat → Bool) (wf : FuncId → Bool) (n : Nat) (ops : List Oper) (base j : Nat) (o : Oper) (s s' : Slots) (h h' : Heap) (v : PV) (l : Option (Nat × AObj)) : Prop :=
  o.dst.all (fun d => decide (d < n)) = true ∧ ∃ b, wantedB ops s o = some b ∧
    (b = false → s' = updO s o.dst (.sc undef) ∧ h' = h ∧ l = none) ∧
    (b = true → s' = updO s o.dst v ∧
      (isW ow wf o = false → h' = h ∧ l = none ∧ ∀ H, Does P ow o (pev s) H v H) ∧
      (isW ow wf o = true →
        (isA ow o = true ∧ ∃ ob, l = some (base + j, ob) ∧ aop P ow (base + j) o (pev s) = some (v, ob) ∧ h' = h.set (base + j) ob) ∨
        (∃ t x y id r f ob, o.op = .store t x y ∧ pev s x = .ptr id r f ∧ l = some (id, ob) ∧ h' = h.set id ob ∧ (∀ f q, j < f → ops[f]? = some q → isA ow q = true → base + f ≠ id) ∧ eff P (o.dst.any ow) o.op (pev s) h = some (v, h'))))
def dr3 (P : Program) (ow : Nat → Bool) (wf : FuncId → Bool) (n : Nat) (ops : List Oper) (base : Nat) : Nat → List Oper → List (Nat × Nat) → (Slots → Heap → Prop) → Slots → Heap → Prop
  | _, [], _, K, s, h => K s h
  | k, o :: rest, ls, K, s, h => ∃ s' h' v l, Loc P ow wf n ops base k o s s' h h' v l ∧ (∀ p, l = some p → ∀ x ∈ ls, pre ops x.1 k = true ∨ x.2 ≠ p.1) ∧ dr3 P ow wf n ops base (k + 1) rest (match l with | some p => (k, p.1) :: ls | none => ls) K s' h'
theorem dr3_facts {ops : List Oper} {base : Nat} {K : Slots → Heap → Prop} : ∀ (rest : List Oper) (k : Nat) (ls : List (Nat × Nat)) (s : Slots) (h : Heap), ops.drop k = rest → k ≤ ops.length → dr3 P ow wf n ops base k rest ls K s h →
    ∃ (sk : Nat → Slots) (hk : Nat → Heap) (vk : Nat → PV) (lt : Nat → Option (Nat × AObj)), sk k = s ∧ hk k = h ∧ K (sk ops.length) (hk ops.length) ∧
      (∀ j o, k ≤ j → ops[j]? = some o → Loc P ow wf n ops base j o (sk j) (sk (j + 1)) (hk j) (hk (j + 1)) (vk j) (lt j)) ∧
      (∀ j p, k ≤ j → j < ops.length → lt j = some p → ∀ x ∈ ls, pre ops x.1 j = true ∨ x.2 ≠ p.1) ∧
      (∀ i j p q, k ≤ i → i < j → j < ops.length → lt i = some p → lt j = some q → pre ops i j = true ∨ p.1 ≠ q.1)
  | [], k, ls, s, h, hd, hk, hr => by
    have hl : ops.length ≤ k := by simpa using hd
    have hke : k = ops.length := by omega
    refine ⟨fun _ => s, fun _ => h, fun _ => .emp, fun _ => none, rfl, rfl, hr, fun j o hj ho => ?_, fun j p _ _ hp => by simp at hp, fun i j p q _ _ _ hp => by simp at hp⟩
    have := (List.getElem?_eq_some_iff.1 ho).1
    omega
  | o :: rest, k, ls, s, h, hd, hk, hr => by
    have ho : ops[k]? = some o := by
      have : (ops.drop k)[0]? = some o := by rw [hd]; try rfl
      simpa using this
    have hkl : k < ops.length := (List.getElem?_eq_some_iff.1 ho).1
    have hd2 : ops.drop (k + 1) = rest := by
      have := List.drop_eq_getElem_cons hkl
      rw [hd] at this
      simp only [List.cons.injEq] at this
      exact this.2.symm
    obtain ⟨s', h', v, l, hloc, hls, hrec⟩ := hr
    obtain ⟨sk, hk', vk, lt, e1, e2, e3, e4, e5, e6⟩ := dr3_facts rest (k + 1) _ s' h' hd2 (by omega) hrec
    refine ⟨fun j => if j = k then s else sk j, fun j => if j = k then h else hk' j, fun j => if j = k then v else vk j, fun j => if j = k then l else lt j, by simp, by simp, ?_, fun j q hj hq => ?_, fun j p hj hjl hp x hx => ?_, fun i j p q hi hij hjl hp hq => ?_⟩
    · simp only
      rw [if_neg (by omega), if_neg (by omega)]; exact e3
    · by_cases hjk : j = k
      · subst hjk
        rw [ho] at hq
        simp only [Option.some.injEq] at hq
        subst hq
        simp only [if_true]
        rw [if_neg (by omega), if_neg (by omega), e1, e2]
        exact hloc
      · simp only [hjk, if_false]
        rw [if_neg (by omega), if_neg (by omega)]
        exact e4 j q (by omega) hq
    · by_cases hjk : j = k
      · subst hjk
        simp only [if_true] at hp
        exact hls p hp x hx
      · simp only [hjk, if_false] at hp
        refine e5 j p (by omega) hjl hp x ?_
        cases l with
        | none => exact hx
        | some y => exact List.mem_cons_of_mem _ hx
    · have hjk : ¬ j = k := by omega
      simp only [hjk, if_false] at hq
      by_cases hik : i = k
      · subst hik
        simp only [if_true] at hp
        subst hp
        exact e5 j q (by omega) hjl hq (i, p.1) (List.mem_cons_self ..)
      · simp only [hik, if_false] at hp
        exact e6 i j p q (by omega) hij hjl hp hq
theorem dwp3_of {ops : List Oper} {K : Slots → Heap → Prop} {s : Slots} {h : Heap} (hd : dOk3 ops = true) (hr : dr3 P ow wf n ops h.next 0 ops [] K s ⟨h.next + ops.length, h.obj⟩) : dwp3 P ow wf n ops K s h := by
  obtain ⟨sk, hk, vk, lt, e1, e2, e3, e4, _, e6⟩ := dr3_facts ops 0 [] s _ rfl (Nat.zero_le _) hr
  refine ⟨hd, sk, hk, vk, lt, fun _ => false, e1, e2, e3, ⟨fun j o ho => ?_, fun i j hij hj hi hj2 => ?_⟩⟩
  · obtain ⟨g1, b, g2, g3, g4⟩ := e4 j o (Nat.zero_le _) ho
    refine ⟨g1, b, g2, fun hb => ?_, fun hb => ?_⟩
    · obtain ⟨k1, k2, k3⟩ := g3 hb
      exact ⟨k1, k2, k3, rfl⟩
    · obtain ⟨k1, k2, k3⟩ := g4 hb
      refine ⟨k1, fun hw => ?_, fun hw => ?_⟩
      · obtain ⟨m1, m2, m3⟩ := k2 hw
        exact ⟨m1, m2, rfl, fun M _ => ⟨kx ow ops lt j, fun _ hx => hx, m3 _⟩⟩
      · rcases k3 hw with ⟨m1, ob, m2, m3, m4⟩ | ⟨t, x, y, id, r, f, ob, m1, m2, m3, m4, m5, m6⟩
        · exact .inr (.inl ⟨rfl, m1, ob, m2, m3, m4⟩)
        · exact .inr (.inr ⟨rfl, t, x, y, id, r, f, ob, m1, m2, m3, m4, m5, m6⟩)
  · have hi' : (lt i).isSome = true := hi.resolve_left (by simp)
    have hj' : (lt j).isSome = true := hj2.resolve_left (by simp)
    obtain ⟨p, hp⟩ := Option.isSome_iff_exists.1 hi'
    obtain ⟨q, hq⟩ := Option.isSome_iff_exists.1 hj'
    rcases e6 i j p q (Nat.zero_le _) hij hj hp hq with h1 | h1
    · exact .inl h1
    · exact .inr (.inl ⟨p, q, hp, hq, h1⟩)
theorem a_draw3 {Q : Post} {s : Slots} {h : Heap} {id : Nat} {ops : List Oper} (hd : dOk3 ops = true) (hk : ∀ K : Slots → Heap → Prop, (∀ s h, Q .normal s h → K s h) → dr3 P ow wf n ops h.next 0 ops [] K s ⟨h.next + ops.length, h.obj⟩) : awp P ow wf n (.region id ops.toArray true) Q s h := by
  simp only [awp, if_true]
  exact .inr (.inr (dwp3_of hd (hk _ fun _ _ hq => hq)))
theorem a_draw3S {Q : Post} {s : Slots} {h : Heap} {id : Nat} {ops : List Oper} {K : Slots → Heap → Prop} (hd : dOk3 ops = true) (hk : dr3 P ow wf n ops h.next 0 ops [] K s ⟨h.next + ops.length, h.obj⟩) : awp P ow wf n (.region id ops.toArray true) (Post.seq K Q) s h :=
  a_draw3 hd fun K' hK' => by
    have hm : ∀ (l : List Oper) (k : Nat) (ls : List (Nat × Nat)) (s : Slots) (h0 : Heap), dr3 P ow wf n ops h.next k l ls K s h0 → dr3 P ow wf n ops h.next k l ls K' s h0 := by
      intro l
      induction l with
      | nil => intro k ls s h0 hr; exact hK' _ _ hr
      | cons o l ih =>
        intro k ls s h0 hr
        obtain ⟨s', h', v, l', a, b, c⟩ := hr
        exact ⟨s', h', v, l', a, b, ih _ _ _ _ c⟩
    exact hm _ _ _ _ _ hk
variable {ops rest : List Oper} {base k : Nat} {o : Oper} {ls : List (Nat × Nat)} {K : Slots → Heap → Prop} {s : Slots} {h : Heap}
theorem d3_end (hK : K s h) : dr3 P ow wf n ops base k [] ls K s h := hK
theorem d3_quiet (v : PV) (hd : o.dst.all (fun d => decide (d < n)) = true) (hw : wantedB ops s o = some true) (hW : isW ow wf o = false) (he : ∀ H, Does P ow o (pev s) H v H) (hk : dr3 P ow wf n ops base (k + 1) rest ls K (updO s o.dst v) h) : dr3 P ow wf n ops base k (o :: rest) ls K s h :=
  ⟨_, _, v, none, ⟨hd, true, hw, fun hb => (by cases hb), fun _ => ⟨rfl, fun _ => ⟨rfl, rfl, he⟩, fun hw2 => (by rw [hW] at hw2; cases hw2)⟩⟩, fun p hp => (by cases hp), hk⟩
theorem d3_alloc {t : TypeId} {zs : List Value} (hop : o.op = .alloc t) (hd : o.dst.all (fun d => decide (d < n)) = true) (hw : wantedB ops s o = some true) (hz : zeroT P t = some zs) (hl : 0 < zs.length) (hls : ∀ x ∈ ls, pre ops x.1 k = true ∨ x.2 ≠ base + k)
    (hk : dr3 P ow wf n ops base (k + 1) rest ((k, base + k) :: ls) K (updO s o.dst (.ptr (base + k) 0 0)) (h.set (base + k) (.arr zs.length [zs.map .sc]))) : dr3 P ow wf n ops base k (o :: rest) ls K s h := by
  refine ⟨_, _, .ptr (base + k) 0 0, some (base + k, .arr zs.length [zs.map .sc]), ⟨hd, true, hw, fun hb => (by cases hb), fun _ => ⟨rfl, fun hw2 => ?_, fun _ => .inl ⟨?_, _, rfl, ?_, rfl⟩⟩⟩, fun p hp => ?_, hk⟩
  · unfold isW at hw2; rw [hop] at hw2; simp at hw2
  · unfold isA; rw [hop]
  · unfold aop
    rw [hop]
    simp [eff, hz, hl, Heap.new]
  · simp only [Option.some.injEq] at hp
    subst hp
    exact hls
theorem d3_store {t : TypeId} {x y : Operand} {id r f : Nat} {ob : AObj} {v : PV} (hop : o.op = .store t x y) (hd : o.dst.all (fun d => decide (d < n)) = true) (hw : wantedB ops s o = some true) (hx : pev s x = .ptr id r f) (he : eff P (o.dst.any ow) (.store t x y) (pev s) h = some (v, h.set id ob))
    (hlate : ∀ f q, k < f → ops[f]? = some q → isA ow q = true → base + f ≠ id) (hls : ∀ x ∈ ls, pre ops x.1 k = true ∨ x.2 ≠ id)
    (hk : dr3 P ow wf n ops base (k + 1) rest ((k, id) :: ls) K (updO s o.dst v) (h.set id ob)) : dr3 P ow wf n ops base k (o :: rest) ls K s h := by
  refine ⟨_, _, v, some (id, ob), ⟨hd, true, hw, fun hb => (by cases hb), fun _ => ⟨rfl, fun hw2 => ?_, fun _ => .inr ⟨t, x, y, id, r, f, ob, hop, hx, rfl, rfl, hlate, by rw [hop]; exact he⟩⟩⟩, fun p hp => ?_, hk⟩
  · unfold isW at hw2; rw [hop] at hw2; simp at hw2
  · simp only [Option.some.injEq] at hp
    subst hp
    exact hls
end
end Go.AM
namespace Go.AM
theorem Grow.bump {h h' : Heap} (g : Grow h h') (k : Nat) : Grow h ⟨h'.next + k, h'.obj⟩ := ⟨Nat.le_add_right_of_le g.1, g.2⟩
end Go.AM
namespace Go.Proofs.Ytjlkapgpjamnkaa
open Go.AM
set_option maxHeartbeats 4000000
set_option maxRecDepth 20000
theorem a_genD {P : Program} {ow : Nat → Bool} {wf : FuncId → Bool} {n : Nat} {Q : Post} {s : Slots} {h : Heap} {c : Code} (I : Slots → Heap → Prop) (hi : I s h) (hh : ∀ s h, I s h → awp P ow wf n c Q s h) : awp P ow wf n c Q s h := hh _ _ hi
def sxKids : Sx → List Sx
  | .mk _ _ _ _ _ ks => ks
mutual
/-- are notations equal, with positions 0 in the first? -/
def sameX : Sx → Sx → Bool
  | .mk k v li co t ks, .mk k2 v2 _ _ t2 ks2 => (k == k2) && ((v == v2) && ((t.data.toList == t2.data.toList) && ((li == 0) && ((co == 0) && sameXs ks ks2))))
def sameXs : List Sx → List Sx → Bool
  | [], [] => true
  | a :: l, b :: m => sameX a b && sameXs l m
  | _, _ => false
end
theorem sameXs_len : ∀ {l m : List Sx}, ¬ l.length = m.length → sameXs l m = false
  | [], [], h => by simp at h
  | [], _ :: _, _ => rfl
  | _ :: _, [], _ => rfl
  | a :: l, b :: m, h => by simp only [sameXs, sameXs_len (l := l) (m := m) (by simpa using h), Bool.and_false]
theorem same_of {l m : List Sx} (hl : l.length ≤ bigN) (hf : ∀ x ∈ l, ∀ (m : List Sx) (h : Heap), PCall Try.prog 30 [.imm 6 (Sx.rows (sxKids x)), .imm 6 (Sx.rows m)] h fun r h' => r = .sc (.bool (sameXs (sxKids x) m)) ∧ h' = h) (h : Heap) :
    PCall Try.prog 30 [.imm 6 (Sx.rows l), .imm 6 (Sx.rows m)] h fun r h' => r = .sc (.bool (sameXs l m)) ∧ h' = h := by
  unfold bigN at hl
  have hll := Sx.rows_len l
  have hlm := Sx.rows_len m
  refine PCall.quiet Ty.hb_30 ?_
  refine pcall_body (ow := fun _ => false) (wf := fun _ => false) Ty.mixed Try.func30 rfl Ty.hb_30 (by rw [Try.ntmps30]; simp) ?_
  rw [Try.ntmps30, Try.results30]
  cases hne : ((l.length : Int) != m.length) with
  | true =>
    have : sameXs l m = false := sameXs_len (by simp at hne; omega)
    repeat' (first | (refine a_seq (fun K hK => ?_)) | (refine a_block ?_) | ((first | refine a_regionS ?_ | refine a_region (fun K hK => ?_) | refine a_ret ?_); simp (maxSteps := 2000000) only [Ty.w, simprocAttr, hll, hlm, hne]) | ((first | refine a_skip ?_ | refine a_exit ?_); (try simp only [pst0, simprocAttr])) | (refine a_cond _ (by (try simp (maxSteps := 2000000) only [Ty.w, simprocAttr, hll, hlm, hne]); rfl) (fun hb => ?_) (fun hb => ?_) <;> (try simp only [hb0, decide_eq_true_eq, decide_eq_false_iff_not, simprocAttr] at hb) <;> (try (exfalso; omega))) | (with_reducible refine ite_in (fun hb => ?_) (fun hb => ?_) <;> (try simp only [Decidable.not_not] at hb) <;> (try simp only [hb, if_true, if_false, not_false_eq_true, not_true_eq_false, ↓reduceIte]) <;> (try simp only [hb0, decide_eq_true_eq, decide_eq_false_iff_not, simprocAttr] at hb) <;> (try (exfalso; omega))) | ((first | refine hK _ _ ?_ | (clear hK; refine hK _ _ ?_) | (clear hK; clear hK; refine hK _ _ ?_) | (clear hK; clear hK; clear hK; refine hK _ _ ?_)); clear hK; (try simp only [pst0, simprocAttr])) | (rw [if_pos]; rotate_left 1; omega; simp (maxSteps := 2000000) only [Ty.w, simprocAttr, hll, hlm, hne]))
    rw [this]
    exact ⟨rfl, Grow.refl _⟩
  | false =>
    have hlen : l.length = m.length := by simp at hne; omega
    repeat' (first | (refine a_seq (fun K hK => ?_)) | (refine a_block ?_) | ((first | refine a_regionS ?_ | refine a_region (fun K hK => ?_) | refine a_ret ?_); simp (maxSteps := 2000000) only [Ty.w, simprocAttr, hll, hlm, hne]) | ((first | refine a_skip ?_ | refine a_exit ?_); (try simp only [pst0, simprocAttr])) | (refine a_cond _ (by (try simp (maxSteps := 2000000) only [Ty.w, simprocAttr, hll, hlm, hne]); rfl) (fun hb => ?_) (fun hb => ?_) <;> (try simp only [hb0, decide_eq_true_eq, decide_eq_false_iff_not, simprocAttr] at hb) <;> (try (exfalso; omega))) | (with_reducible refine ite_in (fun hb => ?_) (fun hb => ?_) <;> (try simp only [Decidable.not_not] at hb) <;> (try simp only [hb, if_true, if_false, not_false_eq_true, not_true_eq_false, ↓reduceIte]) <;> (try simp only [hb0, decide_eq_true_eq, decide_eq_false_iff_not, simprocAttr] at hb) <;> (try (exfalso; omega))) | ((first | refine hK _ _ ?_ | (clear hK; refine hK _ _ ?_) | (clear hK; clear hK; refine hK _ _ ?_) | (clear hK; clear hK; clear hK; refine hK _ _ ?_)); clear hK; (try simp only [pst0, simprocAttr])) | (rw [if_pos]; rotate_left 1; omega; simp (maxSteps := 2000000) only [Ty.w, simprocAttr, hll, hlm, hne]))
    refine a_loop (fun c S h' => Grow h h' ∧ S 0 = .imm 6 (Sx.rows l) ∧ S 1 = .imm 6 (Sx.rows m) ∧ ∃ k : Nat, S 5 = .sc (.int .i64 k) ∧ k ≤ l.length ∧ c = l.length - k ∧ sameXs l m = sameXs (l.drop k) (m.drop k)) l.length ?_ ?_
    · simp only [Ty.w, simprocAttr]
      exact ⟨Grow.refl _, 0, rfl, by omega, rfl, by simp⟩
    · rintro c S h' ⟨hg, g0, g1, k, g5, hkl, rfl, hinv⟩
      by_cases hlt : k < l.length
      · have hd : decide ((k : Int) < (l.length : Int)) = true := by simp; omega
        have w7 : IntKind.i64.wrap ((k : Int) + 1) = k + 1 := by rw [wrap64 (by omega) (by omega)]
        obtain ⟨a, hx⟩ : ∃ a, l[k]? = some a := ⟨_, List.getElem?_eq_getElem hlt⟩
        obtain ⟨b, hy⟩ : ∃ b, m[k]? = some b := ⟨_, List.getElem?_eq_getElem (by omega)⟩
        have hc := hf a (List.mem_of_getElem? hx) (sxKids b)
        rw [drop_of_get hx, drop_of_get hy] at hinv
        simp only [sameXs] at hinv
        have hr := Sx.rows_get hx
        have hr2 := Sx.rows_get hy
        obtain ⟨ki, va, li, co, te, ks⟩ := a
        obtain ⟨ki2, va2, li2, co2, te2, ks2⟩ := b
        simp only [sxKids, sameX] at hc hinv
        simp only [Sx.cells] at hr hr2
        generalize sameXs ks ks2 = v at hc hinv
        repeat' (first | (refine a_seq (fun K hK => ?_)) | (refine a_block ?_) | ((first | refine a_regionS ?_ | refine a_region (fun K hK => ?_) | refine a_ret ?_); simp (maxSteps := 2000000) only [Ty.w, simprocAttr, g0, g1, g5, hll, hlm, hd]) | ((first | refine a_skip ?_ | refine a_exit ?_); (try simp only [pst0, simprocAttr])) | (refine a_cond _ (by (try simp (maxSteps := 2000000) only [Ty.w, simprocAttr, g0, g1, g5, hll, hlm, hd]); rfl) (fun hb => ?_) (fun hb => ?_) <;> (try simp only [hb0, decide_eq_true_eq, decide_eq_false_iff_not, simprocAttr] at hb) <;> (try (exfalso; omega))) | (with_reducible refine ite_in (fun hb => ?_) (fun hb => ?_) <;> (try simp only [Decidable.not_not] at hb) <;> (try simp only [hb, if_true, if_false, not_false_eq_true, not_true_eq_false, ↓reduceIte]) <;> (try simp only [hb0, decide_eq_true_eq, decide_eq_false_iff_not, simprocAttr] at hb) <;> (try (exfalso; omega))) | ((first | refine hK _ _ ?_ | (clear hK; refine hK _ _ ?_) | (clear hK; clear hK; refine hK _ _ ?_) | (clear hK; clear hK; clear hK; refine hK _ _ ?_)); clear hK; (try simp only [pst0, simprocAttr])) | (rw [if_pos]; rotate_left 1; omega; simp (maxSteps := 2000000) only [Ty.w, simprocAttr, g0, g1, g5, hll, hlm, hd]))
        refine a_draw3S (by decide +kernel) ?_
        refine d3_quiet _ (by decide) rfl rfl (fun H => by (try simp (maxSteps := 2000000) only [Ty.w, simprocAttr, Ty.all, g0, g1, g5]); first | rfl | exact ⟨rfl, rfl⟩) ?_
        refine d3_quiet _ (by decide) rfl rfl (fun H => by (try simp (maxSteps := 2000000) only [Ty.w, simprocAttr, Ty.all, g0, g1, g5]); first | rfl | exact ⟨rfl, rfl⟩) ?_
        refine d3_quiet _ (by decide) rfl rfl (fun H => by (try simp (maxSteps := 2000000) only [Ty.w, simprocAttr, Ty.all, g0, g1, g5, hr]); first | rfl | exact ⟨rfl, rfl⟩) ?_
        refine d3_quiet _ (by decide) rfl rfl (fun H => by (try simp (maxSteps := 2000000) only [Ty.w, simprocAttr, Ty.all, g0, g1, g5, hr]); first | rfl | exact ⟨rfl, rfl⟩) ?_
        refine d3_quiet _ (by decide) rfl rfl (fun H => by (try simp (maxSteps := 2000000) only [Ty.w, simprocAttr, Ty.all, g0, g1, g5]); first | rfl | exact ⟨rfl, rfl⟩) ?_
        refine d3_quiet _ (by decide) rfl rfl (fun H => by (try simp (maxSteps := 2000000) only [Ty.w, simprocAttr, Ty.all, g0, g1, g5]); first | rfl | exact ⟨rfl, rfl⟩) ?_
        refine d3_quiet _ (by decide) rfl rfl (fun H => by (try simp (maxSteps := 2000000) only [Ty.w, simprocAttr, Ty.all, g0, g1, g5, hr2]); first | rfl | exact ⟨rfl, rfl⟩) ?_
        refine d3_quiet _ (by decide) rfl rfl (fun H => by (try simp (maxSteps := 2000000) only [Ty.w, simprocAttr, Ty.all, g0, g1, g5, hr2]); first | rfl | exact ⟨rfl, rfl⟩) ?_
        refine d3_alloc rfl (by decide) rfl (by simp only [Ty.all]; rfl) (by decide) (by intro x hx; repeat' (first | (exact absurd hx (List.not_mem_nil)) | (rcases List.mem_cons.1 hx with rfl | hx) | exact .inl (by dsimp only; decide +kernel) | exact .inl (by decide +kernel) | exact .inr (by (try dsimp only); omega))) ?_
        refine d3_alloc rfl (by decide) rfl (by simp only [Ty.all]; rfl) (by decide) (by intro x hx; repeat' (first | (exact absurd hx (List.not_mem_nil)) | (rcases List.mem_cons.1 hx with rfl | hx) | exact .inl (by dsimp only; decide +kernel) | exact .inl (by decide +kernel) | exact .inr (by (try dsimp only); omega))) ?_
        refine d3_store rfl (by decide) rfl (by (try simp (maxSteps := 2000000) only [Ty.w, simprocAttr, Ty.all, nsucc, Nat.add_eq_left, Nat.one_ne_zero]); rfl) (by (try simp (maxSteps := 2000000) only [Ty.w, simprocAttr, Ty.all, nsucc, Nat.add_eq_left, Nat.one_ne_zero]); first | rfl | exact ⟨rfl, rfl⟩) (fun f q hf _ _ hq => absurd hf (by rw [Nat.add_left_cancel hq]; decide)) (by intro x hx; repeat' (first | (exact absurd hx (List.not_mem_nil)) | (rcases List.mem_cons.1 hx with rfl | hx) | exact .inl (by dsimp only; decide +kernel) | exact .inl (by decide +kernel) | exact .inr (by (try dsimp only); omega))) ?_
        refine d3_store rfl (by decide) rfl (by (try simp (maxSteps := 2000000) only [Ty.w, simprocAttr, Ty.all, nsucc, Nat.add_eq_left, Nat.one_ne_zero]); rfl) (by (try simp (maxSteps := 2000000) only [Ty.w, simprocAttr, Ty.all, nsucc, Nat.add_eq_left, Nat.one_ne_zero]); first | rfl | exact ⟨rfl, rfl⟩) (fun f q hf _ _ hq => absurd hf (by rw [Nat.add_left_cancel hq]; decide)) (by intro x hx; repeat' (first | (exact absurd hx (List.not_mem_nil)) | (rcases List.mem_cons.1 hx with rfl | hx) | exact .inl (by dsimp only; decide +kernel) | exact .inl (by decide +kernel) | exact .inr (by (try dsimp only); omega))) ?_
        refine d3_end ?_
        refine hK _ _ ?_
        clear hK K
        refine a_genD (fun S2 h2 => Grow h h2 ∧ S2 0 = .imm 6 (Sx.rows l) ∧ S2 1 = .imm 6 (Sx.rows m) ∧ S2 5 = .sc (.int .i64 k) ∧ S2 6 = .ptr (h'.next + 8) 0 0 ∧ S2 7 = .ptr (h'.next + 9) 0 0 ∧ h2.obj (h'.next + 8) = some (.arr 6 [[.sc (.int .i64 ki), .sc (.int .i64 va), .sc (.int .i64 li), .sc (.int .i64 co), sPV te, .imm 6 (Sx.rows ks)]]) ∧ h2.obj (h'.next + 9) = some (.arr 6 [[.sc (.int .i64 ki2), .sc (.int .i64 va2), .sc (.int .i64 li2), .sc (.int .i64 co2), sPV te2, .imm 6 (Sx.rows ks2)]])) ?_ ?_
        · simp (maxSteps := 2000000) only [Ty.w, simprocAttr, g0, g1, g5, nsucc, Nat.add_eq_left, Nat.one_ne_zero]
          exact (((((hg.bump _).set (Nat.le_add_right_of_le hg.le) _).set (Nat.le_add_right_of_le hg.le) _).set (Nat.le_add_right_of_le hg.le) _).set (Nat.le_add_right_of_le hg.le) _)
        · rintro S2 h2 ⟨hg2, k0, k1, k5, k7, k8, o7, o8⟩
          clear hg g0 g1 g5
          cases q0 : (ki == ki2) with
          | false =>
            repeat' (first | (refine a_seq (fun K hK => ?_)) | (refine a_block ?_) | ((first | refine a_regionS ?_ | refine a_region (fun K hK => ?_) | refine a_ret ?_); simp (maxSteps := 2000000) only [Ty.w, simprocAttr, k0, k1, k5, k7, k8, o7, o8, bne, Bool.not_true, Bool.not_false, q0]) | ((first | refine a_skip ?_ | refine a_exit ?_); (try simp only [pst0, simprocAttr])) | (refine a_cond _ (by (try simp (maxSteps := 2000000) only [Ty.w, simprocAttr, k0, k1, k5, k7, k8, o7, o8, bne, Bool.not_true, Bool.not_false, q0]); rfl) (fun hb => ?_) (fun hb => ?_) <;> (try simp only [hb0, decide_eq_true_eq, decide_eq_false_iff_not, simprocAttr] at hb) <;> (try (exfalso; omega))) | (with_reducible refine ite_in (fun hb => ?_) (fun hb => ?_) <;> (try simp only [Decidable.not_not] at hb) <;> (try simp only [hb, if_true, if_false, not_false_eq_true, not_true_eq_false, ↓reduceIte]) <;> (try simp only [hb0, decide_eq_true_eq, decide_eq_false_iff_not, simprocAttr] at hb) <;> (try (exfalso; omega))) | ((first | refine hK _ _ ?_ | (clear hK; refine hK _ _ ?_) | (clear hK; clear hK; refine hK _ _ ?_) | (clear hK; clear hK; clear hK; refine hK _ _ ?_)); clear hK; (try simp only [pst0, simprocAttr])) | (rw [if_pos]; rotate_left 1; omega; simp (maxSteps := 2000000) only [Ty.w, simprocAttr, k0, k1, k5, k7, k8, o7, o8, bne, Bool.not_true, Bool.not_false, q0]))
            all_goals (refine ⟨?_, hg2⟩; rw [hinv]; simp only [q0, Bool.true_and, Bool.false_and, Bool.and_false, Bool.and_true]; done)
          | true =>
            cases q1 : (va == va2) with
            | false =>
              repeat' (first | (refine a_seq (fun K hK => ?_)) | (refine a_block ?_) | ((first | refine a_regionS ?_ | refine a_region (fun K hK => ?_) | refine a_ret ?_); simp (maxSteps := 2000000) only [Ty.w, simprocAttr, k0, k1, k5, k7, k8, o7, o8, bne, Bool.not_true, Bool.not_false, q0, q1]) | ((first | refine a_skip ?_ | refine a_exit ?_); (try simp only [pst0, simprocAttr])) | (refine a_cond _ (by (try simp (maxSteps := 2000000) only [Ty.w, simprocAttr, k0, k1, k5, k7, k8, o7, o8, bne, Bool.not_true, Bool.not_false, q0, q1]); rfl) (fun hb => ?_) (fun hb => ?_) <;> (try simp only [hb0, decide_eq_true_eq, decide_eq_false_iff_not, simprocAttr] at hb) <;> (try (exfalso; omega))) | (with_reducible refine ite_in (fun hb => ?_) (fun hb => ?_) <;> (try simp only [Decidable.not_not] at hb) <;> (try simp only [hb, if_true, if_false, not_false_eq_true, not_true_eq_false, ↓reduceIte]) <;> (try simp only [hb0, decide_eq_true_eq, decide_eq_false_iff_not, simprocAttr] at hb) <;> (try (exfalso; omega))) | ((first | refine hK _ _ ?_ | (clear hK; refine hK _ _ ?_) | (clear hK; clear hK; refine hK _ _ ?_) | (clear hK; clear hK; clear hK; refine hK _ _ ?_)); clear hK; (try simp only [pst0, simprocAttr])) | (rw [if_pos]; rotate_left 1; omega; simp (maxSteps := 2000000) only [Ty.w, simprocAttr, k0, k1, k5, k7, k8, o7, o8, bne, Bool.not_true, Bool.not_false, q0, q1]))
              all_goals (refine ⟨?_, hg2⟩; rw [hinv]; simp only [q0, q1, Bool.true_and, Bool.false_and, Bool.and_false, Bool.and_true]; done)
            | true =>
              cases q2 : (te.data.toList == te2.data.toList) with
              | false =>
                repeat' (first | (refine a_seq (fun K hK => ?_)) | (refine a_block ?_) | ((first | refine a_regionS ?_ | refine a_region (fun K hK => ?_) | refine a_ret ?_); simp (maxSteps := 2000000) only [Ty.w, simprocAttr, k0, k1, k5, k7, k8, o7, o8, bne, Bool.not_true, Bool.not_false, q0, q1, q2]) | ((first | refine a_skip ?_ | refine a_exit ?_); (try simp only [pst0, simprocAttr])) | (refine a_cond _ (by (try simp (maxSteps := 2000000) only [Ty.w, simprocAttr, k0, k1, k5, k7, k8, o7, o8, bne, Bool.not_true, Bool.not_false, q0, q1, q2]); rfl) (fun hb => ?_) (fun hb => ?_) <;> (try simp only [hb0, decide_eq_true_eq, decide_eq_false_iff_not, simprocAttr] at hb) <;> (try (exfalso; omega))) | (with_reducible refine ite_in (fun hb => ?_) (fun hb => ?_) <;> (try simp only [Decidable.not_not] at hb) <;> (try simp only [hb, if_true, if_false, not_false_eq_true, not_true_eq_false, ↓reduceIte]) <;> (try simp only [hb0, decide_eq_true_eq, decide_eq_false_iff_not, simprocAttr] at hb) <;> (try (exfalso; omega))) | ((first | refine hK _ _ ?_ | (clear hK; refine hK _ _ ?_) | (clear hK; clear hK; refine hK _ _ ?_) | (clear hK; clear hK; clear hK; refine hK _ _ ?_)); clear hK; (try simp only [pst0, simprocAttr])) | (rw [if_pos]; rotate_left 1; omega; simp (maxSteps := 2000000) only [Ty.w, simprocAttr, k0, k1, k5, k7, k8, o7, o8, bne, Bool.not_true, Bool.not_false, q0, q1, q2]))
                all_goals (refine ⟨?_, hg2⟩; rw [hinv]; simp only [q0, q1, q2, Bool.true_and, Bool.false_and, Bool.and_false, Bool.and_true]; done)
              | true =>
                cases q3 : (li == 0) with
                | false =>
                  repeat' (first | (refine a_seq (fun K hK => ?_)) | (refine a_block ?_) | ((first | refine a_regionS ?_ | refine a_region (fun K hK => ?_) | refine a_ret ?_); simp (maxSteps := 2000000) only [Ty.w, simprocAttr, k0, k1, k5, k7, k8, o7, o8, bne, Bool.not_true, Bool.not_false, q0, q1, q2, q3]) | ((first | refine a_skip ?_ | refine a_exit ?_); (try simp only [pst0, simprocAttr])) | (refine a_cond _ (by (try simp (maxSteps := 2000000) only [Ty.w, simprocAttr, k0, k1, k5, k7, k8, o7, o8, bne, Bool.not_true, Bool.not_false, q0, q1, q2, q3]); rfl) (fun hb => ?_) (fun hb => ?_) <;> (try simp only [hb0, decide_eq_true_eq, decide_eq_false_iff_not, simprocAttr] at hb) <;> (try (exfalso; omega))) | (with_reducible refine ite_in (fun hb => ?_) (fun hb => ?_) <;> (try simp only [Decidable.not_not] at hb) <;> (try simp only [hb, if_true, if_false, not_false_eq_true, not_true_eq_false, ↓reduceIte]) <;> (try simp only [hb0, decide_eq_true_eq, decide_eq_false_iff_not, simprocAttr] at hb) <;> (try (exfalso; omega))) | ((first | refine hK _ _ ?_ | (clear hK; refine hK _ _ ?_) | (clear hK; clear hK; refine hK _ _ ?_) | (clear hK; clear hK; clear hK; refine hK _ _ ?_)); clear hK; (try simp only [pst0, simprocAttr])) | (rw [if_pos]; rotate_left 1; omega; simp (maxSteps := 2000000) only [Ty.w, simprocAttr, k0, k1, k5, k7, k8, o7, o8, bne, Bool.not_true, Bool.not_false, q0, q1, q2, q3]))
                  all_goals (refine ⟨?_, hg2⟩; rw [hinv]; simp only [q0, q1, q2, q3, Bool.true_and, Bool.false_and, Bool.and_false, Bool.and_true]; done)
                | true =>
                  cases q4 : (co == 0) with
                  | false =>
                    repeat' (first | (refine a_seq (fun K hK => ?_)) | (refine a_block ?_) | ((first | refine a_regionS ?_ | refine a_region (fun K hK => ?_) | refine a_ret ?_); simp (maxSteps := 2000000) only [Ty.w, simprocAttr, k0, k1, k5, k7, k8, o7, o8, bne, Bool.not_true, Bool.not_false, q0, q1, q2, q3, q4]) | ((first | refine a_skip ?_ | refine a_exit ?_); (try simp only [pst0, simprocAttr])) | (refine a_cond _ (by (try simp (maxSteps := 2000000) only [Ty.w, simprocAttr, k0, k1, k5, k7, k8, o7, o8, bne, Bool.not_true, Bool.not_false, q0, q1, q2, q3, q4]); rfl) (fun hb => ?_) (fun hb => ?_) <;> (try simp only [hb0, decide_eq_true_eq, decide_eq_false_iff_not, simprocAttr] at hb) <;> (try (exfalso; omega))) | (with_reducible refine ite_in (fun hb => ?_) (fun hb => ?_) <;> (try simp only [Decidable.not_not] at hb) <;> (try simp only [hb, if_true, if_false, not_false_eq_true, not_true_eq_false, ↓reduceIte]) <;> (try simp only [hb0, decide_eq_true_eq, decide_eq_false_iff_not, simprocAttr] at hb) <;> (try (exfalso; omega))) | ((first | refine hK _ _ ?_ | (clear hK; refine hK _ _ ?_) | (clear hK; clear hK; refine hK _ _ ?_) | (clear hK; clear hK; clear hK; refine hK _ _ ?_)); clear hK; (try simp only [pst0, simprocAttr])) | (rw [if_pos]; rotate_left 1; omega; simp (maxSteps := 2000000) only [Ty.w, simprocAttr, k0, k1, k5, k7, k8, o7, o8, bne, Bool.not_true, Bool.not_false, q0, q1, q2, q3, q4]))
                    all_goals (refine ⟨?_, hg2⟩; rw [hinv]; simp only [q0, q1, q2, q3, q4, Bool.true_and, Bool.false_and, Bool.and_false, Bool.and_true]; done)
                  | true =>
                    repeat' (first | (refine a_seq (fun K hK => ?_)) | (refine a_block ?_) | ((first | refine a_regionS ?_ | refine a_region (fun K hK => ?_) | refine a_ret ?_); simp (maxSteps := 2000000) only [Ty.w, simprocAttr, k0, k1, k5, k7, k8, o7, o8, bne, Bool.not_true, Bool.not_false, q0, q1, q2, q3, q4]) | ((first | refine a_skip ?_ | refine a_exit ?_); (try simp only [pst0, simprocAttr])) | (refine a_cond _ (by (try simp (maxSteps := 2000000) only [Ty.w, simprocAttr, k0, k1, k5, k7, k8, o7, o8, bne, Bool.not_true, Bool.not_false, q0, q1, q2, q3, q4]); rfl) (fun hb => ?_) (fun hb => ?_) <;> (try simp only [hb0, decide_eq_true_eq, decide_eq_false_iff_not, simprocAttr] at hb) <;> (try (exfalso; omega))) | (with_reducible refine ite_in (fun hb => ?_) (fun hb => ?_) <;> (try simp only [Decidable.not_not] at hb) <;> (try simp only [hb, if_true, if_false, not_false_eq_true, not_true_eq_false, ↓reduceIte]) <;> (try simp only [hb0, decide_eq_true_eq, decide_eq_false_iff_not, simprocAttr] at hb) <;> (try (exfalso; omega))) | ((first | refine hK _ _ ?_ | (clear hK; refine hK _ _ ?_) | (clear hK; clear hK; refine hK _ _ ?_) | (clear hK; clear hK; clear hK; refine hK _ _ ?_)); clear hK; (try simp only [pst0, simprocAttr])) | (rw [if_pos]; rotate_left 1; omega; simp (maxSteps := 2000000) only [Ty.w, simprocAttr, k0, k1, k5, k7, k8, o7, o8, bne, Bool.not_true, Bool.not_false, q0, q1, q2, q3, q4]))
                    cases v with
                    | false =>
                      refine owp_useQ (hc _) (by (try simp only [Ty.w, simprocAttr, k0, k1, k5, k7, k8, o7, o8, bne, Bool.not_true, Bool.not_false, q0, q1, q2, q3, q4]); try rfl) ?_; simp (maxSteps := 2000000) only [Ty.w, simprocAttr, k0, k1, k5, k7, k8, o7, o8, bne, Bool.not_true, Bool.not_false, q0, q1, q2, q3, q4]
                      repeat' (first | (refine a_seq (fun K hK => ?_)) | (refine a_block ?_) | ((first | refine a_regionS ?_ | refine a_region (fun K hK => ?_) | refine a_ret ?_); simp (maxSteps := 2000000) only [Ty.w, simprocAttr, k0, k1, k5, k7, k8, o7, o8, bne, Bool.not_true, Bool.not_false, q0, q1, q2, q3, q4]) | ((first | refine a_skip ?_ | refine a_exit ?_); (try simp only [pst0, simprocAttr])) | (refine a_cond _ (by (try simp (maxSteps := 2000000) only [Ty.w, simprocAttr, k0, k1, k5, k7, k8, o7, o8, bne, Bool.not_true, Bool.not_false, q0, q1, q2, q3, q4]); rfl) (fun hb => ?_) (fun hb => ?_) <;> (try simp only [hb0, decide_eq_true_eq, decide_eq_false_iff_not, simprocAttr] at hb) <;> (try (exfalso; omega))) | (with_reducible refine ite_in (fun hb => ?_) (fun hb => ?_) <;> (try simp only [Decidable.not_not] at hb) <;> (try simp only [hb, if_true, if_false, not_false_eq_true, not_true_eq_false, ↓reduceIte]) <;> (try simp only [hb0, decide_eq_true_eq, decide_eq_false_iff_not, simprocAttr] at hb) <;> (try (exfalso; omega))) | ((first | refine hK _ _ ?_ | (clear hK; refine hK _ _ ?_) | (clear hK; clear hK; refine hK _ _ ?_) | (clear hK; clear hK; clear hK; refine hK _ _ ?_)); clear hK; (try simp only [pst0, simprocAttr])) | (rw [if_pos]; rotate_left 1; omega; simp (maxSteps := 2000000) only [Ty.w, simprocAttr, k0, k1, k5, k7, k8, o7, o8, bne, Bool.not_true, Bool.not_false, q0, q1, q2, q3, q4]))
                      all_goals (refine ⟨?_, hg2⟩; rw [hinv]; simp only [q0, q1, q2, q3, q4, Bool.true_and, Bool.false_and, Bool.and_false, Bool.and_true]; done)
                    | true =>
                      refine owp_useQ (hc _) (by (try simp only [Ty.w, simprocAttr, k0, k1, k5, k7, k8, o7, o8, bne, Bool.not_true, Bool.not_false, q0, q1, q2, q3, q4]); try rfl) ?_; simp (maxSteps := 2000000) only [Ty.w, simprocAttr, k0, k1, k5, k7, k8, o7, o8, bne, Bool.not_true, Bool.not_false, q0, q1, q2, q3, q4]
                      repeat' (first | (refine a_seq (fun K hK => ?_)) | (refine a_block ?_) | ((first | refine a_regionS ?_ | refine a_region (fun K hK => ?_) | refine a_ret ?_); simp (maxSteps := 2000000) only [Ty.w, simprocAttr, k0, k1, k5, k7, k8, o7, o8, bne, Bool.not_true, Bool.not_false, q0, q1, q2, q3, q4, w7]) | ((first | refine a_skip ?_ | refine a_exit ?_); (try simp only [pst0, simprocAttr])) | (refine a_cond _ (by (try simp (maxSteps := 2000000) only [Ty.w, simprocAttr, k0, k1, k5, k7, k8, o7, o8, bne, Bool.not_true, Bool.not_false, q0, q1, q2, q3, q4, w7]); rfl) (fun hb => ?_) (fun hb => ?_) <;> (try simp only [hb0, decide_eq_true_eq, decide_eq_false_iff_not, simprocAttr] at hb) <;> (try (exfalso; omega))) | (with_reducible refine ite_in (fun hb => ?_) (fun hb => ?_) <;> (try simp only [Decidable.not_not] at hb) <;> (try simp only [hb, if_true, if_false, not_false_eq_true, not_true_eq_false, ↓reduceIte]) <;> (try simp only [hb0, decide_eq_true_eq, decide_eq_false_iff_not, simprocAttr] at hb) <;> (try (exfalso; omega))) | ((first | refine hK _ _ ?_ | (clear hK; refine hK _ _ ?_) | (clear hK; clear hK; refine hK _ _ ?_) | (clear hK; clear hK; clear hK; refine hK _ _ ?_)); clear hK; (try simp only [pst0, simprocAttr])) | (rw [if_pos]; rotate_left 1; omega; simp (maxSteps := 2000000) only [Ty.w, simprocAttr, k0, k1, k5, k7, k8, o7, o8, bne, Bool.not_true, Bool.not_false, q0, q1, q2, q3, q4, w7]))
                      (simp only [q0, q1, q2, q3, q4, Bool.true_and] at hinv; exact ⟨l.length - (k + 1), by omega, hg2, k + 1, by simp, by omega, rfl, hinv⟩)
      · have hd : decide ((k : Int) < (l.length : Int)) = false := by simp; omega
        rw [List.drop_eq_nil_of_le (by omega), List.drop_eq_nil_of_le (by omega)] at hinv
        simp only [sameXs] at hinv
        repeat' (first | (refine a_seq (fun K hK => ?_)) | (refine a_block ?_) | ((first | refine a_regionS ?_ | refine a_region (fun K hK => ?_) | refine a_ret ?_); simp (maxSteps := 2000000) only [Ty.w, simprocAttr, g0, g1, g5, hll, hd]) | ((first | refine a_skip ?_ | refine a_exit ?_); (try simp only [pst0, simprocAttr])) | (refine a_cond _ (by (try simp (maxSteps := 2000000) only [Ty.w, simprocAttr, g0, g1, g5, hll, hd]); rfl) (fun hb => ?_) (fun hb => ?_) <;> (try simp only [hb0, decide_eq_true_eq, decide_eq_false_iff_not, simprocAttr] at hb) <;> (try (exfalso; omega))) | (with_reducible refine ite_in (fun hb => ?_) (fun hb => ?_) <;> (try simp only [Decidable.not_not] at hb) <;> (try simp only [hb, if_true, if_false, not_false_eq_true, not_true_eq_false, ↓reduceIte]) <;> (try simp only [hb0, decide_eq_true_eq, decide_eq_false_iff_not, simprocAttr] at hb) <;> (try (exfalso; omega))) | ((first | refine hK _ _ ?_ | (clear hK; refine hK _ _ ?_) | (clear hK; clear hK; refine hK _ _ ?_) | (clear hK; clear hK; clear hK; refine hK _ _ ?_)); clear hK; (try simp only [pst0, simprocAttr])) | (rw [if_pos]; rotate_left 1; omega; simp (maxSteps := 2000000) only [Ty.w, simprocAttr, g0, g1, g5, hll, hd]))
        rw [hinv]
        exact ⟨rfl, hg⟩
theorem same_all : ∀ x : Sx, x.ok → ∀ (m : List Sx) (h : Heap), PCall Try.prog 30 [.imm 6 (Sx.rows (sxKids x)), .imm 6 (Sx.rows m)] h fun r h' => r = .sc (.bool (sameXs (sxKids x) m)) ∧ h' = h :=
  Sx.ind fun kind value line col text kids ih hx m h => by
    simp only [Sx.ok] at hx
    simp only [sxKids]
    exact same_of hx.2.2.2.1 (fun x hx2 m h => ih x hx2 (Sx.oks_iff.1 hx.2.2.2.2 x hx2) m h) h
theorem same_c {l m : List Sx} (hl : l.length ≤ bigN) (ho : ∀ x ∈ l, x.ok) (h : Heap) : PCall Try.prog 30 [.imm 6 (Sx.rows l), .imm 6 (Sx.rows m)] h fun r h' => r = .sc (.bool (sameXs l m)) ∧ h' = h :=
  same_of hl (fun x hx => same_all x (ho x hx)) h
end Go.Proofs.Ytjlkapgpjamnkaa
namespace Go.Proofs.Ytjlkapgpjamnkaa
open Go.AM
mutual
/-- are all positions 0? -/
def posX : Sx → Bool
  | .mk _ _ li co _ ks => (li == 0) && (co == 0) && posXs ks
def posXs : List Sx → Bool
  | [] => true
  | k :: ks => posX k && posXs ks
end
theorem posXs_iff : ∀ {l : List Sx}, (posXs l = true ↔ ∀ k ∈ l, posX k = true)
  | [] => by simp [posXs]
  | k :: l => by simp [posXs, posXs_iff (l := l)]
mutual
theorem sameX_refl : ∀ x : Sx, posX x = true → sameX x x = true
  | .mk _ _ li co _ ks, h => by
    simp only [posX, Bool.and_eq_true] at h
    simp only [sameX, beq_self_eq_true, h.1.1, h.1.2, sameXs_refl ks h.2, Bool.and_true]
theorem sameXs_refl : ∀ l : List Sx, posXs l = true → sameXs l l = true
  | [], _ => rfl
  | k :: ks, h => by
    simp only [posXs, Bool.and_eq_true] at h
    simp only [sameXs, sameX_refl k h.1, sameXs_refl ks h.2, Bool.and_true]
end
theorem pos_word (s : ByteArray) : posX (wordM s) = true := by simp [wordM, posX, posXs]
theorem pos_list {l : List Sx} (h : ∀ k ∈ l, posX k = true) : posX (listM l) = true := by
  simp only [listM, posX, posXs_iff.2 h, beq_self_eq_true, Bool.and_true]
theorem pos_words (s : ByteArray) (l : List ByteArray) : posX (wordsM s l) = true := by
  refine pos_list fun k hk => ?_
  obtain ⟨x, _, rfl⟩ := List.mem_map.1 hk
  exact pos_word x
theorem exW_pos : ∀ e : Ex, posX (exW e) = true := by
  refine Ex.ind ?_
  intro op name n args kids ih
  unfold exW
  split
  · simp [posX, posXs]
  · split
    · exact pos_words _ _
    · split
      · rename_i a b
        refine pos_list fun k hk => ?_
        simp only [List.mem_cons, List.not_mem_nil, or_false] at hk
        rcases hk with rfl | rfl | rfl
        · exact pos_word _
        · exact ih a (by simp)
        · exact ih b (by simp)
      · refine pos_list fun k hk => ?_
        simp only [List.mem_cons, List.not_mem_nil, or_false] at hk
        rw [hk]; exact pos_word _
theorem pcall_weak {P : Program} {f : FuncId} {xs ys : List PV} {h : Heap} {K : PV → Heap → Prop} (hab : ∀ (β : Env) (n : Nat) (F : Nat → Prop) (w : World) (vals : List Value), RepL β n F w xs vals → RepL β n F w ys vals) (hc : PCall P f ys h K) : PCall P f xs h K :=
  fun β w vals sm hr => hc β w vals sm (hab _ _ _ _ _ hr)
/-- the zero notation of the text has a nil list -/
theorem same_zero {f : FuncId} {h : Heap} {K : PV → Heap → Prop} (hc : PCall Try.prog f [.imm 6 (Sx.rows [zeroSx]), .imm 6 (Sx.rows [zeroSx])] h K) :
    PCall Try.prog f [.imm 6 [[.sc (.int .i64 0), .sc (.int .i64 0), .sc (.int .i64 0), .sc (.int .i64 0), sPV ⟨#[]⟩, .imm 6 []]], .imm 6 [[.sc (.int .i64 0), .sc (.int .i64 0), .sc (.int .i64 0), .sc (.int .i64 0), sPV ⟨#[]⟩, .sc (.slice none 0 0)]]] h K := by
  refine pcall_weak ?_ hc
  intro β n F w vals hr
  simp only [zeroSx, Sx.rows, Sx.cells]
  match vals, hr with
  | [v1, v2], hr =>
    simp only [RepL, and_true] at hr ⊢
    refine ⟨hr.1, ?_⟩
    have h2 := hr.2
    simp only [Rep, List.length_cons, List.length_nil] at h2 ⊢
    obtain ⟨a, cap, rfl, g1, g2, g3⟩ := h2
    refine ⟨a, cap, rfl, g1, g2, ?_⟩
    rcases g3 with g3 | ⟨b, o, hF, rfl, hR⟩
    · simp at g3
    · refine .inr ⟨b, o, hF, rfl, ?_⟩
      simp only [RepR, RepS, Rep, and_true] at hR ⊢
      obtain ⟨e, c1, c2, c3, c4, c5, v, w1, w2, rfl⟩ := hR
      exact ⟨e, c1, c2, c3, c4, c5, _, w1, w2, none, 0, rfl, Nat.le_refl _, Nat.zero_le _, .inl trivial⟩
  | [], hr => simp [RepL] at hr
  | [_], hr => simp [RepL] at hr
  | _ :: _ :: _ :: _, hr => simp [RepL] at hr
end Go.Proofs.Ytjlkapgpjamnkaa
namespace Go.Proofs.Ytjlkapgpjamnkaa
open Go.AM
set_option maxHeartbeats 2000000
set_option maxRecDepth 20000
theorem rterm_c {h : Heap} {s : ByteArray} (hs : s.size ≤ bigN) : PCall Try.prog 125 [sPV s] h fun r h' => r = .sc (.bool (termB s)) ∧ h' = h := by
  have hs' : s.size ≤ 9223372036854775807 := by unfold bigN at hs; omega
  cases c1 : nameB s with
  | true =>
    have : termB s = true := by simp [termB, c1]
    refine pcall_body (ow := fun _ => false) (wf := fun _ => false) Ty.mixed Try.func125 rfl Ty.hb_125 (by rw [Try.ntmps125]; simp) ?_
    rw [Try.ntmps125, Try.results125]
    repeat' (first | (refine a_seq (fun K hK => ?_)) | (refine a_block ?_) | ((first | refine a_regionS ?_ | refine a_region (fun K hK => ?_) | refine a_ret ?_); simp (maxSteps := 2000000) only [Ty.w, simprocAttr]) | ((first | refine a_skip ?_ | refine a_exit ?_); (try simp only [pst0, simprocAttr])) | (refine a_cond _ (by (try simp (maxSteps := 2000000) only [Ty.w, simprocAttr]); rfl) (fun hb => ?_) (fun hb => ?_) <;> (try simp only [hb0, decide_eq_true_eq, decide_eq_false_iff_not, simprocAttr] at hb) <;> (try (exfalso; omega))) | (with_reducible refine ite_in (fun hb => ?_) (fun hb => ?_) <;> (try simp only [Decidable.not_not] at hb) <;> (try simp only [hb, if_true, if_false, not_false_eq_true, not_true_eq_false, ↓reduceIte]) <;> (try simp only [hb0, decide_eq_true_eq, decide_eq_false_iff_not, simprocAttr] at hb) <;> (try (exfalso; omega))) | ((first | refine hK _ _ ?_ | (clear hK; refine hK _ _ ?_) | (clear hK; clear hK; refine hK _ _ ?_) | (clear hK; clear hK; clear hK; refine hK _ _ ?_)); clear hK; (try simp only [pst0, simprocAttr])) | (rw [if_pos]; rotate_left 1; omega; simp (maxSteps := 2000000) only [Ty.w, simprocAttr]))
    refine owp_useQ (rname_c (s := s) hs') (by (try simp only [Ty.w, simprocAttr, c1]); try rfl) ?_; simp (maxSteps := 2000000) only [Ty.w, simprocAttr, c1]
    repeat' (first | (refine a_seq (fun K hK => ?_)) | (refine a_block ?_) | ((first | refine a_regionS ?_ | refine a_region (fun K hK => ?_) | refine a_ret ?_); simp (maxSteps := 2000000) only [Ty.w, simprocAttr, c1]) | ((first | refine a_skip ?_ | refine a_exit ?_); (try simp only [pst0, simprocAttr])) | (refine a_cond _ (by (try simp (maxSteps := 2000000) only [Ty.w, simprocAttr, c1]); rfl) (fun hb => ?_) (fun hb => ?_) <;> (try simp only [hb0, decide_eq_true_eq, decide_eq_false_iff_not, simprocAttr] at hb) <;> (try (exfalso; omega))) | (with_reducible refine ite_in (fun hb => ?_) (fun hb => ?_) <;> (try simp only [Decidable.not_not] at hb) <;> (try simp only [hb, if_true, if_false, not_false_eq_true, not_true_eq_false, ↓reduceIte]) <;> (try simp only [hb0, decide_eq_true_eq, decide_eq_false_iff_not, simprocAttr] at hb) <;> (try (exfalso; omega))) | ((first | refine hK _ _ ?_ | (clear hK; refine hK _ _ ?_) | (clear hK; clear hK; refine hK _ _ ?_) | (clear hK; clear hK; clear hK; refine hK _ _ ?_)); clear hK; (try simp only [pst0, simprocAttr])) | (rw [if_pos]; rotate_left 1; omega; simp (maxSteps := 2000000) only [Ty.w, simprocAttr, c1]))
    rw [this]
  | false =>
    have : termB s = varB s := by simp [termB, c1]
    refine pcall_body (ow := fun _ => false) (wf := fun _ => false) Ty.mixed Try.func125 rfl Ty.hb_125 (by rw [Try.ntmps125]; simp) ?_
    rw [Try.ntmps125, Try.results125]
    repeat' (first | (refine a_seq (fun K hK => ?_)) | (refine a_block ?_) | ((first | refine a_regionS ?_ | refine a_region (fun K hK => ?_) | refine a_ret ?_); simp (maxSteps := 2000000) only [Ty.w, simprocAttr]) | ((first | refine a_skip ?_ | refine a_exit ?_); (try simp only [pst0, simprocAttr])) | (refine a_cond _ (by (try simp (maxSteps := 2000000) only [Ty.w, simprocAttr]); rfl) (fun hb => ?_) (fun hb => ?_) <;> (try simp only [hb0, decide_eq_true_eq, decide_eq_false_iff_not, simprocAttr] at hb) <;> (try (exfalso; omega))) | (with_reducible refine ite_in (fun hb => ?_) (fun hb => ?_) <;> (try simp only [Decidable.not_not] at hb) <;> (try simp only [hb, if_true, if_false, not_false_eq_true, not_true_eq_false, ↓reduceIte]) <;> (try simp only [hb0, decide_eq_true_eq, decide_eq_false_iff_not, simprocAttr] at hb) <;> (try (exfalso; omega))) | ((first | refine hK _ _ ?_ | (clear hK; refine hK _ _ ?_) | (clear hK; clear hK; refine hK _ _ ?_) | (clear hK; clear hK; clear hK; refine hK _ _ ?_)); clear hK; (try simp only [pst0, simprocAttr])) | (rw [if_pos]; rotate_left 1; omega; simp (maxSteps := 2000000) only [Ty.w, simprocAttr]))
    refine owp_useQ (rname_c (s := s) hs') (by (try simp only [Ty.w, simprocAttr, c1]); try rfl) ?_; simp (maxSteps := 2000000) only [Ty.w, simprocAttr, c1]
    repeat' (first | (refine a_seq (fun K hK => ?_)) | (refine a_block ?_) | ((first | refine a_regionS ?_ | refine a_region (fun K hK => ?_) | refine a_ret ?_); simp (maxSteps := 2000000) only [Ty.w, simprocAttr, c1]) | ((first | refine a_skip ?_ | refine a_exit ?_); (try simp only [pst0, simprocAttr])) | (refine a_cond _ (by (try simp (maxSteps := 2000000) only [Ty.w, simprocAttr, c1]); rfl) (fun hb => ?_) (fun hb => ?_) <;> (try simp only [hb0, decide_eq_true_eq, decide_eq_false_iff_not, simprocAttr] at hb) <;> (try (exfalso; omega))) | (with_reducible refine ite_in (fun hb => ?_) (fun hb => ?_) <;> (try simp only [Decidable.not_not] at hb) <;> (try simp only [hb, if_true, if_false, not_false_eq_true, not_true_eq_false, ↓reduceIte]) <;> (try simp only [hb0, decide_eq_true_eq, decide_eq_false_iff_not, simprocAttr] at hb) <;> (try (exfalso; omega))) | ((first | refine hK _ _ ?_ | (clear hK; refine hK _ _ ?_) | (clear hK; clear hK; refine hK _ _ ?_) | (clear hK; clear hK; clear hK; refine hK _ _ ?_)); clear hK; (try simp only [pst0, simprocAttr])) | (rw [if_pos]; rotate_left 1; omega; simp (maxSteps := 2000000) only [Ty.w, simprocAttr, c1]))
    refine owp_useQ (rvariable_c (s := s) hs') (by (try simp only [Ty.w, simprocAttr, c1]); try rfl) ?_; simp (maxSteps := 2000000) only [Ty.w, simprocAttr, c1]
    repeat' (first | (refine a_seq (fun K hK => ?_)) | (refine a_block ?_) | ((first | refine a_regionS ?_ | refine a_region (fun K hK => ?_) | refine a_ret ?_); simp (maxSteps := 2000000) only [Ty.w, simprocAttr, c1]) | ((first | refine a_skip ?_ | refine a_exit ?_); (try simp only [pst0, simprocAttr])) | (refine a_cond _ (by (try simp (maxSteps := 2000000) only [Ty.w, simprocAttr, c1]); rfl) (fun hb => ?_) (fun hb => ?_) <;> (try simp only [hb0, decide_eq_true_eq, decide_eq_false_iff_not, simprocAttr] at hb) <;> (try (exfalso; omega))) | (with_reducible refine ite_in (fun hb => ?_) (fun hb => ?_) <;> (try simp only [Decidable.not_not] at hb) <;> (try simp only [hb, if_true, if_false, not_false_eq_true, not_true_eq_false, ↓reduceIte]) <;> (try simp only [hb0, decide_eq_true_eq, decide_eq_false_iff_not, simprocAttr] at hb) <;> (try (exfalso; omega))) | ((first | refine hK _ _ ?_ | (clear hK; refine hK _ _ ?_) | (clear hK; clear hK; refine hK _ _ ?_) | (clear hK; clear hK; clear hK; refine hK _ _ ?_)); clear hK; (try simp only [pst0, simprocAttr])) | (rw [if_pos]; rotate_left 1; omega; simp (maxSteps := 2000000) only [Ty.w, simprocAttr, c1]))
    rw [this]
theorem rall_c {h : Heap} {l : List ByteArray} (hl : l.length ≤ bigN) (hs : ∀ s ∈ l, s.size ≤ bigN) : PCall Try.prog 80 [.imm 1 (strRows l)] h fun r h' => r = .sc (.bool (l.all termB)) ∧ h' = h := by
  unfold bigN at hl
  have hlen := strRows_len l
  refine pcall_body (ow := fun _ => false) (wf := fun _ => false) Ty.mixed Try.func80 rfl Ty.hb_80 (by rw [Try.ntmps80]; simp) ?_
  rw [Try.ntmps80, Try.results80]
  repeat' (first | (refine a_seq (fun K hK => ?_)) | (refine a_block ?_) | ((first | refine a_regionS ?_ | refine a_region (fun K hK => ?_) | refine a_ret ?_); simp (maxSteps := 2000000) only [Ty.w, simprocAttr, hlen]) | ((first | refine a_skip ?_ | refine a_exit ?_); (try simp only [pst0, simprocAttr])) | (refine a_cond _ (by (try simp (maxSteps := 2000000) only [Ty.w, simprocAttr, hlen]); rfl) (fun hb => ?_) (fun hb => ?_) <;> (try simp only [hb0, decide_eq_true_eq, decide_eq_false_iff_not, simprocAttr] at hb) <;> (try (exfalso; omega))) | (with_reducible refine ite_in (fun hb => ?_) (fun hb => ?_) <;> (try simp only [Decidable.not_not] at hb) <;> (try simp only [hb, if_true, if_false, not_false_eq_true, not_true_eq_false, ↓reduceIte]) <;> (try simp only [hb0, decide_eq_true_eq, decide_eq_false_iff_not, simprocAttr] at hb) <;> (try (exfalso; omega))) | ((first | refine hK _ _ ?_ | (clear hK; refine hK _ _ ?_) | (clear hK; clear hK; refine hK _ _ ?_) | (clear hK; clear hK; clear hK; refine hK _ _ ?_)); clear hK; (try simp only [pst0, simprocAttr])) | (rw [if_pos]; rotate_left 1; omega; simp (maxSteps := 2000000) only [Ty.w, simprocAttr, hlen]))
  refine a_loop (fun m S h' => h' = h ∧ S 0 = .imm 1 (strRows l) ∧ ∃ k : Nat, S 3 = .sc (.int .i64 k) ∧ k ≤ l.length ∧ m = l.length - k ∧ l.all termB = (l.drop k).all termB) l.length ?_ ?_
  · simp only [Ty.w, simprocAttr]
    exact ⟨0, rfl, by omega, rfl, by simp⟩
  · rintro m S h' ⟨rfl, g0, k, g3, hk, rfl, hinv⟩
    by_cases hlt : k < l.length
    · have hd : decide ((k : Int) < (l.length : Int)) = true := by simp; omega
      have w7 : IntKind.i64.wrap ((k : Int) + 1) = k + 1 := by rw [wrap64 (by omega) (by omega)]
      obtain ⟨w, hx⟩ : ∃ w, l[k]? = some w := ⟨l[k], List.getElem?_eq_getElem hlt⟩
      have hr := strRows_get hx
      have hc := fun h : Heap => rterm_c (h := h) (hs w (List.mem_of_getElem? hx))
      rw [drop_of_get hx, List.all_cons] at hinv
      generalize termB w = b at hc hinv
      cases b with
      | false =>
        rw [Bool.false_and] at hinv
        repeat' (first | (refine a_seq (fun K hK => ?_)) | (refine a_block ?_) | ((first | refine a_regionS ?_ | refine a_region (fun K hK => ?_) | refine a_ret ?_); simp (maxSteps := 2000000) only [Ty.w, simprocAttr, g0, g3, hd, hr]) | ((first | refine a_skip ?_ | refine a_exit ?_); (try simp only [pst0, simprocAttr])) | (refine a_cond _ (by (try simp (maxSteps := 2000000) only [Ty.w, simprocAttr, g0, g3, hd, hr]); rfl) (fun hb => ?_) (fun hb => ?_) <;> (try simp only [hb0, decide_eq_true_eq, decide_eq_false_iff_not, simprocAttr] at hb) <;> (try (exfalso; omega))) | (with_reducible refine ite_in (fun hb => ?_) (fun hb => ?_) <;> (try simp only [Decidable.not_not] at hb) <;> (try simp only [hb, if_true, if_false, not_false_eq_true, not_true_eq_false, ↓reduceIte]) <;> (try simp only [hb0, decide_eq_true_eq, decide_eq_false_iff_not, simprocAttr] at hb) <;> (try (exfalso; omega))) | ((first | refine hK _ _ ?_ | (clear hK; refine hK _ _ ?_) | (clear hK; clear hK; refine hK _ _ ?_) | (clear hK; clear hK; clear hK; refine hK _ _ ?_)); clear hK; (try simp only [pst0, simprocAttr])) | (rw [if_pos]; rotate_left 1; omega; simp (maxSteps := 2000000) only [Ty.w, simprocAttr, g0, g3, hd, hr]))
        refine owp_useQ (hc _) (by (try simp only [Ty.w, simprocAttr, g0, g3, hd, hr, Bool.not_false]); try rfl) ?_; simp (maxSteps := 2000000) only [Ty.w, simprocAttr, g0, g3, hd, hr, Bool.not_false]
        repeat' (first | (refine a_seq (fun K hK => ?_)) | (refine a_block ?_) | ((first | refine a_regionS ?_ | refine a_region (fun K hK => ?_) | refine a_ret ?_); simp (maxSteps := 2000000) only [Ty.w, simprocAttr, g0, g3, Bool.not_false]) | ((first | refine a_skip ?_ | refine a_exit ?_); (try simp only [pst0, simprocAttr])) | (refine a_cond _ (by (try simp (maxSteps := 2000000) only [Ty.w, simprocAttr, g0, g3, Bool.not_false]); rfl) (fun hb => ?_) (fun hb => ?_) <;> (try simp only [hb0, decide_eq_true_eq, decide_eq_false_iff_not, simprocAttr] at hb) <;> (try (exfalso; omega))) | (with_reducible refine ite_in (fun hb => ?_) (fun hb => ?_) <;> (try simp only [Decidable.not_not] at hb) <;> (try simp only [hb, if_true, if_false, not_false_eq_true, not_true_eq_false, ↓reduceIte]) <;> (try simp only [hb0, decide_eq_true_eq, decide_eq_false_iff_not, simprocAttr] at hb) <;> (try (exfalso; omega))) | ((first | refine hK _ _ ?_ | (clear hK; refine hK _ _ ?_) | (clear hK; clear hK; refine hK _ _ ?_) | (clear hK; clear hK; clear hK; refine hK _ _ ?_)); clear hK; (try simp only [pst0, simprocAttr])) | (rw [if_pos]; rotate_left 1; omega; simp (maxSteps := 2000000) only [Ty.w, simprocAttr, g0, g3, Bool.not_false]))
        rw [hinv]
      | true =>
        rw [Bool.true_and] at hinv
        repeat' (first | (refine a_seq (fun K hK => ?_)) | (refine a_block ?_) | ((first | refine a_regionS ?_ | refine a_region (fun K hK => ?_) | refine a_ret ?_); simp (maxSteps := 2000000) only [Ty.w, simprocAttr, g0, g3, hd, hr]) | ((first | refine a_skip ?_ | refine a_exit ?_); (try simp only [pst0, simprocAttr])) | (refine a_cond _ (by (try simp (maxSteps := 2000000) only [Ty.w, simprocAttr, g0, g3, hd, hr]); rfl) (fun hb => ?_) (fun hb => ?_) <;> (try simp only [hb0, decide_eq_true_eq, decide_eq_false_iff_not, simprocAttr] at hb) <;> (try (exfalso; omega))) | (with_reducible refine ite_in (fun hb => ?_) (fun hb => ?_) <;> (try simp only [Decidable.not_not] at hb) <;> (try simp only [hb, if_true, if_false, not_false_eq_true, not_true_eq_false, ↓reduceIte]) <;> (try simp only [hb0, decide_eq_true_eq, decide_eq_false_iff_not, simprocAttr] at hb) <;> (try (exfalso; omega))) | ((first | refine hK _ _ ?_ | (clear hK; refine hK _ _ ?_) | (clear hK; clear hK; refine hK _ _ ?_) | (clear hK; clear hK; clear hK; refine hK _ _ ?_)); clear hK; (try simp only [pst0, simprocAttr])) | (rw [if_pos]; rotate_left 1; omega; simp (maxSteps := 2000000) only [Ty.w, simprocAttr, g0, g3, hd, hr]))
        refine owp_useQ (hc _) (by (try simp only [Ty.w, simprocAttr, g0, g3, hd, hr, Bool.not_true]); try rfl) ?_; simp (maxSteps := 2000000) only [Ty.w, simprocAttr, g0, g3, hd, hr, Bool.not_true]
        repeat' (first | (refine a_seq (fun K hK => ?_)) | (refine a_block ?_) | ((first | refine a_regionS ?_ | refine a_region (fun K hK => ?_) | refine a_ret ?_); simp (maxSteps := 2000000) only [Ty.w, simprocAttr, g0, g3, w7, Bool.not_true]) | ((first | refine a_skip ?_ | refine a_exit ?_); (try simp only [pst0, simprocAttr])) | (refine a_cond _ (by (try simp (maxSteps := 2000000) only [Ty.w, simprocAttr, g0, g3, w7, Bool.not_true]); rfl) (fun hb => ?_) (fun hb => ?_) <;> (try simp only [hb0, decide_eq_true_eq, decide_eq_false_iff_not, simprocAttr] at hb) <;> (try (exfalso; omega))) | (with_reducible refine ite_in (fun hb => ?_) (fun hb => ?_) <;> (try simp only [Decidable.not_not] at hb) <;> (try simp only [hb, if_true, if_false, not_false_eq_true, not_true_eq_false, ↓reduceIte]) <;> (try simp only [hb0, decide_eq_true_eq, decide_eq_false_iff_not, simprocAttr] at hb) <;> (try (exfalso; omega))) | ((first | refine hK _ _ ?_ | (clear hK; refine hK _ _ ?_) | (clear hK; clear hK; refine hK _ _ ?_) | (clear hK; clear hK; clear hK; refine hK _ _ ?_)); clear hK; (try simp only [pst0, simprocAttr])) | (rw [if_pos]; rotate_left 1; omega; simp (maxSteps := 2000000) only [Ty.w, simprocAttr, g0, g3, w7, Bool.not_true]))
        exact ⟨l.length - (k + 1), by omega, k + 1, by simp, by omega, rfl, hinv⟩
    · have hd : decide ((k : Int) < (l.length : Int)) = false := by simp; omega
      rw [List.drop_eq_nil_of_le (by omega)] at hinv
      repeat' (first | (refine a_seq (fun K hK => ?_)) | (refine a_block ?_) | ((first | refine a_regionS ?_ | refine a_region (fun K hK => ?_) | refine a_ret ?_); simp (maxSteps := 2000000) only [Ty.w, simprocAttr, g0, g3, hlen, hd]) | ((first | refine a_skip ?_ | refine a_exit ?_); (try simp only [pst0, simprocAttr])) | (refine a_cond _ (by (try simp (maxSteps := 2000000) only [Ty.w, simprocAttr, g0, g3, hlen, hd]); rfl) (fun hb => ?_) (fun hb => ?_) <;> (try simp only [hb0, decide_eq_true_eq, decide_eq_false_iff_not, simprocAttr] at hb) <;> (try (exfalso; omega))) | (with_reducible refine ite_in (fun hb => ?_) (fun hb => ?_) <;> (try simp only [Decidable.not_not] at hb) <;> (try simp only [hb, if_true, if_false, not_false_eq_true, not_true_eq_false, ↓reduceIte]) <;> (try simp only [hb0, decide_eq_true_eq, decide_eq_false_iff_not, simprocAttr] at hb) <;> (try (exfalso; omega))) | ((first | refine hK _ _ ?_ | (clear hK; refine hK _ _ ?_) | (clear hK; clear hK; refine hK _ _ ?_) | (clear hK; clear hK; clear hK; refine hK _ _ ?_)); clear hK; (try simp only [pst0, simprocAttr])) | (rw [if_pos]; rotate_left 1; omega; simp (maxSteps := 2000000) only [Ty.w, simprocAttr, g0, g3, hlen, hd]))
      rw [hinv]; try rfl
theorem rwd_c {h : Heap} {s : ByteArray} : PCall Try.prog 71 [sPV s] h fun r h' => r = .agg (wordM s).cells ∧ h' = h := by
  refine PCall.frz Ty.hb_71 ?_
  refine pcall_body (ow := fun _ => false) (wf := fun _ => false) Ty.mixed Try.func71 rfl Ty.hb_71 (by rw [Try.ntmps71]; simp) ?_
  rw [Try.ntmps71, Try.results71]
  repeat' (first | (refine a_seq (fun K hK => ?_)) | (refine a_block ?_) | ((first | refine a_regionS ?_ | refine a_region (fun K hK => ?_) | refine a_ret ?_); simp (maxSteps := 2000000) only [Ty.w, simprocAttr]) | ((first | refine a_skip ?_ | refine a_exit ?_); (try simp only [pst0, simprocAttr])) | (refine a_cond _ (by (try simp (maxSteps := 2000000) only [Ty.w, simprocAttr]); rfl) (fun hb => ?_) (fun hb => ?_) <;> (try simp only [hb0, decide_eq_true_eq, decide_eq_false_iff_not, simprocAttr] at hb) <;> (try (exfalso; omega))) | (with_reducible refine ite_in (fun hb => ?_) (fun hb => ?_) <;> (try simp only [Decidable.not_not] at hb) <;> (try simp only [hb, if_true, if_false, not_false_eq_true, not_true_eq_false, ↓reduceIte]) <;> (try simp only [hb0, decide_eq_true_eq, decide_eq_false_iff_not, simprocAttr] at hb) <;> (try (exfalso; omega))) | ((first | refine hK _ _ ?_ | (clear hK; refine hK _ _ ?_) | (clear hK; clear hK; refine hK _ _ ?_) | (clear hK; clear hK; clear hK; refine hK _ _ ?_)); clear hK; (try simp only [pst0, simprocAttr])) | (rw [if_pos]; rotate_left 1; omega; simp (maxSteps := 2000000) only [Ty.w, simprocAttr]))
  refine ⟨?_, ((Grow.refl h).new _).set (Nat.le_refl _) _⟩
  simp only [wordM, Sx.cells, Sx.rows, FrzTo, FrzL]
  exact ⟨_, rfl, rfl, rfl, rfl, rfl, rfl, .inr (.inl ⟨rfl, .inr rfl⟩), trivial⟩
theorem rlist_c {h : Heap} {first : ByteArray} {l : List ByteArray} (hl : l.length ≤ 1048576) : PCall Try.prog 70 [sPV first, .imm 1 (strRows l)] h fun r h' => r = .agg (wordsM first l).cells ∧ h' = h := by
  refine PCall.frz Ty.hb_70 ?_
  have hll := strRows_len l
  have hw : ∀ (s : ByteArray) (h : Heap), PCall Try.prog 71 [sPV s] h fun r h' => r = .agg (wordM s).cells ∧ h' = h := fun s h => rwd_c
  simp only [wordM, Sx.cells, Sx.rows] at hw
  refine pcall_body (ow := fun t => t == 9) (wf := fun _ => false) Ty.mixed Try.func70 rfl Ty.hb_70 (by rw [Try.ntmps70]; simp) ?_
  rw [Try.ntmps70, Try.results70]
  repeat' (first | (refine a_seq (fun K hK => ?_)) | (refine a_block ?_) | ((first | refine a_regionS ?_ | refine a_region (fun K hK => ?_) | refine a_ret ?_); simp (maxSteps := 2000000) only [Ty.w, simprocAttr]) | ((first | refine a_skip ?_ | refine a_exit ?_); (try simp only [pst0, simprocAttr])) | (refine a_cond _ (by (try simp (maxSteps := 2000000) only [Ty.w, simprocAttr]); rfl) (fun hb => ?_) (fun hb => ?_) <;> (try simp only [hb0, decide_eq_true_eq, decide_eq_false_iff_not, simprocAttr] at hb) <;> (try (exfalso; omega))) | (with_reducible refine ite_in (fun hb => ?_) (fun hb => ?_) <;> (try simp only [Decidable.not_not] at hb) <;> (try simp only [hb, if_true, if_false, not_false_eq_true, not_true_eq_false, ↓reduceIte]) <;> (try simp only [hb0, decide_eq_true_eq, decide_eq_false_iff_not, simprocAttr] at hb) <;> (try (exfalso; omega))) | ((first | refine hK _ _ ?_ | (clear hK; refine hK _ _ ?_) | (clear hK; clear hK; refine hK _ _ ?_) | (clear hK; clear hK; clear hK; refine hK _ _ ?_)); clear hK; (try simp only [pst0, simprocAttr])) | (rw [if_pos]; rotate_left 1; omega; simp (maxSteps := 2000000) only [Ty.w, simprocAttr]))
  refine owp_useQ (hw first _) (by (try simp only [Ty.w, simprocAttr, ]); try rfl) ?_; simp (maxSteps := 2000000) only [Ty.w, simprocAttr, ]
  repeat' (first | (refine a_seq (fun K hK => ?_)) | (refine a_block ?_) | ((first | refine a_regionS ?_ | refine a_region (fun K hK => ?_) | refine a_ret ?_); simp (maxSteps := 2000000) only [Ty.w, simprocAttr, hll]) | ((first | refine a_skip ?_ | refine a_exit ?_); (try simp only [pst0, simprocAttr])) | (refine a_cond _ (by (try simp (maxSteps := 2000000) only [Ty.w, simprocAttr, hll]); rfl) (fun hb => ?_) (fun hb => ?_) <;> (try simp only [hb0, decide_eq_true_eq, decide_eq_false_iff_not, simprocAttr] at hb) <;> (try (exfalso; omega))) | (with_reducible refine ite_in (fun hb => ?_) (fun hb => ?_) <;> (try simp only [Decidable.not_not] at hb) <;> (try simp only [hb, if_true, if_false, not_false_eq_true, not_true_eq_false, ↓reduceIte]) <;> (try simp only [hb0, decide_eq_true_eq, decide_eq_false_iff_not, simprocAttr] at hb) <;> (try (exfalso; omega))) | ((first | refine hK _ _ ?_ | (clear hK; refine hK _ _ ?_) | (clear hK; clear hK; refine hK _ _ ?_) | (clear hK; clear hK; clear hK; refine hK _ _ ?_)); clear hK; (try simp only [pst0, simprocAttr])) | (rw [if_pos]; rotate_left 1; omega; simp (maxSteps := 2000000) only [Ty.w, simprocAttr, hll]))
  refine a_loop (fun m S h' => S 1 = .imm 1 (strRows l) ∧ S 4 = .ptr h.next 0 0 ∧ ∃ k id : Nat, S 6 = .sc (.int .i64 k) ∧ S 5 = .own id 0 (k + 1) ∧ k ≤ l.length ∧ m = l.length - k ∧ Grow h h' ∧ h.next < id ∧ id < h'.next ∧
    h'.obj h.next = some (.arr 6 [[.sc (.int .i64 0), .sc (.int .i64 0), .sc (.int .i64 0), .sc (.int .i64 0), .sc (.string ⟨#[]⟩), .sc (.slice none 0 0)]]) ∧ h'.obj id = some (.arr 6 (Sx.rows ((first :: l.take k).map wordM)))) l.length ?_ ?_
  · simp only [Ty.w, simprocAttr]
    have e1 : ¬ h.next = h.next + 1 := by omega
    refine ⟨0, h.next + 1, rfl, rfl, by omega, rfl, ((Grow.refl h).new _).new _, by omega, by simp [Heap.new], ?_, ?_⟩
    · simp [Heap.new]
    · simp [Heap.new, wordM, Sx.rows, Sx.cells]
  · rintro m S h' ⟨g1, g4, k, id, g6, g5, hk, rfl, hg, hlo, hhi, o1, o3⟩
    by_cases hlt : k < l.length
    · have hd : decide ((k : Int) < (l.length : Int)) = true := by simp; omega
      have w7 : IntKind.i64.wrap ((k : Int) + 1) = k + 1 := by rw [wrap64 (by omega) (by omega)]
      obtain ⟨s, hx⟩ : ∃ s, l[k]? = some s := ⟨_, List.getElem?_eq_getElem hlt⟩
      have hr := strRows_get hx
      have hrl : (Sx.rows ((first :: l.take k).map wordM)).length = k + 1 := by rw [Sx.rows_len]; simp; omega
      generalize hR : Sx.rows ((first :: l.take k).map wordM) = R at o3 hrl
      have htk : List.take (k + 1) R = R := List.take_of_length_le (by omega)
      have hb : (k + 1 + 1) * 72 ≤ 140737488355328 := by omega
      repeat' (first | (refine a_seq (fun K hK => ?_)) | (refine a_block ?_) | ((first | refine a_regionS ?_ | refine a_region (fun K hK => ?_) | refine a_ret ?_); simp (maxSteps := 2000000) only [Ty.w, simprocAttr, g1, g4, g5, g6, hll, hd, hr, w7, o3]) | ((first | refine a_skip ?_ | refine a_exit ?_); (try simp only [pst0, simprocAttr])) | (refine a_cond _ (by (try simp (maxSteps := 2000000) only [Ty.w, simprocAttr, g1, g4, g5, g6, hll, hd, hr, w7, o3]); rfl) (fun hb => ?_) (fun hb => ?_) <;> (try simp only [hb0, decide_eq_true_eq, decide_eq_false_iff_not, simprocAttr] at hb) <;> (try (exfalso; omega))) | (with_reducible refine ite_in (fun hb => ?_) (fun hb => ?_) <;> (try simp only [Decidable.not_not] at hb) <;> (try simp only [hb, if_true, if_false, not_false_eq_true, not_true_eq_false, ↓reduceIte]) <;> (try simp only [hb0, decide_eq_true_eq, decide_eq_false_iff_not, simprocAttr] at hb) <;> (try (exfalso; omega))) | ((first | refine hK _ _ ?_ | (clear hK; refine hK _ _ ?_) | (clear hK; clear hK; refine hK _ _ ?_) | (clear hK; clear hK; clear hK; refine hK _ _ ?_)); clear hK; (try simp only [pst0, simprocAttr])) | (rw [if_pos]; rotate_left 1; omega; simp (maxSteps := 2000000) only [Ty.w, simprocAttr, g1, g4, g5, g6, hll, hd, hr, w7, o3]))
      refine owp_useQ (hw s _) (by (try simp only [Ty.w, simprocAttr, g1, g4, g5, g6, hll, hd, hr, w7, o3, hrl, htk, hb]); try rfl) ?_; simp (maxSteps := 2000000) only [Ty.w, simprocAttr, g1, g4, g5, g6, hll, hd, hr, w7, o3, hrl, htk, hb]
      repeat' (first | (refine a_seq (fun K hK => ?_)) | (refine a_block ?_) | ((first | refine a_regionS ?_ | refine a_region (fun K hK => ?_) | refine a_ret ?_); simp (maxSteps := 2000000) only [Ty.w, simprocAttr, g1, g4, g5, g6, w7, o3, hrl, htk, hb]) | ((first | refine a_skip ?_ | refine a_exit ?_); (try simp only [pst0, simprocAttr])) | (refine a_cond _ (by (try simp (maxSteps := 2000000) only [Ty.w, simprocAttr, g1, g4, g5, g6, w7, o3, hrl, htk, hb]); rfl) (fun hb => ?_) (fun hb => ?_) <;> (try simp only [hb0, decide_eq_true_eq, decide_eq_false_iff_not, simprocAttr] at hb) <;> (try (exfalso; omega))) | (with_reducible refine ite_in (fun hb => ?_) (fun hb => ?_) <;> (try simp only [Decidable.not_not] at hb) <;> (try simp only [hb, if_true, if_false, not_false_eq_true, not_true_eq_false, ↓reduceIte]) <;> (try simp only [hb0, decide_eq_true_eq, decide_eq_false_iff_not, simprocAttr] at hb) <;> (try (exfalso; omega))) | ((first | refine hK _ _ ?_ | (clear hK; refine hK _ _ ?_) | (clear hK; clear hK; refine hK _ _ ?_) | (clear hK; clear hK; clear hK; refine hK _ _ ?_)); clear hK; (try simp only [pst0, simprocAttr])) | (rw [if_pos]; rotate_left 1; omega; simp (maxSteps := 2000000) only [Ty.w, simprocAttr, g1, g4, g5, g6, w7, o3, hrl, htk, hb]))
      refine ⟨l.length - (k + 1), by omega, k + 1, h'.next, by simp, rfl, by omega, rfl, (hg.kill (by omega)).new _, by omega, by simp [Heap.new, Heap.kill], ?_, ?_⟩
      · have a2 : ¬ h.next = h'.next := by omega
        have a3 : ¬ h.next = id := by omega
        simp only [Heap.new, Heap.kill, a2, a3, if_false]
        exact o1
      · simp only [Heap.new, Heap.kill, if_true]
        rw [List.take_add_one, hx, ← hR]
        simp only [Sx.rows_map, List.map_cons, List.map_append, List.map_nil, Option.toList_some, List.cons_append, wordM, Sx.cells]
    · have hd : decide ((k : Int) < (l.length : Int)) = false := by simp; omega
      have hke : k = l.length := by omega
      subst hke
      rw [List.take_length] at o3
      repeat' (first | (refine a_seq (fun K hK => ?_)) | (refine a_block ?_) | ((first | refine a_regionS ?_ | refine a_region (fun K hK => ?_) | refine a_ret ?_); simp (maxSteps := 2000000) only [Ty.w, simprocAttr, g1, g4, g5, g6, hll, hd, o1, o3]) | ((first | refine a_skip ?_ | refine a_exit ?_); (try simp only [pst0, simprocAttr])) | (refine a_cond _ (by (try simp (maxSteps := 2000000) only [Ty.w, simprocAttr, g1, g4, g5, g6, hll, hd, o1, o3]); rfl) (fun hb => ?_) (fun hb => ?_) <;> (try simp only [hb0, decide_eq_true_eq, decide_eq_false_iff_not, simprocAttr] at hb) <;> (try (exfalso; omega))) | (with_reducible refine ite_in (fun hb => ?_) (fun hb => ?_) <;> (try simp only [Decidable.not_not] at hb) <;> (try simp only [hb, if_true, if_false, not_false_eq_true, not_true_eq_false, ↓reduceIte]) <;> (try simp only [hb0, decide_eq_true_eq, decide_eq_false_iff_not, simprocAttr] at hb) <;> (try (exfalso; omega))) | ((first | refine hK _ _ ?_ | (clear hK; refine hK _ _ ?_) | (clear hK; clear hK; refine hK _ _ ?_) | (clear hK; clear hK; clear hK; refine hK _ _ ?_)); clear hK; (try simp only [pst0, simprocAttr])) | (rw [if_pos]; rotate_left 1; omega; simp (maxSteps := 2000000) only [Ty.w, simprocAttr, g1, g4, g5, g6, hll, hd, o1, o3]))
      refine ⟨?_, hg.set (Nat.le_refl _) _⟩
      simp only [wordsM, listM, Sx.cells, FrzTo, FrzL]
      refine ⟨_, rfl, rfl, rfl, rfl, rfl, rfl, .inr (.inr ⟨id, 0, l.length + 1, Sx.rows ((first :: l).map wordM), rfl, by omega, ?_, ?_, ?_⟩), trivial⟩
      · simp only [Heap.set]; rw [if_neg (by omega)]; exact o3
      · rw [Sx.rows_len]; simp
      · rw [List.drop_zero, List.take_of_length_le (by rw [Sx.rows_len]; simp)]
        exact sxs_frz _ _ _
theorem rwriteE_c : ∀ e : Ex, e.small → shapedE e = true → ∀ h : Heap, PCall Try.prog 43 [.agg e.cells] h fun r h' => r = .agg (exW e).cells ∧ h' = h := by
  refine Ex.ind ?_
  intro op name n args kids ih hsm hsh h
  simp only [Ex.small] at hsm
  obtain ⟨hal, hks⟩ := hsm
  rw [Ex.smalls_iff] at hks
  unfold shapedE at hsh
  unfold exW
  refine PCall.frz Ty.hb_43 ?_
  cases c1 : bEq op opNum with
  | true =>
    have c1' : (op.data.toList == (#[110, 117, 109, 98, 101, 114] : Array UInt8).toList) = true := c1
    simp only [if_true, Ex.cells]
    refine pcall_body (ow := fun _ => false) (wf := fun _ => false) Ty.mixed Try.func43 rfl Ty.hb_43 (by rw [Try.ntmps43]; simp) ?_
    rw [Try.ntmps43, Try.results43]
    repeat' (first | (refine a_seq (fun K hK => ?_)) | (refine a_block ?_) | ((first | refine a_regionS ?_ | refine a_region (fun K hK => ?_) | refine a_ret ?_); simp (maxSteps := 2000000) only [Ty.w, simprocAttr, c1']) | ((first | refine a_skip ?_ | refine a_exit ?_); (try simp only [pst0, simprocAttr])) | (refine a_cond _ (by (try simp (maxSteps := 2000000) only [Ty.w, simprocAttr, c1']); rfl) (fun hb => ?_) (fun hb => ?_) <;> (try simp only [hb0, decide_eq_true_eq, decide_eq_false_iff_not, simprocAttr] at hb) <;> (try (exfalso; omega))) | (with_reducible refine ite_in (fun hb => ?_) (fun hb => ?_) <;> (try simp only [Decidable.not_not] at hb) <;> (try simp only [hb, if_true, if_false, not_false_eq_true, not_true_eq_false, ↓reduceIte]) <;> (try simp only [hb0, decide_eq_true_eq, decide_eq_false_iff_not, simprocAttr] at hb) <;> (try (exfalso; omega))) | ((first | refine hK _ _ ?_ | (clear hK; refine hK _ _ ?_) | (clear hK; clear hK; refine hK _ _ ?_) | (clear hK; clear hK; clear hK; refine hK _ _ ?_)); clear hK; (try simp only [pst0, simprocAttr])) | (rw [if_pos]; rotate_left 1; omega; simp (maxSteps := 2000000) only [Ty.w, simprocAttr, c1']))
    refine ⟨?_, ((Grow.refl h).new _).set (Nat.le_refl _) _⟩
    simp only [Sx.cells, Sx.rows, FrzTo, FrzL]
    exact ⟨_, rfl, rfl, rfl, rfl, rfl, rfl, .inr (.inl ⟨rfl, .inr rfl⟩), trivial⟩
  | false =>
    have c1' : (op.data.toList == (#[110, 117, 109, 98, 101, 114] : Array UInt8).toList) = false := c1
    rw [c1] at hsh
    simp only [Bool.false_eq_true, if_false] at hsh ⊢
    cases c2 : bEq op opFlu with
    | true =>
      have c2' : (op.data.toList == (#[102, 108, 117, 101, 110, 116] : Array UInt8).toList) = true := c2
      have hw := fun h : Heap => rlist_c (h := h) (first := name) hal
      have hfz := fun (n : Nat) (h : Heap) => sx_frz n h (wordsM name args)
      simp only [if_true, Ex.cells]
      generalize wordsM name args = X at hw hfz
      obtain ⟨ki, va, li, co, te, ks⟩ := X
      simp only [Sx.cells] at hw hfz ⊢
      refine pcall_body (ow := fun _ => false) (wf := fun _ => false) Ty.mixed Try.func43 rfl Ty.hb_43 (by rw [Try.ntmps43]; simp) ?_
      rw [Try.ntmps43, Try.results43]
      repeat' (first | (refine a_seq (fun K hK => ?_)) | (refine a_block ?_) | ((first | refine a_regionS ?_ | refine a_region (fun K hK => ?_) | refine a_ret ?_); simp (maxSteps := 2000000) only [Ty.w, simprocAttr, c1', c2']) | ((first | refine a_skip ?_ | refine a_exit ?_); (try simp only [pst0, simprocAttr])) | (refine a_cond _ (by (try simp (maxSteps := 2000000) only [Ty.w, simprocAttr, c1', c2']); rfl) (fun hb => ?_) (fun hb => ?_) <;> (try simp only [hb0, decide_eq_true_eq, decide_eq_false_iff_not, simprocAttr] at hb) <;> (try (exfalso; omega))) | (with_reducible refine ite_in (fun hb => ?_) (fun hb => ?_) <;> (try simp only [Decidable.not_not] at hb) <;> (try simp only [hb, if_true, if_false, not_false_eq_true, not_true_eq_false, ↓reduceIte]) <;> (try simp only [hb0, decide_eq_true_eq, decide_eq_false_iff_not, simprocAttr] at hb) <;> (try (exfalso; omega))) | ((first | refine hK _ _ ?_ | (clear hK; refine hK _ _ ?_) | (clear hK; clear hK; refine hK _ _ ?_) | (clear hK; clear hK; clear hK; refine hK _ _ ?_)); clear hK; (try simp only [pst0, simprocAttr])) | (rw [if_pos]; rotate_left 1; omega; simp (maxSteps := 2000000) only [Ty.w, simprocAttr, c1', c2']))
      refine owp_useQ (hw _) (by (try simp only [Ty.w, simprocAttr, c1', c2']); try rfl) ?_; simp (maxSteps := 2000000) only [Ty.w, simprocAttr, c1', c2']
      repeat' (first | (refine a_seq (fun K hK => ?_)) | (refine a_block ?_) | ((first | refine a_regionS ?_ | refine a_region (fun K hK => ?_) | refine a_ret ?_); simp (maxSteps := 2000000) only [Ty.w, simprocAttr]) | ((first | refine a_skip ?_ | refine a_exit ?_); (try simp only [pst0, simprocAttr])) | (refine a_cond _ (by (try simp (maxSteps := 2000000) only [Ty.w, simprocAttr]); rfl) (fun hb => ?_) (fun hb => ?_) <;> (try simp only [hb0, decide_eq_true_eq, decide_eq_false_iff_not, simprocAttr] at hb) <;> (try (exfalso; omega))) | (with_reducible refine ite_in (fun hb => ?_) (fun hb => ?_) <;> (try simp only [Decidable.not_not] at hb) <;> (try simp only [hb, if_true, if_false, not_false_eq_true, not_true_eq_false, ↓reduceIte]) <;> (try simp only [hb0, decide_eq_true_eq, decide_eq_false_iff_not, simprocAttr] at hb) <;> (try (exfalso; omega))) | ((first | refine hK _ _ ?_ | (clear hK; refine hK _ _ ?_) | (clear hK; clear hK; refine hK _ _ ?_) | (clear hK; clear hK; clear hK; refine hK _ _ ?_)); clear hK; (try simp only [pst0, simprocAttr])) | (rw [if_pos]; rotate_left 1; omega; simp (maxSteps := 2000000) only [Ty.w, simprocAttr]))
      refine ⟨?_, ((Grow.refl h).new _).set (Nat.le_refl _) _⟩
      simp only [FrzTo]
      exact ⟨_, rfl, hfz _ _⟩
    | false =>
      have c2' : (op.data.toList == (#[102, 108, 117, 101, 110, 116] : Array UInt8).toList) = false := c2
      rw [c2] at hsh
      simp only [Bool.false_eq_true, if_false] at hsh ⊢
      split at hsh
      case isFalse => simp at hsh
      simp only [Bool.and_eq_true] at hsh
      obtain ⟨⟨⟨_, _⟩, _⟩, hsh⟩ := hsh
      split at hsh
      case h_2 => simp at hsh
      rename_i a b
      simp only [Bool.and_eq_true] at hsh
      have ca := ih a (by simp) (hks a (by simp)) hsh.1
      have cb := ih b (by simp) (hks b (by simp)) hsh.2
      have hw := fun h : Heap => rwd_c (h := h) (s := op)
      have hfz := fun (n : Nat) (h : Heap) => sx_frz n h (listM [wordM op, exW a, exW b])
      generalize exW a = xa at ca hfz ⊢
      generalize exW b = xb at cb hfz ⊢
      clear ih hks hsh
      obtain ⟨aop, aname, an, aargs, akids⟩ := a
      obtain ⟨bop, bname, bn, bargs, bkids⟩ := b
      obtain ⟨ki, va, li, co, te, ks⟩ := xa
      obtain ⟨ki2, va2, li2, co2, te2, ks2⟩ := xb
      simp only [Ex.cells, Ex.rows, listM, Sx.cells, Sx.rows, wordM] at ca cb hw hfz ⊢
      refine pcall_body (ow := fun _ => false) (wf := fun _ => false) Ty.mixed Try.func43 rfl Ty.hb_43 (by rw [Try.ntmps43]; simp) ?_
      rw [Try.ntmps43, Try.results43]
      repeat' (first | (refine a_seq (fun K hK => ?_)) | (refine a_block ?_) | ((first | refine a_regionS ?_ | refine a_drawS (by decide +kernel) ?_ | refine a_region (fun K hK => ?_) | refine a_draw (by decide +kernel) (fun K hK => ?_) | refine a_ret ?_); simp (maxSteps := 2000000) only [Ty.w, simprocAttr, c1', c2']) | ((first | refine a_skip ?_ | refine a_exit ?_); (try simp only [pst0, simprocAttr])) | (refine a_cond _ (by (try simp (maxSteps := 2000000) only [Ty.w, simprocAttr, c1', c2']); rfl) (fun hb => ?_) (fun hb => ?_) <;> (try simp only [hb0, decide_eq_true_eq, decide_eq_false_iff_not, simprocAttr] at hb) <;> (try (exfalso; omega))) | (with_reducible refine ite_in (fun hb => ?_) (fun hb => ?_) <;> (try simp only [Decidable.not_not] at hb) <;> (try simp only [hb, if_true, if_false, not_false_eq_true, not_true_eq_false, ↓reduceIte]) <;> (try simp only [hb0, decide_eq_true_eq, decide_eq_false_iff_not, simprocAttr] at hb) <;> (try (exfalso; omega))) | ((first | refine hK _ _ ?_ | (clear hK; refine hK _ _ ?_) | (clear hK; clear hK; refine hK _ _ ?_) | (clear hK; clear hK; clear hK; refine hK _ _ ?_)); clear hK; (try simp only [pst0, simprocAttr])) | ((first | with_reducible refine a_past _ rfl (by decide +kernel) ?_ | (with_reducible refine a_past2 (by simp only [List.forall_mem_cons, Ty.w, simprocAttr, c1', c2']; (repeat' apply And.intro) <;> first | trivial | exact .inl (by decide +kernel)) ?_)); try simp (maxSteps := 2000000) only [Ty.w, simprocAttr, c1', c2']) | (rw [if_pos]; rotate_left 1; omega; simp (maxSteps := 2000000) only [Ty.w, simprocAttr, c1', c2']))
      (first | refine a_dcall0 (hw _) (by (try simp only [Ty.w, simprocAttr, ]); try rfl) ?_ | refine a_dcallA (hw _) (by (try simp only [Ty.w, simprocAttr, ]); try rfl) (by simp only [Ty.w, simprocAttr, ]; try trivial) ?_); simp (maxSteps := 2000000) only [Ty.w, simprocAttr, Option.getD_some, ]
      repeat' (first | (refine a_seq (fun K hK => ?_)) | (refine a_block ?_) | ((first | refine a_regionS ?_ | refine a_drawS (by decide +kernel) ?_ | refine a_region (fun K hK => ?_) | refine a_draw (by decide +kernel) (fun K hK => ?_) | refine a_ret ?_); simp (maxSteps := 2000000) only [Ty.w, simprocAttr]) | ((first | refine a_skip ?_ | refine a_exit ?_); (try simp only [pst0, simprocAttr])) | (refine a_cond _ (by (try simp (maxSteps := 2000000) only [Ty.w, simprocAttr]); rfl) (fun hb => ?_) (fun hb => ?_) <;> (try simp only [hb0, decide_eq_true_eq, decide_eq_false_iff_not, simprocAttr] at hb) <;> (try (exfalso; omega))) | (with_reducible refine ite_in (fun hb => ?_) (fun hb => ?_) <;> (try simp only [Decidable.not_not] at hb) <;> (try simp only [hb, if_true, if_false, not_false_eq_true, not_true_eq_false, ↓reduceIte]) <;> (try simp only [hb0, decide_eq_true_eq, decide_eq_false_iff_not, simprocAttr] at hb) <;> (try (exfalso; omega))) | ((first | refine hK _ _ ?_ | (clear hK; refine hK _ _ ?_) | (clear hK; clear hK; refine hK _ _ ?_) | (clear hK; clear hK; clear hK; refine hK _ _ ?_)); clear hK; (try simp only [pst0, simprocAttr])) | ((first | with_reducible refine a_past _ rfl (by decide +kernel) ?_ | (with_reducible refine a_past2 (by simp only [List.forall_mem_cons, Ty.w, simprocAttr]; (repeat' apply And.intro) <;> first | trivial | exact .inl (by decide +kernel)) ?_)); try simp (maxSteps := 2000000) only [Ty.w, simprocAttr]) | (rw [if_pos]; rotate_left 1; omega; simp (maxSteps := 2000000) only [Ty.w, simprocAttr]))
      (first | refine a_dcall0 (ca _) (by (try simp only [Ty.w, simprocAttr, ]); try rfl) ?_ | refine a_dcallA (ca _) (by (try simp only [Ty.w, simprocAttr, ]); try rfl) (by simp only [Ty.w, simprocAttr, ]; try trivial) ?_); simp (maxSteps := 2000000) only [Ty.w, simprocAttr, Option.getD_some, ]
      repeat' (first | (refine a_seq (fun K hK => ?_)) | (refine a_block ?_) | ((first | refine a_regionS ?_ | refine a_drawS (by decide +kernel) ?_ | refine a_region (fun K hK => ?_) | refine a_draw (by decide +kernel) (fun K hK => ?_) | refine a_ret ?_); simp (maxSteps := 2000000) only [Ty.w, simprocAttr]) | ((first | refine a_skip ?_ | refine a_exit ?_); (try simp only [pst0, simprocAttr])) | (refine a_cond _ (by (try simp (maxSteps := 2000000) only [Ty.w, simprocAttr]); rfl) (fun hb => ?_) (fun hb => ?_) <;> (try simp only [hb0, decide_eq_true_eq, decide_eq_false_iff_not, simprocAttr] at hb) <;> (try (exfalso; omega))) | (with_reducible refine ite_in (fun hb => ?_) (fun hb => ?_) <;> (try simp only [Decidable.not_not] at hb) <;> (try simp only [hb, if_true, if_false, not_false_eq_true, not_true_eq_false, ↓reduceIte]) <;> (try simp only [hb0, decide_eq_true_eq, decide_eq_false_iff_not, simprocAttr] at hb) <;> (try (exfalso; omega))) | ((first | refine hK _ _ ?_ | (clear hK; refine hK _ _ ?_) | (clear hK; clear hK; refine hK _ _ ?_) | (clear hK; clear hK; clear hK; refine hK _ _ ?_)); clear hK; (try simp only [pst0, simprocAttr])) | ((first | with_reducible refine a_past _ rfl (by decide +kernel) ?_ | (with_reducible refine a_past2 (by simp only [List.forall_mem_cons, Ty.w, simprocAttr]; (repeat' apply And.intro) <;> first | trivial | exact .inl (by decide +kernel)) ?_)); try simp (maxSteps := 2000000) only [Ty.w, simprocAttr]) | (rw [if_pos]; rotate_left 1; omega; simp (maxSteps := 2000000) only [Ty.w, simprocAttr]))
      (first | refine a_dcall0 (cb _) (by (try simp only [Ty.w, simprocAttr, ]); try rfl) ?_ | refine a_dcallA (cb _) (by (try simp only [Ty.w, simprocAttr, ]); try rfl) (by simp only [Ty.w, simprocAttr, ]; try trivial) ?_); simp (maxSteps := 2000000) only [Ty.w, simprocAttr, Option.getD_some, ]
      repeat' (first | (refine a_seq (fun K hK => ?_)) | (refine a_block ?_) | ((first | refine a_regionS ?_ | refine a_drawS (by decide +kernel) ?_ | refine a_region (fun K hK => ?_) | refine a_draw (by decide +kernel) (fun K hK => ?_) | refine a_ret ?_); simp (maxSteps := 2000000) only [Ty.w, simprocAttr]) | ((first | refine a_skip ?_ | refine a_exit ?_); (try simp only [pst0, simprocAttr])) | (refine a_cond _ (by (try simp (maxSteps := 2000000) only [Ty.w, simprocAttr]); rfl) (fun hb => ?_) (fun hb => ?_) <;> (try simp only [hb0, decide_eq_true_eq, decide_eq_false_iff_not, simprocAttr] at hb) <;> (try (exfalso; omega))) | (with_reducible refine ite_in (fun hb => ?_) (fun hb => ?_) <;> (try simp only [Decidable.not_not] at hb) <;> (try simp only [hb, if_true, if_false, not_false_eq_true, not_true_eq_false, ↓reduceIte]) <;> (try simp only [hb0, decide_eq_true_eq, decide_eq_false_iff_not, simprocAttr] at hb) <;> (try (exfalso; omega))) | ((first | refine hK _ _ ?_ | (clear hK; refine hK _ _ ?_) | (clear hK; clear hK; refine hK _ _ ?_) | (clear hK; clear hK; clear hK; refine hK _ _ ?_)); clear hK; (try simp only [pst0, simprocAttr])) | ((first | with_reducible refine a_past _ rfl (by decide +kernel) ?_ | (with_reducible refine a_past2 (by simp only [List.forall_mem_cons, Ty.w, simprocAttr]; (repeat' apply And.intro) <;> first | trivial | exact .inl (by decide +kernel)) ?_)); try simp (maxSteps := 2000000) only [Ty.w, simprocAttr]) | (rw [if_pos]; rotate_left 1; omega; simp (maxSteps := 2000000) only [Ty.w, simprocAttr]))
      refine ⟨?_, ((Grow.refl h).new _).set (Nat.le_refl _) _⟩
      simp only [FrzTo]
      exact ⟨_, rfl, hfz _ _⟩
end Go.Proofs.Ytjlkapgpjamnkaa
