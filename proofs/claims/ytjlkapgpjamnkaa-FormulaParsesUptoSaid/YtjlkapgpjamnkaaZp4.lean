/- What the claim rests on, part 4: the abstract machine, contracts of the functions, plain data. -/
import Derived.Test.YtjlkapgpjamnkaaZp3
set_option linter.unusedVariables false
set_option linter.unusedSimpArgs false
set_option linter.unusedSectionVars false
namespace Go.AM
mutual
def Ex.small : Ex → Prop
 | .mk _ _ _ args kids => args.length ≤ 1048576 ∧ Ex.smalls kids
def Ex.smalls : List Ex → Prop
 | [] => True
 | k :: ks => k.small ∧ Ex.smalls ks
end
theorem Ex.smalls_iff : {l : List Ex} → (Ex.smalls l ↔ ∀ k ∈ l, k.small)
 | [] => by simp [Ex.smalls]
 | k :: ks => by simp [Ex.smalls, Ex.smalls_iff (l := ks)]
end Go.AM
namespace Go.Proofs.Ytjlkapgpjamnkaa
open Go.AM
set_option maxHeartbeats 2000000
set_option maxRecDepth 20000
def opNum : ByteArray := ⟨#[110, 117, 109, 98, 101, 114]⟩
def opFlu : ByteArray := ⟨#[102, 108, 117, 101, 110, 116]⟩
def opPls : ByteArray := ⟨#[43]⟩
def opMin : ByteArray := ⟨#[45]⟩
def opTim : ByteArray := ⟨#[42]⟩
def emptyB (s : ByteArray) : Bool := bEq s ⟨#[]⟩
def termB (s : ByteArray) : Bool := nameB s || varB s
def inNum (n : Int) : Bool := decide (-1099511627776 ≤ n) && decide (n ≤ 1099511627776)
def shapedE : Ex → Bool
 | .mk op name n args kids =>
  if bEq op opNum then emptyB name && args.isEmpty && kids.isEmpty && inNum n
  else if bEq op opFlu then decide (n = 0) && kids.isEmpty && nameB name && args.all termB
  else if bEq op opPls || bEq op opMin || bEq op opTim then decide (n = 0) && emptyB name && args.isEmpty && (match kids with
   | [a, b] => shapedE a && shapedE b
   | _ => false)
  else false
termination_by e => SizeOf.sizeOf e
decreasing_by all_goals (simp_wf; omega)
def formedM : Ex → Nat → Nat → Bool × Nat
 | .mk op name n args kids, d, c =>
  if c + 1 ≤ 4096 ∧ d ≤ 32 then
   if bEq op opNum then (emptyB name && args.isEmpty && kids.isEmpty && inNum n, c + 1)
   else if bEq op opFlu then (decide (n = 0) && kids.isEmpty && nameB name && args.all termB, c + 1)
   else if bEq op opPls || bEq op opMin || bEq op opTim then
    (if (decide (n = 0) && emptyB name && args.isEmpty) = true then (match kids with
     | [a, b] => (match formedM a (d + 1) (c + 1) with
      | (true, c') => formedM b (d + 1) c'
      | (false, c') => (false, c'))
     | _ => (false, c + 1)) else (false, c + 1))
   else (false, c + 1)
  else (false, c + 1)
termination_by e => SizeOf.sizeOf e
decreasing_by all_goals (simp_wf; omega)
def exW : Ex → Sx
 | .mk op name n args kids =>
  if bEq op opNum then .mk 2 n 0 0 ⟨#[]⟩ []
  else if bEq op opFlu then wordsM name args
  else match kids with
   | [a, b] => listM [wordM op, exW a, exW b]
   | _ => listM [wordM op]
termination_by e => SizeOf.sizeOf e
decreasing_by all_goals (simp_wf; omega)
theorem frz_imm {n z : Nat} {h' : Heap} {rows : List (List PV)} (h : inNR n rows) : FrzTo n h' (.imm z rows) (.imm z rows) := by simp only [FrzTo]; exact .inl ⟨trivial, h⟩
theorem writeE_c : ∀ e : Ex, e.small → shapedE e = true → ∀ h : Heap, PCall Try.prog 77 [.agg e.cells] h fun r h' => r = .agg (exW e).cells ∧ h' = h := by
 refine Ex.ind ?_
 intro op name n args kids ih hsm hsh h
 simp only [Ex.small] at hsm
 obtain ⟨hal, hks⟩ := hsm
 rw [Ex.smalls_iff] at hks
 unfold shapedE at hsh
 unfold exW
 refine PCall.frz Ty.hb_77 ?_
 cases c1 : bEq op opNum with
 | true =>
  have c1' : (op.data.toList == (#[110, 117, 109, 98, 101, 114] : Array UInt8).toList) = true := c1
  simp only [if_true, Ex.cells]
  refine pcall_body (ow := fun _ => false) (wf := fun _ => false) Ty.mixed Try.func77 rfl Ty.hb_77 (by rw [Try.ntmps77]; simp) ?_
  rw [Try.ntmps77, Try.results77]
  repeat' (first | refine a_seq fun K hK => ?_ | ((first | refine a_regionS ?_ | refine a_ret ?_); simp only [Ty.w, simprocAttr, c1']) | (refine hK _ _ ?_; clear hK; try simp only [pst0, simprocAttr]))
  refine ⟨?_, ((Grow.refl h).new _).set (Nat.le_refl _) _⟩
  simp only [Sx.cells, Sx.rows, FrzTo, FrzL]
  exact ⟨_, rfl, rfl, rfl, rfl, rfl, rfl, .inr (.inl ⟨rfl, .inr rfl⟩), trivial⟩
 | false =>
  have c1' : (op.data.toList == (#[110, 117, 109, 98, 101, 114] : Array UInt8).toList) = false := c1
  rw [c1] at hsh
  simp only [Bool.false_eq_true, if_false] at hsh ⊢
  cases c2 : bEq op opFlu with
  | true =>
   have c2' : (op.data.toList == (#[102, 108, 117, 101, 110, 116] : Array UInt8).toList) = true := c2
   have hw := fun h : Heap => words_c (h := h) (first := name) hal
   have hfz := fun (n : Nat) (h : Heap) => sx_frz n h (wordsM name args)
   simp only [if_true, Ex.cells]
   generalize wordsM name args = X at hw hfz
   obtain ⟨ki, va, li, co, te, ks⟩ := X
   simp only [Sx.cells] at hw hfz ⊢
   refine pcall_body (ow := fun _ => false) (wf := fun _ => false) Ty.mixed Try.func77 rfl Ty.hb_77 (by rw [Try.ntmps77]; simp) ?_
   rw [Try.ntmps77, Try.results77]
   repeat' (first | refine a_seq fun K hK => ?_ | (refine a_regionS ?_; simp only [Ty.w, simprocAttr, c1', c2']) | (refine hK _ _ ?_; clear hK; try simp only [pst0, simprocAttr]))
   refine owp_useQ (hw _) (by (try simp only [Ty.w, simprocAttr, c1', c2']); try rfl) ?_; simp only [Ty.w, simprocAttr, c1', c2']
   repeat' (first | (refine a_ret ?_; simp only [Ty.w, simprocAttr]) | (refine hK _ _ ?_; clear hK; try simp only [pst0, simprocAttr]))
   refine ⟨?_, ((Grow.refl h).new _).set (Nat.le_refl _) _⟩
   simp only [FrzTo]
   exact ⟨_, rfl, hfz _ _⟩
  | false =>
   have c2' : (op.data.toList == (#[102, 108, 117, 101, 110, 116] : Array UInt8).toList) = false := c2
   rw [c2] at hsh
   simp only [Bool.false_eq_true, if_false] at hsh ⊢
   split at hsh
   case isFalse => simp at hsh
   simp only [Bool.and_eq_true] at hsh
   obtain ⟨⟨⟨_, _⟩, _⟩, hsh⟩ := hsh
   split at hsh
   case h_2 => simp at hsh
   rename_i a b
   simp only [Bool.and_eq_true] at hsh
   have ca := ih a (by simp) (hks a (by simp)) hsh.1
   have cb := ih b (by simp) (hks b (by simp)) hsh.2
   have hw := fun h : Heap => word_c (h := h) (s := op)
   have hfz := fun (n : Nat) (h : Heap) => sx_frz n h (listM [wordM op, exW a, exW b])
   have hl := fun h : Heap => list_c (h := h) (p := .imm 6 (Sx.rows [wordM op, exW a, exW b])) rfl (fun _ => frz_imm (sxs_in _ _))
   generalize exW a = xa at ca hfz hl ⊢
   generalize exW b = xb at cb hfz hl ⊢
   clear ih hks hsh
   obtain ⟨aop, aname, an, aargs, akids⟩ := a
   obtain ⟨bop, bname, bn, bargs, bkids⟩ := b
   obtain ⟨ki, va, li, co, te, ks⟩ := xa
   obtain ⟨ki2, va2, li2, co2, te2, ks2⟩ := xb
   simp only [Ex.cells, Ex.rows, listM, Sx.cells, Sx.rows, wordM] at ca cb hw hfz hl ⊢
   refine pcall_body (ow := fun _ => false) (wf := fun _ => false) Ty.mixed Try.func77 rfl Ty.hb_77 (by rw [Try.ntmps77]; simp) ?_
   rw [Try.ntmps77, Try.results77]
   repeat' (first | refine a_seq fun K hK => ?_ | (refine a_block ?_) | ((first | refine a_regionS ?_ | refine a_drawS (by decide +kernel) ?_); simp only [Ty.w, simprocAttr, c1', c2']) | (refine a_skip ?_; try simp only [pst0, simprocAttr]) | (refine hK _ _ ?_; clear hK; try simp only [pst0, simprocAttr]))
   (first | refine a_dcall0 (hw _) (by (try simp only [Ty.w, simprocAttr, ]); try rfl) ?_ | refine a_dcallA (hw _) (by (try simp only [Ty.w, simprocAttr, ]); try rfl) (by simp only [Ty.w, simprocAttr, ]; try trivial) ?_); simp only [Ty.w, simprocAttr, Option.getD_some, ]
   skip
   (first | refine a_dcall0 (ca _) (by (try simp only [Ty.w, simprocAttr, ]); try rfl) ?_ | refine a_dcallA (ca _) (by (try simp only [Ty.w, simprocAttr, ]); try rfl) (by simp only [Ty.w, simprocAttr, ]; try trivial) ?_); simp only [Ty.w, simprocAttr, Option.getD_some, ]
   skip
   (first | refine a_dcall0 (cb _) (by (try simp only [Ty.w, simprocAttr, ]); try rfl) ?_ | refine a_dcallA (cb _) (by (try simp only [Ty.w, simprocAttr, ]); try rfl) (by simp only [Ty.w, simprocAttr, ]; try trivial) ?_); simp only [Ty.w, simprocAttr, Option.getD_some, ]
   skip
   (first | refine a_dcall0 (hl _) (by (try simp only [Ty.w, simprocAttr, ]); try rfl) ?_ | refine a_dcallA (hl _) (by (try simp only [Ty.w, simprocAttr, ]); try rfl) (by simp only [Ty.w, simprocAttr, ]; try trivial) ?_); simp only [Ty.w, simprocAttr, Option.getD_some, ]
   repeat' (first | (refine a_ret ?_; simp only [Ty.w, simprocAttr]) | (refine hK _ _ ?_; clear hK; try simp only [pst0, simprocAttr]) | (with_reducible refine a_past2 (by simp only [List.forall_mem_cons, Ty.w, simprocAttr]; (repeat' apply And.intro) <;> first | trivial | exact .inl (by decide +kernel)) ?_; try simp only [Ty.w, simprocAttr]))
   refine ⟨?_, ((Grow.refl h).new _).set (Nat.le_refl _) _⟩
   simp only [FrzTo]
   exact ⟨_, rfl, hfz _ _⟩
end Go.Proofs.Ytjlkapgpjamnkaa
namespace Go.Proofs.Ytjlkapgpjamnkaa
open Go.AM
set_option maxHeartbeats 2000000
set_option maxRecDepth 20000
structure Hold (p : Prop) : Prop where
 out : p
theorem a_hold {P : Program} {ow : Nat → Bool} {wf : FuncId → Bool} {n : Nat} {Q : Post} {s : Slots} {h : Heap} (id : Nat) {ops : Array Oper} {d : Bool} {x y : Code} (hh : Hold (awp P ow wf n (.seq (.seq (.region id ops d) x) y) Q s h)) : awp P ow wf n (.seq (.seq (.region id ops d) x) y) Q s h := hh.out
theorem a_cut {P : Program} {ow : Nat → Bool} {wf : FuncId → Bool} {n : Nat} {Q : Post} {s : Slots} {h : Heap} {a b : Code} (I : Slots → Heap → Prop) (h1 : awp P ow wf n a (Post.seq I Q) s h) (h2 : ∀ s h, I s h → awp P ow wf n b Q s h) : awp P ow wf n (.seq a b) Q s h := by
 simp only [awp]
 refine awp_mono a (fun e s h hh => ?_) h1
 cases e <;> simp only [Post.seq] at hh ⊢
 ·exact h2 _ _ hh
 all_goals exact hh
theorem a_cutK {P : Program} {ow : Nat → Bool} {wf : FuncId → Bool} {n : Nat} {Q : Post} {K : Slots → Heap → Prop} {s : Slots} {h : Heap} {a : Code} (I : Slots → Heap → Prop) (h1 : awp P ow wf n a (Post.seq I Q) s h) (h2 : ∀ s h, I s h → K s h) : awp P ow wf n a (Post.seq K Q) s h := by
 refine awp_mono a (fun e s h hh => ?_) h1
 cases e <;> simp only [Post.seq] at hh ⊢
 ·exact h2 _ _ hh
 all_goals exact hh
theorem set_set (h : Heap) (id : Nat) (a b : AObj) : (h.set id a).set id b = h.set id b := by
 unfold Heap.set
 congr 1
 funext i
 simp only
 by_cases hi : i = id
 ·simp [hi]
 ·simp [hi]
theorem emp_len {α : Type} (l : List α) : ((l.length : Int) == 0) = l.isEmpty := by cases l <;> simp; omega
theorem cntO_c (n : Nat) : cntO (n + 1) = .arr 1 [[.sc (.int .i64 ((n : Int) + 1))]] := by simp only [cntO, natc]
theorem term_c {h : Heap} {s : ByteArray} (hs : s.size ≤ bigN) : PCall Try.prog 106 [sPV s] h fun r h' => r = .sc (.bool (termB s)) ∧ h' = h := by
 have hs' : s.size ≤ 9223372036854775807 := by unfold bigN at hs; omega
 cases c1 : nameB s with
 | true =>
  have : termB s = true := by simp [termB, c1]
  refine pcall_body (ow := fun _ => false) (wf := fun _ => false) Ty.mixed Try.func106 rfl Ty.hb_106 (by rw [Try.ntmps106]; simp) ?_
  rw [Try.ntmps106, Try.results106]
  repeat' (first | refine a_seq fun K hK => ?_ | (refine a_regionS ?_; simp only [Ty.w, simprocAttr]) | (refine hK _ _ ?_; clear hK; try simp only [pst0, simprocAttr]))
  refine owp_useQ (fname_c (s := s) hs') (by (try simp only [Ty.w, simprocAttr, c1]); try rfl) ?_; simp only [Ty.w, simprocAttr, c1]
  repeat' (first | (refine a_ret ?_; simp only [Ty.w, simprocAttr, c1]) | (refine hK _ _ ?_; clear hK; try simp only [pst0, simprocAttr]))
  rw [this]
 | false =>
  have : termB s = varB s := by simp [termB, c1]
  refine pcall_body (ow := fun _ => false) (wf := fun _ => false) Ty.mixed Try.func106 rfl Ty.hb_106 (by rw [Try.ntmps106]; simp) ?_
  rw [Try.ntmps106, Try.results106]
  repeat' (first | refine a_seq fun K hK => ?_ | (refine a_regionS ?_; simp only [Ty.w, simprocAttr]) | (refine hK _ _ ?_; clear hK; try simp only [pst0, simprocAttr]))
  refine owp_useQ (fname_c (s := s) hs') (by (try simp only [Ty.w, simprocAttr, c1]); try rfl) ?_; simp only [Ty.w, simprocAttr, c1]
  skip
  refine owp_useQ (fvariable_c (s := s) hs') (by (try simp only [Ty.w, simprocAttr, c1]); try rfl) ?_; simp only [Ty.w, simprocAttr, c1]
  repeat' (first | (refine a_ret ?_; simp only [Ty.w, simprocAttr, c1]) | (refine hK _ _ ?_; clear hK; try simp only [pst0, simprocAttr]))
  rw [this]
theorem fclosure1_c {h : Heap} {s : ByteArray} (hs : s.size ≤ bigN) : PCall Try.prog 124 [sPV s] h fun r h' => r = .sc (.bool (!termB s)) ∧ h' = h := by
 refine pcall_body (ow := fun _ => false) (wf := fun _ => false) Ty.mixed Try.func124 rfl Ty.hb_124 (by rw [Try.ntmps124]; simp) ?_
 rw [Try.ntmps124, Try.results124]
 repeat' (first | refine a_seq fun K hK => ?_ | (refine a_regionS ?_; simp only [Ty.w, simprocAttr]) | (refine hK _ _ ?_; clear hK; try simp only [pst0, simprocAttr]))
 refine owp_useQ (term_c (s := s) hs) (by (try simp only [Ty.w, simprocAttr, ]); try rfl) ?_; simp only [Ty.w, simprocAttr, ]
 repeat' (first | (refine a_ret ?_; simp only [Ty.w, simprocAttr]) | (refine hK _ _ ?_; clear hK; try simp only [pst0, simprocAttr]))
theorem fclosure2_c {h : Heap} {s : ByteArray} (hs : s.size ≤ bigN) : PCall Try.prog 105 [sPV s] h fun r h' => r = .sc (.bool (!termB s)) ∧ h' = h := by
 refine pcall_body (ow := fun _ => false) (wf := fun _ => false) Ty.mixed Try.func105 rfl Ty.hb_105 (by rw [Try.ntmps105]; simp) ?_
 rw [Try.ntmps105, Try.results105]
 repeat' (first | refine a_seq fun K hK => ?_ | (refine a_regionS ?_; simp only [Ty.w, simprocAttr]) | (refine hK _ _ ?_; clear hK; try simp only [pst0, simprocAttr]))
 refine owp_useQ (term_c (s := s) hs) (by (try simp only [Ty.w, simprocAttr, ]); try rfl) ?_; simp only [Ty.w, simprocAttr, ]
 repeat' (first | (refine a_ret ?_; simp only [Ty.w, simprocAttr]) | (refine hK _ _ ?_; clear hK; try simp only [pst0, simprocAttr]))
def idxT (l : List ByteArray) : Int := match l.findIdx? (fun s => !termB s) with
 | some i => i
 | none => -1
theorem idxT_any (l : List ByteArray) : decide (idxT l ≥ 0) = !l.all termB := by
 unfold idxT
 cases h : l.findIdx? (fun s => !termB s) with
 | none =>
  rw [List.findIdx?_eq_none_iff] at h
  have : l.all termB = true := by
   rw [List.all_eq_true]
   intro s hs
   simpa using h s hs
  rw [this]; try rfl
 | some i =>
  rw [List.findIdx?_eq_some_iff_getElem] at h
  obtain ⟨hi, h1, _⟩ := h
  have : l.all termB = false := by
   rw [List.all_eq_false]
   exact ⟨l[i], List.getElem_mem hi, by simpa using h1⟩
  rw [this]; simp
theorem indexFunc_c {h : Heap} {g : FuncId} {l : List ByteArray} (hl : l.length ≤ bigN) (hf : ∀ s ∈ l, ∀ h : Heap, PCall Try.prog g [sPV s] h fun r h' => r = .sc (.bool (!termB s)) ∧ h' = h) :
  PCall Try.prog 135 [.imm 1 (strRows l), .sc (.func (.func g) #[] #[])] h fun r h' => r = .sc (.int .i64 (idxT l)) ∧ h' = h := by
 unfold bigN at hl
 have hlen := strRows_len l
 refine pcall_body (ow := fun _ => false) (wf := fun _ => false) Ty.mixed Try.func135 rfl Ty.hb_135 (by rw [Try.ntmps135]; simp) ?_
 rw [Try.ntmps135, Try.results135]
 repeat' (first | refine a_seq fun K hK => ?_ | (refine a_block ?_) | (refine a_regionS ?_; simp only [Ty.w, simprocAttr, hlen]) | (refine hK _ _ ?_; clear hK; try simp only [pst0, simprocAttr]))
 refine a_loop (fun m S h' => h' = h ∧ S 0 = .imm 1 (strRows l) ∧ S 1 = .sc (.func (.func g) #[] #[]) ∧ S 7 = .sc (.int .i64 l.length) ∧ ∃ k : Nat, S 8 = .sc (.int .i64 k) ∧ k ≤ l.length ∧ m = l.length - k ∧ ∀ (i : Nat) (w : ByteArray), i < k → l[i]? = some w → termB w = true) l.length ?_ ?_
 ·simp only [Ty.w, simprocAttr]
  exact ⟨0, rfl, by omega, rfl, by omega⟩
 ·rintro m S h' ⟨rfl, g0, g1, g7, k, g8, hk, rfl, hall⟩
  by_cases hlt : k < l.length
  ·have hd : decide ((k : Int) < (l.length : Int)) = true := by simp; omega
   have w7 : IntKind.i64.wrap ((k : Int) + 1) = k + 1 := by rw [wrap64 (by omega) (by omega)]
   obtain ⟨w, hx⟩ : ∃ w, l[k]? = some w := ⟨l[k], List.getElem?_eq_getElem hlt⟩
   have hr := strRows_get hx
   have hc := hf w (List.mem_of_getElem? hx)
   cases he : termB w with
   | false =>
    rw [he] at hc
    repeat' (first | refine a_seq fun K hK => ?_ | (refine a_regionS ?_; simp only [Ty.w, simprocAttr, g0, g1, g7, g8, hd, hr]) | (refine a_skip ?_; try simp only [pst0, simprocAttr]) | (refine a_cond _ (by (try simp only [Ty.w, simprocAttr, g0, g1, g7, g8, hd, hr]); rfl) (fun hb => ?_) (fun hb => ?_) <;> (try simp only [hb0, decide_eq_true_eq, decide_eq_false_iff_not, simprocAttr] at hb) <;> (try (exfalso; omega))) | (refine hK _ _ ?_; clear hK; try simp only [pst0, simprocAttr]))
    refine owp_useV (by simp only [Ty.w, simprocAttr, g1]) (hc _) (by simp only [Ty.w, simprocAttr, g0, g1, g7, g8]; try rfl) ?_
    simp only [Ty.w, simprocAttr, Ty.all]
    repeat' (first | refine a_seq fun K hK => ?_ | ((first | refine a_regionS ?_ | refine a_ret ?_); simp only [Ty.w, simprocAttr, g0, g1, g7, g8, Bool.not_false]) | (refine hK _ _ ?_; clear hK; try simp only [pst0, simprocAttr]))
    have : l.findIdx? (fun s => !termB s) = some k := by
     rw [List.findIdx?_eq_some_iff_getElem]
     refine ⟨hlt, ?_, fun j hj => ?_⟩
     ·rw [List.getElem?_eq_getElem hlt] at hx
      simp only [Option.some.injEq] at hx
      rw [hx, he]; try rfl
     ·rw [hall j l[j] hj (List.getElem?_eq_getElem (by omega))]; simp
    simp only [idxT, this]
   | true =>
    rw [he] at hc
    repeat' (first | refine a_seq fun K hK => ?_ | (refine a_regionS ?_; simp only [Ty.w, simprocAttr, g0, g1, g7, g8, hd, hr]) | (refine a_skip ?_; try simp only [pst0, simprocAttr]) | (refine a_cond _ (by (try simp only [Ty.w, simprocAttr, g0, g1, g7, g8, hd, hr]); rfl) (fun hb => ?_) (fun hb => ?_) <;> (try simp only [hb0, decide_eq_true_eq, decide_eq_false_iff_not, simprocAttr] at hb) <;> (try (exfalso; omega))) | (refine hK _ _ ?_; clear hK; try simp only [pst0, simprocAttr]))
    refine owp_useV (by simp only [Ty.w, simprocAttr, g1]) (hc _) (by simp only [Ty.w, simprocAttr, g0, g1, g7, g8]; try rfl) ?_
    simp only [Ty.w, simprocAttr, Ty.all]
    repeat' (first | (refine a_block ?_) | (refine a_regionS ?_; simp only [Ty.w, simprocAttr, g0, g1, g7, g8, w7, Bool.not_true]) | (refine a_skip ?_; try simp only [pst0, simprocAttr]) | (refine hK _ _ ?_; clear hK; try simp only [pst0, simprocAttr]))
    refine ⟨l.length - (k + 1), by omega, k + 1, by simp, by omega, rfl, fun i w2 hi hw => ?_⟩
    by_cases hik : i = k
    ·subst hik; rw [hx] at hw; simp at hw; rw [← hw]; exact he
    ·exact hall i w2 (by omega) hw
  ·have hd : decide ((k : Int) < (l.length : Int)) = false := by simp; omega
   repeat' (first | refine a_seq fun K hK => ?_ | ((first | refine a_regionS ?_ | refine a_ret ?_); simp only [Ty.w, simprocAttr, g0, g1, g7, g8, hd]) | (refine a_exit ?_; try simp only [pst0, simprocAttr]) | (refine a_cond _ (by (try simp only [Ty.w, simprocAttr, g0, g1, g7, g8, hd]); rfl) (fun hb => ?_) (fun hb => ?_) <;> (try simp only [hb0, decide_eq_true_eq, decide_eq_false_iff_not, simprocAttr] at hb) <;> (try (exfalso; omega))) | ((first | refine hK _ _ ?_ | (clear hK; refine hK _ _ ?_)); clear hK; try simp only [pst0, simprocAttr]))
   have : l.findIdx? (fun s => !termB s) = none := by
    rw [List.findIdx?_eq_none_iff]
    intro w hw
    obtain ⟨i, hi⟩ := List.getElem?_of_mem hw
    have : i < l.length := (List.getElem?_eq_some_iff.1 hi).1
    rw [hall i w (by omega) hi]; try rfl
   simp only [idxT, this]
theorem containsFunc_c {h : Heap} {g : FuncId} {l : List ByteArray} (hl : l.length ≤ bigN) (hf : ∀ s ∈ l, ∀ h : Heap, PCall Try.prog g [sPV s] h fun r h' => r = .sc (.bool (!termB s)) ∧ h' = h) :
  PCall Try.prog 104 [.imm 1 (strRows l), .sc (.func (.func g) #[] #[])] h fun r h' => r = .sc (.bool (!l.all termB)) ∧ h' = h := by
 refine pcall_body (ow := fun _ => false) (wf := fun _ => false) Ty.mixed Try.func104 rfl Ty.hb_104 (by rw [Try.ntmps104]; simp) ?_
 rw [Try.ntmps104, Try.results104]
 repeat' (first | refine a_seq fun K hK => ?_ | (refine a_regionS ?_; simp only [Ty.w, simprocAttr]) | (refine hK _ _ ?_; clear hK; try simp only [pst0, simprocAttr]))
 refine owp_useQ (indexFunc_c (l := l) (g := g) hl hf) (by (try simp only [Ty.w, simprocAttr, ]); try rfl) ?_; simp only [Ty.w, simprocAttr, ]
 repeat' (first | (refine a_ret ?_; simp only [Ty.w, simprocAttr]) | (refine hK _ _ ?_; clear hK; try simp only [pst0, simprocAttr]))
 rw [← idxT_any]
theorem take_c {h : Heap} {id d n : Nat} {b : Bool} (hd : d ≤ 100) (hn : n ≤ 4096) (ho : h.obj id = some (cntO n)) (hb : decide (n + 1 ≤ 4096 ∧ d ≤ 32) = b) : PCall Try.prog 103 [.ptr id 0 0, .sc (.int .i64 d)] h fun r h' => r = .sc (.bool b) ∧ h' = h.set id (cntO (n + 1)) := by
 have ho' := ho
 simp only [cntO] at ho'
 rw [cntO_c]
 have wn : IntKind.i64.wrap ((n : Int) + 1) = (n : Int) + 1 := by rw [wrap64 (by omega) (by omega)]
 cases b0 : decide ((n : Int) + 1 ≤ 4096) with
 | false =>
  have : b = false := by rw [← hb]; simp only [decide_eq_false_iff_not] at b0 ⊢; omega
  subst this
  clear hb
  refine pcall_body (ow := fun _ => false) (wf := fun _ => false) Ty.mixed Try.func103 rfl Ty.hb_103 (by rw [Try.ntmps103]; simp) ?_
  rw [Try.ntmps103, Try.results103]
  repeat' (first | refine a_seq fun K hK => ?_ | ((first | refine a_regionS ?_ | refine a_ret ?_); simp only [Ty.w, simprocAttr, ho', wn, b0]) | (refine hK _ _ ?_; clear hK; try simp only [pst0, simprocAttr]))
 | true =>
  have : b = decide ((d : Int) ≤ 32) := by rw [← hb]; simp only [decide_eq_true_eq] at b0; exact decide_eq_decide.2 (by omega)
  subst this
  clear hb
  refine pcall_body (ow := fun _ => false) (wf := fun _ => false) Ty.mixed Try.func103 rfl Ty.hb_103 (by rw [Try.ntmps103]; simp) ?_
  rw [Try.ntmps103, Try.results103]
  repeat' (first | refine a_seq fun K hK => ?_ | ((first | refine a_regionS ?_ | refine a_ret ?_); simp only [Ty.w, simprocAttr, ho', wn, b0]) | (refine hK _ _ ?_; clear hK; try simp only [pst0, simprocAttr]))
theorem formedM_le : ∀ (e : Ex) (d n : Nat), (formedM e d n).1 = true → (formedM e d n).2 ≤ 4096 := by
 refine Ex.ind ?_
 intro op name nn args kids ih d n
 unfold formedM
 split
 ·rename_i hc
  split
  ·intro _; simp only; omega
  ·split
   ·intro _; simp only; omega
   ·split
    ·split
     ·split
      ·rename_i a b
       have ha := ih a (by simp) (d + 1) (n + 1)
       split
       ·rename_i c' he
        exact ih b (by simp) (d + 1) c'
       ·simp
      ·simp
     ·simp
    ·simp
 ·simp
theorem formed_c : ∀ e : Ex, e.ok → ∀ (d n : Nat), d ≤ 33 → n ≤ 4096 → ∀ (id : Nat) (h : Heap), h.obj id = some (cntO n) →
  PCall Try.prog 79 [.agg e.cells, .sc (.int .i64 d), .ptr id 0 0] h fun r h' => r = .sc (.bool (formedM e d n).1) ∧ h' = h.set id (cntO (formedM e d n).2) := by
 refine Ex.ind ?_
 intro op name v args kids ih hok d n hd hn id h ho
 simp only [Ex.ok] at hok
 obtain ⟨_, hnm, _, ⟨hal, hargs⟩, hkl, hks⟩ := hok
 rw [Ex.oks_iff] at hks
 have hnm' : name.size ≤ 9223372036854775807 := by unfold bigN at hnm; omega
 have hlA := strRows_len args
 have hlK := Ex.rows_len kids
 have e1 := emp_len args
 have e2 := emp_len kids
 generalize hF : formedM (.mk op name v args kids) d n = F
 unfold formedM at hF
 by_cases hc : n + 1 ≤ 4096 ∧ d ≤ 32
 rotate_left
 ·rw [if_neg hc] at hF
  subst hF
  have hT := take_c (by omega) hn ho (decide_eq_false hc)
  simp only [Ex.cells]
  refine pcall_body (ow := fun _ => false) (wf := fun _ => false) Ty.mixed Try.func79 rfl Ty.hb_79 (by rw [Try.ntmps79]; simp) ?_
  rw [Try.ntmps79, Try.results79]
  repeat' (first | refine a_seq fun K hK => ?_ | (refine a_regionS ?_; simp only [Ty.w, simprocAttr]) | (refine hK _ _ ?_; clear hK; try simp only [pst0, simprocAttr]))
  refine owp_useH (hT) (by (try simp only [Ty.w, simprocAttr, Bool.not_false]); try rfl) ?_; simp only [Ty.w, simprocAttr, Bool.not_false]
  repeat' (first | refine a_seq fun K hK => ?_ | ((first | refine a_regionS ?_ | refine a_ret ?_); simp only [Ty.w, simprocAttr, Bool.not_false]) | (refine hK _ _ ?_; clear hK; try simp only [pst0, simprocAttr]))
 ·rw [if_pos hc] at hF
  have hT := take_c (by omega) hn ho (decide_eq_true hc)
  have wd : IntKind.i64.wrap ((d : Int) + 1) = (d : Int) + 1 := by rw [wrap64 (by omega) (by omega)]
  simp only [Ex.cells]
  have n1 : bEq op opNum = (op.data.toList == (#[110, 117, 109, 98, 101, 114] : Array UInt8).toList) := rfl
  have n2 : bEq op opFlu = (op.data.toList == (#[102, 108, 117, 101, 110, 116] : Array UInt8).toList) := rfl
  have n3 : bEq op opPls = (op.data.toList == (#[43] : Array UInt8).toList) := rfl
  have n4 : bEq op opMin = (op.data.toList == (#[45] : Array UInt8).toList) := rfl
  have n5 : bEq op opTim = (op.data.toList == (#[42] : Array UInt8).toList) := rfl
  have n6 : emptyB name = (name.data.toList == (#[] : Array UInt8).toList) := rfl
  have n7 : decide (v = 0) = (v == 0) := by by_cases h0 : v = 0 <;> simp [h0]
  have n8 : inNum v = (decide (v ≥ -1099511627776) && decide (v ≤ 1099511627776)) := rfl
  rw [n1, n2, n3, n4, n5, n6, n7, n8, ← e1, ← e2] at hF
  clear n1 n2 n3 n4 n5 n6 n7 n8 e1 e2
  cases k1 : (op.data.toList == (#[110, 117, 109, 98, 101, 114] : Array UInt8).toList) with
  | true =>
   rw [k1] at hF
   simp only [if_true] at hF
   cases q1 : (name.data.toList == (#[] : Array UInt8).toList) with
   | false =>
    rw [q1] at hF
    simp only [Bool.false_and, Bool.and_false] at hF
    subst hF
    refine pcall_body (ow := fun _ => false) (wf := fun _ => false) Ty.mixed Try.func79 rfl Ty.hb_79 (by rw [Try.ntmps79]; simp) ?_
    rw [Try.ntmps79, Try.results79]
    repeat' (first | refine a_seq fun K hK => ?_ | (refine a_regionS ?_; simp only [Ty.w, simprocAttr, k1, q1]) | (refine hK _ _ ?_; clear hK; try simp only [pst0, simprocAttr]))
    refine owp_useH (hT) (by (try simp only [Ty.w, simprocAttr, k1, q1, Bool.not_true]); try rfl) ?_; simp only [Ty.w, simprocAttr, k1, q1, Bool.not_true]
    repeat' (first | refine a_seq fun K hK => ?_ | ((first | refine a_regionS ?_ | refine a_ret ?_); simp only [Ty.w, simprocAttr, k1, q1, hlA, hlK, Bool.not_true]) | (refine a_skip ?_; try simp only [pst0, simprocAttr]) | (refine a_cond _ (by (try simp only [Ty.w, simprocAttr, k1, q1, hlA, hlK, Bool.not_true]); rfl) (fun hb => ?_) (fun hb => ?_) <;> (try simp only [hb0, decide_eq_true_eq, decide_eq_false_iff_not, simprocAttr] at hb) <;> (try (exfalso; omega))) | (refine hK _ _ ?_; clear hK; try simp only [pst0, simprocAttr]))
   | true =>
    rw [q1] at hF
    cases q2 : ((args.length : Int) == 0) with
    | false =>
     rw [q2] at hF
     simp only [Bool.false_and, Bool.and_false] at hF
     subst hF
     refine pcall_body (ow := fun _ => false) (wf := fun _ => false) Ty.mixed Try.func79 rfl Ty.hb_79 (by rw [Try.ntmps79]; simp) ?_
     rw [Try.ntmps79, Try.results79]
     repeat' (first | refine a_seq fun K hK => ?_ | (refine a_regionS ?_; simp only [Ty.w, simprocAttr, k1, q1, q2]) | (refine hK _ _ ?_; clear hK; try simp only [pst0, simprocAttr]))
     refine owp_useH (hT) (by (try simp only [Ty.w, simprocAttr, k1, q1, q2, Bool.not_true]); try rfl) ?_; simp only [Ty.w, simprocAttr, k1, q1, q2, Bool.not_true]
     repeat' (first | refine a_seq fun K hK => ?_ | ((first | refine a_regionS ?_ | refine a_ret ?_); simp only [Ty.w, simprocAttr, k1, q1, q2, hlA, hlK, Bool.not_true]) | (refine a_skip ?_; try simp only [pst0, simprocAttr]) | (refine a_cond _ (by (try simp only [Ty.w, simprocAttr, k1, q1, q2, hlA, hlK, Bool.not_true]); rfl) (fun hb => ?_) (fun hb => ?_) <;> (try simp only [hb0, decide_eq_true_eq, decide_eq_false_iff_not, simprocAttr] at hb) <;> (try (exfalso; omega))) | (refine hK _ _ ?_; clear hK; try simp only [pst0, simprocAttr]))
    | true =>
     rw [q2] at hF
     cases q3 : ((kids.length : Int) == 0) with
     | false =>
      rw [q3] at hF
      simp only [Bool.false_and, Bool.and_false] at hF
      subst hF
      refine pcall_body (ow := fun _ => false) (wf := fun _ => false) Ty.mixed Try.func79 rfl Ty.hb_79 (by rw [Try.ntmps79]; simp) ?_
      rw [Try.ntmps79, Try.results79]
      repeat' (first | refine a_seq fun K hK => ?_ | (refine a_regionS ?_; simp only [Ty.w, simprocAttr, k1, q1, q2, q3]) | (refine hK _ _ ?_; clear hK; try simp only [pst0, simprocAttr]))
      refine owp_useH (hT) (by (try simp only [Ty.w, simprocAttr, k1, q1, q2, q3, Bool.not_true]); try rfl) ?_; simp only [Ty.w, simprocAttr, k1, q1, q2, q3, Bool.not_true]
      repeat' (first | refine a_seq fun K hK => ?_ | ((first | refine a_regionS ?_ | refine a_ret ?_); simp only [Ty.w, simprocAttr, k1, q1, q2, q3, hlA, hlK, Bool.not_true]) | (refine a_skip ?_; try simp only [pst0, simprocAttr]) | (refine a_cond _ (by (try simp only [Ty.w, simprocAttr, k1, q1, q2, q3, hlA, hlK, Bool.not_true]); rfl) (fun hb => ?_) (fun hb => ?_) <;> (try simp only [hb0, decide_eq_true_eq, decide_eq_false_iff_not, simprocAttr] at hb) <;> (try (exfalso; omega))) | (refine hK _ _ ?_; clear hK; try simp only [pst0, simprocAttr]))
     | true =>
      rw [q3] at hF
      cases q4 : decide (v ≥ -1099511627776) with
      | false =>
       rw [q4] at hF
       simp only [Bool.false_and, Bool.and_false] at hF
       subst hF
       refine pcall_body (ow := fun _ => false) (wf := fun _ => false) Ty.mixed Try.func79 rfl Ty.hb_79 (by rw [Try.ntmps79]; simp) ?_
       rw [Try.ntmps79, Try.results79]
       repeat' (first | refine a_seq fun K hK => ?_ | (refine a_regionS ?_; simp only [Ty.w, simprocAttr, k1, q1, q2, q3, q4]) | (refine hK _ _ ?_; clear hK; try simp only [pst0, simprocAttr]))
       refine owp_useH (hT) (by (try simp only [Ty.w, simprocAttr, k1, q1, q2, q3, q4, Bool.not_true]); try rfl) ?_; simp only [Ty.w, simprocAttr, k1, q1, q2, q3, q4, Bool.not_true]
       repeat' (first | refine a_seq fun K hK => ?_ | ((first | refine a_regionS ?_ | refine a_ret ?_); simp only [Ty.w, simprocAttr, k1, q1, q2, q3, q4, hlA, hlK, Bool.not_true]) | (refine a_skip ?_; try simp only [pst0, simprocAttr]) | (refine a_cond _ (by (try simp only [Ty.w, simprocAttr, k1, q1, q2, q3, q4, hlA, hlK, Bool.not_true]); rfl) (fun hb => ?_) (fun hb => ?_) <;> (try simp only [hb0, decide_eq_true_eq, decide_eq_false_iff_not, simprocAttr] at hb) <;> (try (exfalso; omega))) | (refine hK _ _ ?_; clear hK; try simp only [pst0, simprocAttr]))
      | true =>
       rw [q4] at hF
       simp only [Bool.true_and] at hF
       subst hF
       refine pcall_body (ow := fun _ => false) (wf := fun _ => false) Ty.mixed Try.func79 rfl Ty.hb_79 (by rw [Try.ntmps79]; simp) ?_
       rw [Try.ntmps79, Try.results79]
       repeat' (first | refine a_seq fun K hK => ?_ | (refine a_regionS ?_; simp only [Ty.w, simprocAttr, k1, q1, q2, q3, q4]) | (refine hK _ _ ?_; clear hK; try simp only [pst0, simprocAttr]))
       refine owp_useH (hT) (by (try simp only [Ty.w, simprocAttr, k1, q1, q2, q3, q4, Bool.not_true]); try rfl) ?_; simp only [Ty.w, simprocAttr, k1, q1, q2, q3, q4, Bool.not_true]
       repeat' (first | refine a_seq fun K hK => ?_ | ((first | refine a_regionS ?_ | refine a_ret ?_); simp only [Ty.w, simprocAttr, k1, q1, q2, q3, q4, hlA, hlK, Bool.not_true]) | (refine a_skip ?_; try simp only [pst0, simprocAttr]) | (refine a_cond _ (by (try simp only [Ty.w, simprocAttr, k1, q1, q2, q3, q4, hlA, hlK, Bool.not_true]); rfl) (fun hb => ?_) (fun hb => ?_) <;> (try simp only [hb0, decide_eq_true_eq, decide_eq_false_iff_not, simprocAttr] at hb) <;> (try (exfalso; omega))) | (refine hK _ _ ?_; clear hK; try simp only [pst0, simprocAttr]))
  | false =>
   rw [k1] at hF
   simp only [Bool.false_eq_true, if_false] at hF
   cases k2 : (op.data.toList == (#[102, 108, 117, 101, 110, 116] : Array UInt8).toList) with
   | true =>
    rw [k2] at hF
    simp only [if_true] at hF
    have hfc : ∀ s ∈ args, ∀ h : Heap, PCall Try.prog 124 [sPV s] h fun r h' => r = .sc (.bool (!termB s)) ∧ h' = h := fun s hs h => fclosure1_c (hargs s hs)
    cases q1 : (v == 0) with
    | false =>
     rw [q1] at hF
     simp only [Bool.false_and, Bool.and_false] at hF
     subst hF
     refine pcall_body (ow := fun _ => false) (wf := fun _ => false) Ty.mixed Try.func79 rfl Ty.hb_79 (by rw [Try.ntmps79]; simp) ?_
     rw [Try.ntmps79, Try.results79]
     repeat' (first | refine a_seq fun K hK => ?_ | (refine a_regionS ?_; simp only [Ty.w, simprocAttr, k1, k2, q1]) | (refine hK _ _ ?_; clear hK; try simp only [pst0, simprocAttr]))
     refine owp_useH (hT) (by (try simp only [Ty.w, simprocAttr, k1, k2, q1, Bool.not_true]); try rfl) ?_; simp only [Ty.w, simprocAttr, k1, k2, q1, Bool.not_true]
     repeat' (first | refine a_seq fun K hK => ?_ | ((first | refine a_regionS ?_ | refine a_ret ?_); simp only [Ty.w, simprocAttr, k1, k2, q1, hlA, hlK, Bool.not_true]) | (refine a_skip ?_; try simp only [pst0, simprocAttr]) | (refine a_cond _ (by (try simp only [Ty.w, simprocAttr, k1, k2, q1, hlA, hlK, Bool.not_true]); rfl) (fun hb => ?_) (fun hb => ?_) <;> (try simp only [hb0, decide_eq_true_eq, decide_eq_false_iff_not, simprocAttr] at hb) <;> (try (exfalso; omega))) | (refine hK _ _ ?_; clear hK; try simp only [pst0, simprocAttr]))
    | true =>
     rw [q1] at hF
     cases q2 : ((kids.length : Int) == 0) with
     | false =>
      rw [q2] at hF
      simp only [Bool.false_and, Bool.and_false] at hF
      subst hF
      refine pcall_body (ow := fun _ => false) (wf := fun _ => false) Ty.mixed Try.func79 rfl Ty.hb_79 (by rw [Try.ntmps79]; simp) ?_
      rw [Try.ntmps79, Try.results79]
      repeat' (first | refine a_seq fun K hK => ?_ | (refine a_regionS ?_; simp only [Ty.w, simprocAttr, k1, k2, q1, q2]) | (refine hK _ _ ?_; clear hK; try simp only [pst0, simprocAttr]))
      refine owp_useH (hT) (by (try simp only [Ty.w, simprocAttr, k1, k2, q1, q2, Bool.not_true]); try rfl) ?_; simp only [Ty.w, simprocAttr, k1, k2, q1, q2, Bool.not_true]
      repeat' (first | refine a_seq fun K hK => ?_ | ((first | refine a_regionS ?_ | refine a_ret ?_); simp only [Ty.w, simprocAttr, k1, k2, q1, q2, hlA, hlK, Bool.not_true]) | (refine a_skip ?_; try simp only [pst0, simprocAttr]) | (refine a_cond _ (by (try simp only [Ty.w, simprocAttr, k1, k2, q1, q2, hlA, hlK, Bool.not_true]); rfl) (fun hb => ?_) (fun hb => ?_) <;> (try simp only [hb0, decide_eq_true_eq, decide_eq_false_iff_not, simprocAttr] at hb) <;> (try (exfalso; omega))) | (refine hK _ _ ?_; clear hK; try simp only [pst0, simprocAttr]))
     | true =>
      rw [q2] at hF
      cases q3 : nameB name with
      | false =>
       rw [q3] at hF
       simp only [Bool.false_and, Bool.and_false] at hF
       subst hF
       refine pcall_body (ow := fun _ => false) (wf := fun _ => false) Ty.mixed Try.func79 rfl Ty.hb_79 (by rw [Try.ntmps79]; simp) ?_
       rw [Try.ntmps79, Try.results79]
       have W := And.intro k1 (And.intro k2 (And.intro q1 (And.intro q2 (And.intro q3 hlK))))
       repeat' (first | refine a_seq fun K hK => ?_ | (refine a_regionS ?_; simp only [Ty.w, simprocAttr, W]) | (refine hK _ _ ?_; clear hK; try simp only [pst0, simprocAttr]))
       refine owp_useH (hT) (by (try simp only [Ty.w, simprocAttr, W, Bool.not_true]); try rfl) ?_; simp only [Ty.w, simprocAttr, W, Bool.not_true]
       repeat' (first | refine a_seq fun K hK => ?_ | (refine a_regionS ?_; simp only [Ty.w, simprocAttr, W, hlA, Bool.not_true]) | (refine a_skip ?_; try simp only [pst0, simprocAttr]) | (refine a_cond _ (by (try simp only [Ty.w, simprocAttr, W, hlA, Bool.not_true]); rfl) (fun hb => ?_) (fun hb => ?_) <;> (try simp only [hb0, decide_eq_true_eq, decide_eq_false_iff_not, simprocAttr] at hb) <;> (try (exfalso; omega))) | (refine hK _ _ ?_; clear hK; try simp only [pst0, simprocAttr]))
       refine owp_useQ (fname_c (s := name) hnm') (by (try simp only [Ty.w, simprocAttr, W]); try rfl) ?_; simp only [Ty.w, simprocAttr, W]
       repeat' (first | (refine a_ret ?_; simp only [Ty.w, simprocAttr, W]) | (refine hK _ _ ?_; clear hK; try simp only [pst0, simprocAttr]))
      | true =>
       rw [q3] at hF
       simp only [Bool.true_and] at hF
       subst hF
       refine pcall_body (ow := fun _ => false) (wf := fun _ => false) Ty.mixed Try.func79 rfl Ty.hb_79 (by rw [Try.ntmps79]; simp) ?_
       rw [Try.ntmps79, Try.results79]
       have W := And.intro k1 (And.intro k2 (And.intro q1 (And.intro q2 (And.intro q3 hlK))))
       repeat' (first | refine a_seq fun K hK => ?_ | (refine a_regionS ?_; simp only [Ty.w, simprocAttr, W]) | (refine hK _ _ ?_; clear hK; try simp only [pst0, simprocAttr]))
       refine owp_useH (hT) (by (try simp only [Ty.w, simprocAttr, W, Bool.not_true]); try rfl) ?_; simp only [Ty.w, simprocAttr, W, Bool.not_true]
       repeat' (first | refine a_seq fun K hK => ?_ | (refine a_regionS ?_; simp only [Ty.w, simprocAttr, W, hlA, Bool.not_true]) | (refine a_skip ?_; try simp only [pst0, simprocAttr]) | (refine a_cond _ (by (try simp only [Ty.w, simprocAttr, W, hlA, Bool.not_true]); rfl) (fun hb => ?_) (fun hb => ?_) <;> (try simp only [hb0, decide_eq_true_eq, decide_eq_false_iff_not, simprocAttr] at hb) <;> (try (exfalso; omega))) | (refine hK _ _ ?_; clear hK; try simp only [pst0, simprocAttr]))
       refine owp_useQ (fname_c (s := name) hnm') (by (try simp only [Ty.w, simprocAttr, W]); try rfl) ?_; simp only [Ty.w, simprocAttr, W]
       skip
       refine owp_useQ (containsFunc_c hal hfc) (by (try simp only [Ty.w, simprocAttr, W]); try rfl) ?_; simp only [Ty.w, simprocAttr, W]
       repeat' (first | (refine a_ret ?_; simp only [Ty.w, simprocAttr, W, Bool.not_not]) | (refine hK _ _ ?_; clear hK; try simp only [pst0, simprocAttr]))
   | false =>
    rw [k2] at hF
    simp only [Bool.false_eq_true, if_false] at hF
    generalize hk3 : (op.data.toList == (#[43] : Array UInt8).toList) = b3 at hF
    generalize hk4 : (op.data.toList == (#[45] : Array UInt8).toList) = b4 at hF
    generalize hk5 : (op.data.toList == (#[42] : Array UInt8).toList) = b5 at hF
    refine pcall_body (ow := fun _ => false) (wf := fun _ => false) Ty.mixed Try.func79 rfl Ty.hb_79 (by rw [Try.ntmps79]; simp) ?_
    rw [Try.ntmps79, Try.results79]
    repeat' (first | refine a_seq fun K hK => ?_ | (refine a_regionS ?_; simp only [Ty.w, simprocAttr, k1, k2]) | (refine hK _ _ ?_; clear hK; try simp only [pst0, simprocAttr]))
    refine owp_useH (hT) (by (try simp only [Ty.w, simprocAttr, k1, k2, Bool.not_true]); try rfl) ?_; simp only [Ty.w, simprocAttr, k1, k2, Bool.not_true]
    iterate 15 (first | refine a_seq fun K hK => ?_ | (refine a_regionS ?_; simp only [Ty.w, simprocAttr, k1, k2, Bool.not_true]) | (refine a_skip ?_; try simp only [pst0, simprocAttr]) | (refine a_cond _ (by (try simp only [Ty.w, simprocAttr, k1, k2, Bool.not_true]); rfl) (fun hb => ?_) (fun hb => ?_) <;> (try simp only [hb0, decide_eq_true_eq, decide_eq_false_iff_not, simprocAttr] at hb) <;> (try (exfalso; omega))) | (refine hK _ _ ?_; clear hK; try simp only [pst0, simprocAttr]))
    refine a_cutK (fun S h' => h' = h.set id (cntO (n + 1)) ∧ S 1 = .sc (.int .i64 d) ∧ S 2 = .ptr id 0 0 ∧ S 3 = .cptr (Ex.mk op name v args kids).cells ∧ S 62 = .sc (.bool (b3 || b4 || b5))) ?_ ?_
    ·clear hF
     cases b3 with
     | true =>
      repeat' (first | refine a_seq fun K hK => ?_ | (refine a_regionS ?_; simp only [Ty.w, simprocAttr, hk3]) | (refine a_skip ?_; try simp only [pst0, simprocAttr]) | (refine a_cond _ (by (try simp only [Ty.w, simprocAttr, hk3]); rfl) (fun hb => ?_) (fun hb => ?_) <;> (try simp only [hb0, decide_eq_true_eq, decide_eq_false_iff_not, simprocAttr] at hb) <;> (try (exfalso; omega))) | (refine hK _ _ ?_; clear hK; try simp only [pst0, simprocAttr]))
      all_goals (simp only [Ty.w, simprocAttr, Ex.cells, Bool.true_or, Bool.false_or, and_self])
     | false =>
      cases b4 with
      | true =>
       repeat' (first | refine a_seq fun K hK => ?_ | (refine a_regionS ?_; simp only [Ty.w, simprocAttr, hk3, hk4]) | (refine a_skip ?_; try simp only [pst0, simprocAttr]) | (refine a_cond _ (by (try simp only [Ty.w, simprocAttr, hk3, hk4]); rfl) (fun hb => ?_) (fun hb => ?_) <;> (try simp only [hb0, decide_eq_true_eq, decide_eq_false_iff_not, simprocAttr] at hb) <;> (try (exfalso; omega))) | (refine hK _ _ ?_; clear hK; try simp only [pst0, simprocAttr]))
       all_goals (simp only [Ty.w, simprocAttr, Ex.cells, Bool.true_or, Bool.false_or, and_self])
      | false =>
       repeat' (first | refine a_seq fun K hK => ?_ | (refine a_regionS ?_; simp only [Ty.w, simprocAttr, hk3, hk4, hk5]) | (refine a_cond _ (by (try simp only [Ty.w, simprocAttr, hk3, hk4, hk5]); rfl) (fun hb => ?_) (fun hb => ?_) <;> (try simp only [hb0, decide_eq_true_eq, decide_eq_false_iff_not, simprocAttr] at hb) <;> (try (exfalso; omega))) | (refine hK _ _ ?_; clear hK; try simp only [pst0, simprocAttr]))
       all_goals (simp only [Ty.w, simprocAttr, Ex.cells, Bool.true_or, Bool.false_or, and_self])
    ·generalize (b3 || b4 || b5) = bb at hF ⊢
     rintro S h' ⟨rfl, g1, g2, g3, g62⟩
     refine hK _ _ ?_
     clear hK
     simp only [Ex.cells] at g3
     clear hT
     cases bb with
     | false =>
      simp only [Bool.false_eq_true, if_false] at hF
      subst hF
      repeat' (first | refine a_seq fun K hK => ?_ | ((first | refine a_regionS ?_ | refine a_ret ?_); simp only [Ty.w, simprocAttr, g1, g2, g3, g62]) | (refine a_skip ?_; try simp only [pst0, simprocAttr]) | (refine a_cond _ (by (try simp only [Ty.w, simprocAttr, g1, g2, g3, g62]); rfl) (fun hb => ?_) (fun hb => ?_) <;> (try simp only [hb0, decide_eq_true_eq, decide_eq_false_iff_not, simprocAttr] at hb) <;> (try (exfalso; omega))) | (refine hK _ _ ?_; clear hK; try simp only [pst0, simprocAttr]))
     | true =>
      simp only [if_true] at hF
      cases q1 : (v == 0) with
      | false =>
       rw [q1] at hF
       simp only [Bool.false_and, Bool.and_false, Bool.false_eq_true, if_false] at hF
       subst hF
       repeat' (first | refine a_seq fun K hK => ?_ | ((first | refine a_regionS ?_ | refine a_ret ?_); simp only [Ty.w, simprocAttr, g1, g2, g3, g62, q1, hlA]) | (refine a_cond _ (by (try simp only [Ty.w, simprocAttr, g1, g2, g3, g62, q1, hlA]); rfl) (fun hb => ?_) (fun hb => ?_) <;> (try simp only [hb0, decide_eq_true_eq, decide_eq_false_iff_not, simprocAttr] at hb) <;> (try (exfalso; omega))) | (refine hK _ _ ?_; clear hK; try simp only [pst0, simprocAttr]))
      | true =>
       rw [q1] at hF
       cases q2 : (name.data.toList == (#[] : Array UInt8).toList) with
       | false =>
        rw [q2] at hF
        simp only [Bool.false_and, Bool.and_false, Bool.false_eq_true, if_false] at hF
        subst hF
        repeat' (first | refine a_seq fun K hK => ?_ | ((first | refine a_regionS ?_ | refine a_ret ?_); simp only [Ty.w, simprocAttr, g1, g2, g3, g62, q1, q2, hlA]) | (refine a_cond _ (by (try simp only [Ty.w, simprocAttr, g1, g2, g3, g62, q1, q2, hlA]); rfl) (fun hb => ?_) (fun hb => ?_) <;> (try simp only [hb0, decide_eq_true_eq, decide_eq_false_iff_not, simprocAttr] at hb) <;> (try (exfalso; omega))) | (refine hK _ _ ?_; clear hK; try simp only [pst0, simprocAttr]))
       | true =>
        rw [q2] at hF
        cases q3 : ((args.length : Int) == 0) with
        | false =>
         rw [q3] at hF
         simp only [Bool.false_and, Bool.and_false, Bool.false_eq_true, if_false] at hF
         subst hF
         repeat' (first | refine a_seq fun K hK => ?_ | ((first | refine a_regionS ?_ | refine a_ret ?_); simp only [Ty.w, simprocAttr, g1, g2, g3, g62, q1, q2, q3, hlA]) | (refine a_cond _ (by (try simp only [Ty.w, simprocAttr, g1, g2, g3, g62, q1, q2, q3, hlA]); rfl) (fun hb => ?_) (fun hb => ?_) <;> (try simp only [hb0, decide_eq_true_eq, decide_eq_false_iff_not, simprocAttr] at hb) <;> (try (exfalso; omega))) | (refine hK _ _ ?_; clear hK; try simp only [pst0, simprocAttr]))
        | true =>
         rw [q3] at hF
         simp only [Bool.true_and, if_true] at hF
         cases q4 : ((kids.length : Int) == 2) with
         | false =>
          have hF2 : F = (false, n + 1) := by
           rw [← hF]
           split
           ·simp at q4
           ·rfl
          clear hF
          subst hF2
          repeat' (first | refine a_seq fun K hK => ?_ | ((first | refine a_regionS ?_ | refine a_ret ?_); simp only [Ty.w, simprocAttr, g1, g2, g3, g62, q1, q2, q3, q4, hlA, hlK]) | (refine a_cond _ (by (try simp only [Ty.w, simprocAttr, g1, g2, g3, g62, q1, q2, q3, q4, hlA, hlK]); rfl) (fun hb => ?_) (fun hb => ?_) <;> (try simp only [hb0, decide_eq_true_eq, decide_eq_false_iff_not, simprocAttr] at hb) <;> (try (exfalso; omega))) | (refine hK _ _ ?_; clear hK; try simp only [pst0, simprocAttr]))
         | true =>
          obtain ⟨a, b, rfl⟩ : ∃ a b, kids = [a, b] := by
           match kids, q4 with
           | [], q => simp at q
           | [a], q => simp at q
           | [a, b], _ => exact ⟨a, b, rfl⟩
           | _ :: _ :: _ :: _, q => simp at q; omega
          have ca := ih a (by simp) (hks a (by simp)) (d + 1) (n + 1) (by omega) (by omega) id (h.set id (cntO (n + 1))) (by simp [Heap.set])
          have cb0 := ih b (by simp) (hks b (by simp)) (d + 1)
          have hle := formedM_le a (d + 1) (n + 1)
          have hF3 : F = (match formedM a (d + 1) (n + 1) with | (true, c') => formedM b (d + 1) c' | (false, c') => (false, c')) := hF.symm
          clear hF
          have r0 := Ex.rows_get (l := [a, b]) (i := 0) rfl
          have r1 := Ex.rows_get (l := [a, b]) (i := 1) rfl
          have q5 : (((Ex.rows [a, b]).length : Int) == 2) = true := by rw [Ex.rows_len]; exact q4
          generalize Ex.rows [a, b] = RR at r0 r1 q5 g3
          clear q4
          generalize formedM a (d + 1) (n + 1) = W at ca hle hF3
          obtain ⟨b1, c1⟩ := W
          simp only [set_set, natc] at ca hle hF3
          clear ih hks hlK
          cases b1 with
          | false =>
           simp only at hF3
           subst hF3
           clear cb0
           obtain ⟨aop, aname, an, aargs, akids⟩ := a
           obtain ⟨bop, bname, bn, bargs, bkids⟩ := b
           simp only [Ex.cells] at ca r0 r1
           have W := And.intro g1 (And.intro g2 (And.intro g3 (And.intro g62 (And.intro q1 (And.intro q2 (And.intro q3 (And.intro q5 (And.intro r0 (And.intro r1 (And.intro hlA wd))))))))))
           repeat' (first | refine a_seq fun K hK => ?_ | (refine a_regionS ?_; simp only [Ty.w, simprocAttr, W]) | (refine a_cond _ (by (try simp only [Ty.w, simprocAttr, W]); rfl) (fun hb => ?_) (fun hb => ?_) <;> (try simp only [hb0, decide_eq_true_eq, decide_eq_false_iff_not, simprocAttr] at hb) <;> (try (exfalso; omega))))
           refine owp_useH (ca) (by (try simp only [Ty.w, simprocAttr, W]); try rfl) ?_; simp only [Ty.w, simprocAttr, W]
           repeat' (first | (refine a_ret ?_; simp only [Ty.w, simprocAttr, W]) | (refine hK _ _ ?_; clear hK; try simp only [pst0, simprocAttr]))
          | true =>
           have cb := cb0 c1 (by omega) (hle rfl) id (h.set id (cntO c1)) (by simp [Heap.set])
           simp only at hF3
           rw [← hF3] at cb
           obtain ⟨b2, c2⟩ := F
           simp only [set_set, natc] at cb ⊢
           clear cb0 hF3
           obtain ⟨aop, aname, an, aargs, akids⟩ := a
           obtain ⟨bop, bname, bn, bargs, bkids⟩ := b
           simp only [Ex.cells] at ca cb r0 r1
           have W := And.intro g1 (And.intro g2 (And.intro g3 (And.intro g62 (And.intro q1 (And.intro q2 (And.intro q3 (And.intro q5 (And.intro r0 (And.intro r1 (And.intro hlA wd))))))))))
           repeat' (first | refine a_seq fun K hK => ?_ | (refine a_regionS ?_; simp only [Ty.w, simprocAttr, W]) | (refine a_cond _ (by (try simp only [Ty.w, simprocAttr, W]); rfl) (fun hb => ?_) (fun hb => ?_) <;> (try simp only [hb0, decide_eq_true_eq, decide_eq_false_iff_not, simprocAttr] at hb) <;> (try (exfalso; omega))))
           refine owp_useH (ca) (by (try simp only [Ty.w, simprocAttr, W]); try rfl) ?_; simp only [Ty.w, simprocAttr, W]
           skip
           refine owp_useH (cb) (by (try simp only [Ty.w, simprocAttr, W]); try rfl) ?_; simp only [Ty.w, simprocAttr, W]
           repeat' (first | (refine a_ret ?_; simp only [Ty.w, simprocAttr, W]) | (refine hK _ _ ?_; clear hK; try simp only [pst0, simprocAttr]))
def validE (e : Ex) : Bool := (formedM e 0 0).1 && (svalid (exW e) 0 0).1
theorem formedM_shaped : ∀ (e : Ex) (d n : Nat), (formedM e d n).1 = true → shapedE e = true := by
 refine Ex.ind ?_
 intro op name v args kids ih d n
 unfold formedM shapedE
 split
 ·split
  ·exact id
  ·split
   ·exact id
   ·split
    ·split
     ·rename_i h0
      rw [h0]
      split
      ·rename_i a b
       have ha := ih a (by simp) (d + 1) (n + 1)
       split
       ·rename_i c' he
        rw [he] at ha
        intro hb
        have := ih b (by simp) (d + 1) c' hb
        simp [ha rfl, this]
       ·simp
      ·simp
     ·simp
    ·simp
 ·simp
end Go.Proofs.Ytjlkapgpjamnkaa
namespace Go.Proofs.Ytjlkapgpjamnkaa
open Go.AM
set_option maxHeartbeats 2000000
set_option maxRecDepth 20000
theorem wordM_ok {s : ByteArray} (h : s.size ≤ bigN) : (wordM s).ok := by
 simp only [wordM, Sx.ok, Sx.oks, List.length_nil]
 exact ⟨by omega, by omega, h, Nat.zero_le _, trivial⟩
theorem listM_ok {l : List Sx} (hl : l.length ≤ bigN) (h : Sx.oks l) : (listM l).ok := by
 simp only [listM, Sx.ok]
 refine ⟨by omega, by omega, by simp [bigN, ByteArray.size], hl, h⟩
theorem wordsM_ok {first : ByteArray} {l : List ByteArray} (h0 : first.size ≤ bigN) (hl : l.length ≤ 1048576) (h : ∀ s ∈ l, s.size ≤ bigN) : (wordsM first l).ok := by
 refine listM_ok (by simp [bigN]; omega) (Sx.oks_iff.2 ?_)
 intro k hk
 simp only [List.map_cons, List.mem_cons, List.mem_map] at hk
 rcases hk with rfl | ⟨s, hs, rfl⟩
 ·exact wordM_ok h0
 ·exact wordM_ok (h s hs)
theorem exW_ok : ∀ e : Ex, e.ok → e.small → (exW e).ok := by
 refine Ex.ind ?_
 intro op name n args kids ih hok hsm
 simp only [Ex.ok] at hok
 simp only [Ex.small] at hsm
 obtain ⟨hop, hname, hn, hargs, hkl, hks⟩ := hok
 rw [Ex.oks_iff] at hks
 have hsk := Ex.smalls_iff.1 hsm.2
 unfold exW
 split
 ·simp only [Sx.ok, Sx.oks, List.length_nil]
  refine ⟨by omega, hn, by simp [bigN, ByteArray.size], by simp, trivial⟩
 ·split
  ·exact wordsM_ok hname hsm.1 hargs.2
  ·split
   ·rename_i a b
    refine listM_ok (by simp [bigN]) ?_
    simp only [Sx.oks]
    exact ⟨wordM_ok hop, ih a (by simp) (hks a (by simp)) (hsk a (by simp)), ih b (by simp) (hks b (by simp)) (hsk b (by simp)), trivial⟩
   ·refine listM_ok (by simp [bigN]) ?_
    simp only [Sx.oks]
    exact ⟨wordM_ok hop, trivial⟩
theorem validE_c {e : Ex} (hok : e.ok) (hsm : e.small) (h : Heap) : PCall Try.prog 42 [.agg e.cells] h fun r h' => r = .sc (.bool (validE e)) ∧ h' = h := by
 have hf := formed_c e hok 0 0 (by omega) (by omega) h.next (h.new (.arr 1 [[.sc (.int .i64 0)]])) (by simp [Heap.new, cntO])
 have hsh := formedM_shaped e 0 0
 have hx := exW_ok e hok hsm
 have hv : validE e = ((formedM e 0 0).1 && (svalid (exW e) 0 0).1) := rfl
 rw [hv]
 refine PCall.quiet Ty.hb_42 ?_
 generalize formedM e 0 0 = W at hf hsh ⊢
 obtain ⟨b, c⟩ := W
 cases b with
 | false =>
  obtain ⟨op, name, n, args, kids⟩ := e
  simp only [Ex.cells, Int.natCast_zero] at hf ⊢
  refine pcall_body (ow := fun t => t == 5) (wf := fun _ => false) Ty.mixed Try.func42 rfl Ty.hb_42 (by rw [Try.ntmps42]; simp) ?_
  rw [Try.ntmps42, Try.results42]
  repeat' (first | refine a_seq fun K hK => ?_ | (refine a_regionS ?_; simp only [Ty.w, simprocAttr]) | (refine hK _ _ ?_; clear hK; try simp only [pst0, simprocAttr]))
  refine owp_useH (hf) (by (try simp only [Ty.w, simprocAttr, ]); try rfl) ?_; simp only [Ty.w, simprocAttr, ]
  repeat' (first | (refine a_ret ?_; simp only [Ty.w, simprocAttr]) | (refine hK _ _ ?_; clear hK; try simp only [pst0, simprocAttr]))
  exact ((Grow.refl h).new _).set (Nat.le_refl _) _
 | true =>
  have hw := writeE_c e hsm (hsh rfl)
  have hvv := svalid_c hx
  generalize exW e = X at hw hvv ⊢
  obtain ⟨op, name, n, args, kids⟩ := e
  obtain ⟨ki, va, li, co, te, ks⟩ := X
  simp only [Ex.cells, Sx.cells, Int.natCast_zero] at hf hw hvv ⊢
  refine pcall_body (ow := fun t => t == 5) (wf := fun _ => false) Ty.mixed Try.func42 rfl Ty.hb_42 (by rw [Try.ntmps42]; simp) ?_
  rw [Try.ntmps42, Try.results42]
  repeat' (first | refine a_seq fun K hK => ?_ | (refine a_regionS ?_; simp only [Ty.w, simprocAttr]) | (refine hK _ _ ?_; clear hK; try simp only [pst0, simprocAttr]))
  refine owp_useH (hf) (by (try simp only [Ty.w, simprocAttr, ]); try rfl) ?_; simp only [Ty.w, simprocAttr, ]
  skip
  refine owp_useQ (hw _) (by (try simp only [Ty.w, simprocAttr, ]); try rfl) ?_; simp only [Ty.w, simprocAttr, ]
  skip
  refine owp_useQ (hvv _) (by (try simp only [Ty.w, simprocAttr, ]); try rfl) ?_; simp only [Ty.w, simprocAttr, ]
  repeat' (first | (refine a_ret ?_; simp only [Ty.w, simprocAttr]) | (refine hK _ _ ?_; clear hK; try simp only [pst0, simprocAttr]))
  exact ((Grow.refl h).new _).set (Nat.le_refl _) _
def errV (n : Int) : PV := .sc (.iface 47 (.int .i64 n))
end Go.Proofs.Ytjlkapgpjamnkaa
namespace Go.AM
mutual
def Sx.nodes : Sx → Nat
 | .mk _ _ _ _ _ kids => Sx.nodess kids + 1
def Sx.nodess : List Sx → Nat
 | [] => 0
 | k :: ks => k.nodes + Sx.nodess ks
end
mutual
theorem Sx.count_eq : ∀ (x : Sx), x.nodes ≤ bigN → x.count = x.nodes
 | .mk _ _ _ _ _ kids, h => by
  simp only [Sx.nodes] at h
  simp only [Sx.count, Sx.nodes]
  have := Sx.counts_eq kids 1 (by omega)
  simp only [Int.natCast_one] at this
  rw [this]; congr 1; omega
theorem Sx.counts_eq : ∀ (l : List Sx) (n : Nat), n + Sx.nodess l ≤ bigN → Sx.counts n l = (n + Sx.nodess l : Nat)
 | [], n, h => by simp [Sx.counts, Sx.nodess]
 | k :: ks, n, h => by
  simp only [Sx.nodess] at h
  simp only [Sx.counts, Sx.nodess]
  rw [Sx.count_eq k (by omega)]
  have hw : IntKind.i64.wrap ((n : Int) + (k.nodes : Int)) = ((n + k.nodes : Nat) : Int) := by unfold bigN at h; rw [wrap64 (by omega) (by omega)]; omega
  rw [hw, Sx.counts_eq ks (n + k.nodes) (by omega)]
  congr 1; omega
end
end Go.AM
namespace Go.Proofs.Ytjlkapgpjamnkaa
open Go.AM
theorem lowB_self (c : UInt8) : lowB c = some c ↔ wB c = true := by
 unfold lowB
 cases hu : upB c with
 | true =>
  have h1 : 65 ≤ c.toNat ∧ c.toNat ≤ 90 := by simpa [upB] using hu
  have hw : wB c = false := by
   have h2 : letB c = false := by simp [letB]; omega
   have h3 : digB c = false := by simp [digB]; omega
   have h4 : signs.contains c = false := by
    rw [signs_c]
    have : ∀ v : Int, v = 45 ∨ v = 95 ∨ v = 63 ∨ v = 58 ∨ v = 60 ∨ v = 62 ∨ v = 61 ∨ v = 43 ∨ v = 42 → ((c.toNat : Int) == v) = false := by
     intro v hv
     rw [beq_eq_false_iff_ne]
     omega
    simp [this]
   simp only [wB, h2, h3, h4, Bool.or_false]
  rw [hw]
  simp only [if_true, Option.some.injEq, Bool.false_eq_true, iff_false]
  intro e
  have := congrArg UInt8.toNat e
  rw [UInt8.toNat_add] at this
  simp at this
  omega
 | false =>
  simp only [Bool.false_eq_true, if_false]
  cases wB c <;> simp
theorem lowL_self : ∀ l : List UInt8, lowL l = some l ↔ l.all wB = true
 | [] => by simp [lowL]
 | c :: l => by
  have h1 := lowB_self c
  have h2 := lowL_self l
  simp only [lowL, List.all_cons, Bool.and_eq_true]
  cases hc : lowB c with
  | none => rw [hc] at h1; simp at h1 ⊢; intro hw; rw [h1] at hw; simp at hw
  | some d =>
   rw [hc] at h1
   cases hl : lowL l with
   | none => rw [hl] at h2; simp at h2 ⊢; intro _; simpa using h2
   | some p =>
    rw [hl] at h2
    simp only [Option.map_some, Option.some.injEq, List.cons.injEq]
    rw [← h1, ← h2]
    simp
theorem word_same (s : ByteArray) : wordB s = wordR s := by
 have hsl : s.data.toList.length = s.size := by rw [Array.length_toList]; try rfl
 have hself := lowL_self s.data.toList
 unfold wordB wordR lowS
 by_cases hc : 0 < s.size ∧ s.size ≤ 32
 ·rw [if_pos hc]
  have d1 : decide (1 ≤ s.size) = true := by simp; omega
  have d2 : decide (s.size ≤ 32) = true := by simp; omega
  rw [d1, d2]
  cases hl : lowL s.data.toList with
  | none =>
   rw [hl] at hself
   have : s.data.toList.all wB = false := by
    cases h : s.data.toList.all wB with
    | false => rfl
    | true => rw [h] at hself; simp at hself
   simp only [this, Bool.false_and]
  | some p =>
   rw [hl] at hself
   cases h : s.data.toList.all wB with
   | true =>
    rw [h] at hself
    have hp : p = s.data.toList := by simpa using hself
    subst hp
    have : (⟨s.data.toList.toArray⟩ : ByteArray) = s := ba_ext rfl
    simp only [this, bEq, beq_self_eq_true, Bool.true_and]
   | false =>
    rw [h] at hself
    have hp : ¬ p = s.data.toList := by simpa using hself
    have : bEq (⟨p.toArray⟩ : ByteArray) s = false := by simp only [bEq, beq_eq_false_iff_ne]; exact hp
    simp only [this, Bool.and_false, Bool.false_and]
 ·rw [if_neg hc]
  have : (decide (1 ≤ s.size) && decide (s.size ≤ 32)) = false := by
   cases h : (decide (1 ≤ s.size) && decide (s.size ≤ 32)) with
   | false => rfl
   | true =>
    simp only [Bool.and_eq_true, decide_eq_true_eq] at h
    exact absurd ⟨by omega, h.2⟩ hc
  simp only [Bool.false_and]
  rw [Bool.and_assoc (s.data.toList.all wB), this]; simp
mutual
theorem svalid_iff : ∀ (x : Sx) (d n : Nat), d ≤ 32 → n ≤ 4096 → ((svalid x d n).1 = true ↔ shapedS x = true ∧ d + x.depth ≤ 32 ∧ n + x.nodes ≤ 4096) ∧ ((svalid x d n).1 = true → (svalid x d n).2 = n + x.nodes)
 | .mk kind value line col text kids, d, n, hd, hn => by
  have e1 : (kids.isEmpty = true) ↔ kids = [] := List.isEmpty_iff
  unfold svalid shapedS
  simp only [Sx.depth, Sx.nodes]
  by_cases h0 : n + 1 > 4096
  ·rw [if_pos h0]
   refine ⟨⟨by simp, fun ⟨_, _, h⟩ => by omega⟩, by simp⟩
  ·rw [if_neg h0]
   by_cases k1 : kind = 1
   ·rw [if_pos k1, if_pos k1, word_same]
    have k3 : ¬ kind = 3 := by omega
    rw [if_neg k3]
    simp only [Bool.and_eq_true, e1, decide_eq_true_eq, beq_iff_eq]
    constructor
    ·constructor
     ·rintro ⟨⟨h1, h2⟩, rfl⟩
      exact ⟨⟨⟨h2, rfl⟩, h1⟩, by simp only [Sx.depths]; omega, by simp only [Sx.nodess]; omega⟩
     ·rintro ⟨⟨⟨h1, h2⟩, h3⟩, _⟩
      exact ⟨⟨h3, h1⟩, h2⟩
    ·rintro ⟨_, rfl⟩; simp [Sx.nodess]
   ·rw [if_neg k1, if_neg k1]
    by_cases k2 : kind = 2
    ·rw [if_pos k2, if_pos k2]
     have k3 : ¬ kind = 3 := by omega
     rw [if_neg k3]
     simp only [Bool.and_eq_true, e1, decide_eq_true_eq, bEq, ge_iff_le]
     constructor
     ·constructor
      ·rintro ⟨⟨⟨h1, rfl⟩, h3⟩, h4⟩
       exact ⟨⟨⟨⟨h1, rfl⟩, h3⟩, h4⟩, by simp only [Sx.depths]; omega, by simp only [Sx.nodess]; omega⟩
      ·rintro ⟨⟨⟨⟨h1, h2⟩, h3⟩, h4⟩, _⟩
       exact ⟨⟨⟨h1, h2⟩, h3⟩, h4⟩
     ·rintro ⟨⟨⟨_, rfl⟩, _⟩, _⟩; simp [Sx.nodess]
    ·rw [if_neg k2, if_neg k2]
     by_cases k3 : kind = 3
     ·rw [if_pos k3, if_pos k3, if_pos k3]
      simp only [Bool.and_eq_true, beq_iff_eq]
      by_cases hc : bEq text ⟨#[]⟩ = true ∧ value = 0 ∧ d ≠ 32
      ·rw [if_pos hc]
       obtain ⟨g1, g2⟩ := svalids_iff kids (d + 1) (n + 1) (by omega) (by omega)
       rw [g1]
       refine ⟨⟨fun ⟨h1, h2, h3⟩ => ⟨⟨h1, by simpa [bEq] using hc.1, hc.2.1⟩, by omega, by omega⟩, fun ⟨⟨h1, _, _⟩, h2, h3⟩ => ⟨h1, by omega, by omega⟩⟩, fun h => ?_⟩
       rw [g2 (g1.2 h)]; omega
      ·rw [if_neg hc]
       refine ⟨⟨by simp, fun ⟨⟨h1, h4, h5⟩, h2, h3⟩ => ?_⟩, by simp⟩
       exact absurd ⟨by simp only [bEq, beq_iff_eq]; exact h4, h5, by omega⟩ hc
     ·rw [if_neg k3, if_neg k3]
      simp
theorem svalids_iff : ∀ (l : List Sx) (d n : Nat), d ≤ 32 → n ≤ 4096 → ((svalids l d n).1 = true ↔ shapedSs l = true ∧ d + Sx.depths 0 l ≤ 32 ∧ n + Sx.nodess l ≤ 4096) ∧ ((svalids l d n).1 = true → (svalids l d n).2 = n + Sx.nodess l)
 | [], d, n, hd, hn => by simp [svalids, shapedSs, Sx.depths, Sx.nodess, hd, hn]
 | k :: ks, d, n, hd, hn => by
  obtain ⟨g1, g2⟩ := svalid_iff k d n hd hn
  have hdm : ∀ (m : Nat) (l : List Sx), Sx.depths m l = max m (Sx.depths 0 l) := by
   intro m l
   induction l generalizing m with
   | nil => simp [Sx.depths]
   | cons k l ih => simp only [Sx.depths]; rw [ih (max m k.depth), ih (max 0 k.depth)]; omega
  simp only [svalids, shapedSs, Sx.depths, Sx.nodess, Bool.and_eq_true]
  rw [hdm]
  cases hb : svalid k d n with
  | mk b n' =>
   rw [hb] at g1 g2
   cases b with
   | false =>
    simp only at g1 ⊢
    refine ⟨⟨by simp, fun ⟨⟨h1, _⟩, h2, h3⟩ => ?_⟩, by simp⟩
    exact absurd (g1.2 ⟨h1, by omega, by omega⟩) (by simp)
   | true =>
    simp only at g1 g2 ⊢
    obtain ⟨a1, a2, a3⟩ := g1.1 trivial
    have e := g2 trivial
    obtain ⟨f1, f2⟩ := svalids_iff ks d n' hd (by omega)
    rw [f1]
    refine ⟨⟨fun ⟨h1, h2, h3⟩ => ⟨⟨a1, h1⟩, by omega, by omega⟩, fun ⟨⟨_, h1⟩, h2, h3⟩ => ⟨h1, by omega, by omega⟩⟩, fun h => ?_⟩
    rw [f2 (f1.2 h)]; omega
end
def rvalidB (x : Sx) : Bool := shapedS x && decide ((x.depth : Int) ≤ 32) && decide (x.count ≤ 4096)
theorem valid_same {x : Sx} (h : x.nodes ≤ bigN) : (svalid x 0 0).1 = rvalidB x := by
 have h1 := (svalid_iff x 0 0 (by omega) (by omega)).1
 unfold rvalidB
 rw [Sx.count_eq x h]
 rw [Bool.eq_iff_iff, h1]
 simp only [Bool.and_eq_true, decide_eq_true_eq]
 constructor
 ·rintro ⟨a, b, c⟩; exact ⟨⟨a, by omega⟩, by omega⟩
 ·rintro ⟨⟨a, b⟩, c⟩; exact ⟨a, by omega, by omega⟩
end Go.Proofs.Ytjlkapgpjamnkaa
namespace Go.Proofs.Ytjlkapgpjamnkaa
open Go.AM
set_option maxHeartbeats 2000000
set_option maxRecDepth 20000
theorem rterm_c {h : Heap} {s : ByteArray} (hs : s.size ≤ bigN) : PCall Try.prog 125 [sPV s] h fun r h' => r = .sc (.bool (termB s)) ∧ h' = h := by
 have hs' : s.size ≤ 9223372036854775807 := by unfold bigN at hs; omega
 cases c1 : nameB s with
 | true =>
  have : termB s = true := by simp [termB, c1]
  refine pcall_body (ow := fun _ => false) (wf := fun _ => false) Ty.mixed Try.func125 rfl Ty.hb_125 (by rw [Try.ntmps125]; simp) ?_
  rw [Try.ntmps125, Try.results125]
  repeat' (first | refine a_seq fun K hK => ?_ | (refine a_regionS ?_; simp only [Ty.w, simprocAttr]) | (refine hK _ _ ?_; clear hK; try simp only [pst0, simprocAttr]))
  refine owp_useQ (rname_c (s := s) hs') (by (try simp only [Ty.w, simprocAttr, c1]); try rfl) ?_; simp only [Ty.w, simprocAttr, c1]
  repeat' (first | (refine a_ret ?_; simp only [Ty.w, simprocAttr, c1]) | (refine hK _ _ ?_; clear hK; try simp only [pst0, simprocAttr]))
  rw [this]
 | false =>
  have : termB s = varB s := by simp [termB, c1]
  refine pcall_body (ow := fun _ => false) (wf := fun _ => false) Ty.mixed Try.func125 rfl Ty.hb_125 (by rw [Try.ntmps125]; simp) ?_
  rw [Try.ntmps125, Try.results125]
  repeat' (first | refine a_seq fun K hK => ?_ | (refine a_regionS ?_; simp only [Ty.w, simprocAttr]) | (refine hK _ _ ?_; clear hK; try simp only [pst0, simprocAttr]))
  refine owp_useQ (rname_c (s := s) hs') (by (try simp only [Ty.w, simprocAttr, c1]); try rfl) ?_; simp only [Ty.w, simprocAttr, c1]
  skip
  refine owp_useQ (rvariable_c (s := s) hs') (by (try simp only [Ty.w, simprocAttr, c1]); try rfl) ?_; simp only [Ty.w, simprocAttr, c1]
  repeat' (first | (refine a_ret ?_; simp only [Ty.w, simprocAttr, c1]) | (refine hK _ _ ?_; clear hK; try simp only [pst0, simprocAttr]))
  rw [this]
theorem rall_c {h : Heap} {l : List ByteArray} (hl : l.length ≤ bigN) (hs : ∀ s ∈ l, s.size ≤ bigN) : PCall Try.prog 80 [.imm 1 (strRows l)] h fun r h' => r = .sc (.bool (l.all termB)) ∧ h' = h := by
 unfold bigN at hl
 have hlen := strRows_len l
 refine pcall_body (ow := fun _ => false) (wf := fun _ => false) Ty.mixed Try.func80 rfl Ty.hb_80 (by rw [Try.ntmps80]; simp) ?_
 rw [Try.ntmps80, Try.results80]
 repeat' (first | refine a_seq fun K hK => ?_ | (refine a_block ?_) | (refine a_regionS ?_; simp only [Ty.w, simprocAttr, hlen]) | (refine hK _ _ ?_; clear hK; try simp only [pst0, simprocAttr]))
 refine a_loop (fun m S h' => h' = h ∧ S 0 = .imm 1 (strRows l) ∧ ∃ k : Nat, S 3 = .sc (.int .i64 k) ∧ k ≤ l.length ∧ m = l.length - k ∧ l.all termB = (l.drop k).all termB) l.length ?_ ?_
 ·simp only [Ty.w, simprocAttr]
  exact ⟨0, rfl, by omega, rfl, by simp⟩
 ·rintro m S h' ⟨rfl, g0, k, g3, hk, rfl, hinv⟩
  by_cases hlt : k < l.length
  ·have hd : decide ((k : Int) < (l.length : Int)) = true := by simp; omega
   have w7 : IntKind.i64.wrap ((k : Int) + 1) = k + 1 := by rw [wrap64 (by omega) (by omega)]
   obtain ⟨w, hx⟩ : ∃ w, l[k]? = some w := ⟨l[k], List.getElem?_eq_getElem hlt⟩
   have hr := strRows_get hx
   have hc := fun h : Heap => rterm_c (h := h) (hs w (List.mem_of_getElem? hx))
   rw [drop_of_get hx, List.all_cons] at hinv
   generalize termB w = b at hc hinv
   cases b with
   | false =>
    rw [Bool.false_and] at hinv
    repeat' (first | refine a_seq fun K hK => ?_ | (refine a_regionS ?_; simp only [Ty.w, simprocAttr, g0, g3, hd, hr]) | (refine a_skip ?_; try simp only [pst0, simprocAttr]) | (refine a_cond _ (by (try simp only [Ty.w, simprocAttr, g0, g3, hd, hr]); rfl) (fun hb => ?_) (fun hb => ?_) <;> (try simp only [hb0, decide_eq_true_eq, decide_eq_false_iff_not, simprocAttr] at hb) <;> (try (exfalso; omega))) | (refine hK _ _ ?_; clear hK; try simp only [pst0, simprocAttr]))
    refine owp_useQ (hc _) (by (try simp only [Ty.w, simprocAttr, g0, g3, hd, hr, Bool.not_false]); try rfl) ?_; simp only [Ty.w, simprocAttr, g0, g3, hd, hr, Bool.not_false]
    repeat' (first | refine a_seq fun K hK => ?_ | ((first | refine a_regionS ?_ | refine a_ret ?_); simp only [Ty.w, simprocAttr, g0, g3, Bool.not_false]) | (refine hK _ _ ?_; clear hK; try simp only [pst0, simprocAttr]))
    rw [hinv]
   | true =>
    rw [Bool.true_and] at hinv
    repeat' (first | refine a_seq fun K hK => ?_ | (refine a_regionS ?_; simp only [Ty.w, simprocAttr, g0, g3, hd, hr]) | (refine a_skip ?_; try simp only [pst0, simprocAttr]) | (refine a_cond _ (by (try simp only [Ty.w, simprocAttr, g0, g3, hd, hr]); rfl) (fun hb => ?_) (fun hb => ?_) <;> (try simp only [hb0, decide_eq_true_eq, decide_eq_false_iff_not, simprocAttr] at hb) <;> (try (exfalso; omega))) | (refine hK _ _ ?_; clear hK; try simp only [pst0, simprocAttr]))
    refine owp_useQ (hc _) (by (try simp only [Ty.w, simprocAttr, g0, g3, hd, hr, Bool.not_true]); try rfl) ?_; simp only [Ty.w, simprocAttr, g0, g3, hd, hr, Bool.not_true]
    repeat' (first | (refine a_block ?_) | (refine a_regionS ?_; simp only [Ty.w, simprocAttr, g0, g3, w7, Bool.not_true]) | (refine a_skip ?_; try simp only [pst0, simprocAttr]) | (refine hK _ _ ?_; clear hK; try simp only [pst0, simprocAttr]))
    exact ⟨l.length - (k + 1), by omega, k + 1, by simp, by omega, rfl, hinv⟩
  ·have hd : decide ((k : Int) < (l.length : Int)) = false := by simp; omega
   rw [List.drop_eq_nil_of_le (by omega)] at hinv
   repeat' (first | refine a_seq fun K hK => ?_ | ((first | refine a_regionS ?_ | refine a_ret ?_); simp only [Ty.w, simprocAttr, g0, g3, hlen, hd]) | (refine a_exit ?_; try simp only [pst0, simprocAttr]) | (refine a_cond _ (by (try simp only [Ty.w, simprocAttr, g0, g3, hlen, hd]); rfl) (fun hb => ?_) (fun hb => ?_) <;> (try simp only [hb0, decide_eq_true_eq, decide_eq_false_iff_not, simprocAttr] at hb) <;> (try (exfalso; omega))) | ((first | refine hK _ _ ?_ | (clear hK; refine hK _ _ ?_)); clear hK; try simp only [pst0, simprocAttr]))
   rw [hinv]; try rfl
theorem rwd_c {h : Heap} {s : ByteArray} : PCall Try.prog 71 [sPV s] h fun r h' => r = .agg (wordM s).cells ∧ h' = h := by
 refine PCall.frz Ty.hb_71 ?_
 refine pcall_body (ow := fun _ => false) (wf := fun _ => false) Ty.mixed Try.func71 rfl Ty.hb_71 (by rw [Try.ntmps71]; simp) ?_
 rw [Try.ntmps71, Try.results71]
 repeat' (first | refine a_seq fun K hK => ?_ | ((first | refine a_regionS ?_ | refine a_ret ?_); simp only [Ty.w, simprocAttr]) | (refine hK _ _ ?_; clear hK; try simp only [pst0, simprocAttr]))
 refine ⟨?_, ((Grow.refl h).new _).set (Nat.le_refl _) _⟩
 simp only [wordM, Sx.cells, Sx.rows, FrzTo, FrzL]
 exact ⟨_, rfl, rfl, rfl, rfl, rfl, rfl, .inr (.inl ⟨rfl, .inr rfl⟩), trivial⟩
theorem rlist_c {h : Heap} {first : ByteArray} {l : List ByteArray} (hl : l.length ≤ 1048576) : PCall Try.prog 70 [sPV first, .imm 1 (strRows l)] h fun r h' => r = .agg (wordsM first l).cells ∧ h' = h := by
 refine PCall.frz Ty.hb_70 ?_
 have hll := strRows_len l
 have hw : ∀ (s : ByteArray) (h : Heap), PCall Try.prog 71 [sPV s] h fun r h' => r = .agg (wordM s).cells ∧ h' = h := fun s h => rwd_c
 simp only [wordM, Sx.cells, Sx.rows] at hw
 refine pcall_body (ow := fun t => t == 9) (wf := fun _ => false) Ty.mixed Try.func70 rfl Ty.hb_70 (by rw [Try.ntmps70]; simp) ?_
 rw [Try.ntmps70, Try.results70]
 repeat' (first | refine a_seq fun K hK => ?_ | (refine a_regionS ?_; simp only [Ty.w, simprocAttr]) | (refine hK _ _ ?_; clear hK; try simp only [pst0, simprocAttr]))
 refine owp_useQ (hw first _) (by (try simp only [Ty.w, simprocAttr, ]); try rfl) ?_; simp only [Ty.w, simprocAttr, ]
 repeat' (first | refine a_seq fun K hK => ?_ | (refine a_block ?_) | (refine a_regionS ?_; simp only [Ty.w, simprocAttr, hll]) | (refine hK _ _ ?_; clear hK; try simp only [pst0, simprocAttr]))
 refine a_loop (fun m S h' => S 1 = .imm 1 (strRows l) ∧ S 4 = .ptr h.next 0 0 ∧ ∃ k id : Nat, S 6 = .sc (.int .i64 k) ∧ S 5 = .own id 0 (k + 1) ∧ k ≤ l.length ∧ m = l.length - k ∧ Grow h h' ∧ h.next < id ∧ id < h'.next ∧
  h'.obj h.next = some (.arr 6 [[.sc (.int .i64 0), .sc (.int .i64 0), .sc (.int .i64 0), .sc (.int .i64 0), .sc (.string ⟨#[]⟩), .sc (.slice none 0 0)]]) ∧ h'.obj id = some (.arr 6 (Sx.rows ((first :: l.take k).map wordM)))) l.length ?_ ?_
 ·simp only [Ty.w, simprocAttr]
  have e1 : ¬ h.next = h.next + 1 := by omega
  refine ⟨0, h.next + 1, rfl, rfl, by omega, rfl, ((Grow.refl h).new _).new _, by omega, by simp [Heap.new], ?_, ?_⟩
  ·simp [Heap.new]
  ·simp [Heap.new, wordM, Sx.rows, Sx.cells]
 ·rintro m S h' ⟨g1, g4, k, id, g6, g5, hk, rfl, hg, hlo, hhi, o1, o3⟩
  by_cases hlt : k < l.length
  ·have hd : decide ((k : Int) < (l.length : Int)) = true := by simp; omega
   have w7 : IntKind.i64.wrap ((k : Int) + 1) = k + 1 := by rw [wrap64 (by omega) (by omega)]
   obtain ⟨s, hx⟩ : ∃ s, l[k]? = some s := ⟨_, List.getElem?_eq_getElem hlt⟩
   have hr := strRows_get hx
   have hrl : (Sx.rows ((first :: l.take k).map wordM)).length = k + 1 := by rw [Sx.rows_len]; simp; omega
   generalize hR : Sx.rows ((first :: l.take k).map wordM) = R at o3 hrl
   have htk : List.take (k + 1) R = R := List.take_of_length_le (by omega)
   have hb : (k + 1 + 1) * 72 ≤ 140737488355328 := by omega
   have W := And.intro g1 (And.intro g4 (And.intro g5 (And.intro g6 (And.intro hll (And.intro hd (And.intro hr (And.intro w7 (And.intro o3 (And.intro hrl (And.intro htk hb))))))))))
   repeat' (first | refine a_seq fun K hK => ?_ | (refine a_block ?_) | ((first | refine a_regionS ?_ | refine a_region (fun K hK => ?_)); simp only [Ty.w, simprocAttr, W]) | (refine a_skip ?_; try simp only [pst0, simprocAttr]) | (refine a_cond _ (by (try simp only [Ty.w, simprocAttr, W]); rfl) (fun hb => ?_) (fun hb => ?_) <;> (try simp only [hb0, decide_eq_true_eq, decide_eq_false_iff_not, simprocAttr] at hb) <;> (try (exfalso; omega))) | (refine hK _ _ ?_; clear hK; try simp only [pst0, simprocAttr]))
   refine owp_useQ (hw s _) (by (try simp only [Ty.w, simprocAttr, W]); try rfl) ?_; simp only [Ty.w, simprocAttr, W]
   repeat' (first | (refine a_regionS ?_; simp only [Ty.w, simprocAttr, W]) | (refine hK _ _ ?_; clear hK; try simp only [pst0, simprocAttr]) | (rw [if_pos]; rotate_left 1; omega; simp only [Ty.w, simprocAttr, W]))
   refine ⟨l.length - (k + 1), by omega, k + 1, h'.next, by simp, rfl, by omega, rfl, (hg.kill (by omega)).new _, by omega, by simp [Heap.new, Heap.kill], ?_, ?_⟩
   ·have a2 : ¬ h.next = h'.next := by omega
    have a3 : ¬ h.next = id := by omega
    simp only [Heap.new, Heap.kill, a2, a3, if_false]
    exact o1
   ·simp only [Heap.new, Heap.kill, if_true]
    rw [List.take_add_one, hx, ← hR]
    simp only [Sx.rows_map, List.map_cons, List.map_append, List.map_nil, Option.toList_some, List.cons_append, wordM, Sx.cells]
  ·have hd : decide ((k : Int) < (l.length : Int)) = false := by simp; omega
   have hke : k = l.length := by omega
   subst hke
   rw [List.take_length] at o3
   repeat' (first | refine a_seq fun K hK => ?_ | ((first | refine a_regionS ?_ | refine a_ret ?_); simp only [Ty.w, simprocAttr, g1, g4, g5, g6, hll, hd, o1, o3]) | (refine a_exit ?_; try simp only [pst0, simprocAttr]) | (refine a_cond _ (by (try simp only [Ty.w, simprocAttr, g1, g4, g5, g6, hll, hd, o1, o3]); rfl) (fun hb => ?_) (fun hb => ?_) <;> (try simp only [hb0, decide_eq_true_eq, decide_eq_false_iff_not, simprocAttr] at hb) <;> (try (exfalso; omega))) | ((first | refine hK _ _ ?_ | (clear hK; refine hK _ _ ?_)); clear hK; try simp only [pst0, simprocAttr]))
   refine ⟨?_, hg.set (Nat.le_refl _) _⟩
   simp only [wordsM, listM, Sx.cells, FrzTo, FrzL]
   refine ⟨_, rfl, rfl, rfl, rfl, rfl, rfl, .inr (.inr ⟨id, 0, l.length + 1, Sx.rows ((first :: l).map wordM), rfl, by omega, ?_, ?_, ?_⟩), trivial⟩
   ·simp only [Heap.set]; rw [if_neg (by omega)]; exact o3
   ·rw [Sx.rows_len]; simp
   ·rw [List.drop_zero, List.take_of_length_le (by rw [Sx.rows_len]; simp)]
    exact sxs_frz _ _ _
theorem rwriteE_c : ∀ e : Ex, e.small → shapedE e = true → ∀ h : Heap, PCall Try.prog 43 [.agg e.cells] h fun r h' => r = .agg (exW e).cells ∧ h' = h := by
 refine Ex.ind ?_
 intro op name n args kids ih hsm hsh h
 simp only [Ex.small] at hsm
 obtain ⟨hal, hks⟩ := hsm
 rw [Ex.smalls_iff] at hks
 unfold shapedE at hsh
 unfold exW
 refine PCall.frz Ty.hb_43 ?_
 cases c1 : bEq op opNum with
 | true =>
  have c1' : (op.data.toList == (#[110, 117, 109, 98, 101, 114] : Array UInt8).toList) = true := c1
  simp only [if_true, Ex.cells]
  refine pcall_body (ow := fun _ => false) (wf := fun _ => false) Ty.mixed Try.func43 rfl Ty.hb_43 (by rw [Try.ntmps43]; simp) ?_
  rw [Try.ntmps43, Try.results43]
  repeat' (first | refine a_seq fun K hK => ?_ | ((first | refine a_regionS ?_ | refine a_ret ?_); simp only [Ty.w, simprocAttr, c1']) | (refine hK _ _ ?_; clear hK; try simp only [pst0, simprocAttr]))
  refine ⟨?_, ((Grow.refl h).new _).set (Nat.le_refl _) _⟩
  simp only [Sx.cells, Sx.rows, FrzTo, FrzL]
  exact ⟨_, rfl, rfl, rfl, rfl, rfl, rfl, .inr (.inl ⟨rfl, .inr rfl⟩), trivial⟩
 | false =>
  have c1' : (op.data.toList == (#[110, 117, 109, 98, 101, 114] : Array UInt8).toList) = false := c1
  rw [c1] at hsh
  simp only [Bool.false_eq_true, if_false] at hsh ⊢
  cases c2 : bEq op opFlu with
  | true =>
   have c2' : (op.data.toList == (#[102, 108, 117, 101, 110, 116] : Array UInt8).toList) = true := c2
   have hw := fun h : Heap => rlist_c (h := h) (first := name) hal
   have hfz := fun (n : Nat) (h : Heap) => sx_frz n h (wordsM name args)
   simp only [if_true, Ex.cells]
   generalize wordsM name args = X at hw hfz
   obtain ⟨ki, va, li, co, te, ks⟩ := X
   simp only [Sx.cells] at hw hfz ⊢
   refine pcall_body (ow := fun _ => false) (wf := fun _ => false) Ty.mixed Try.func43 rfl Ty.hb_43 (by rw [Try.ntmps43]; simp) ?_
   rw [Try.ntmps43, Try.results43]
   repeat' (first | refine a_seq fun K hK => ?_ | (refine a_regionS ?_; simp only [Ty.w, simprocAttr, c1', c2']) | (refine hK _ _ ?_; clear hK; try simp only [pst0, simprocAttr]))
   refine owp_useQ (hw _) (by (try simp only [Ty.w, simprocAttr, c1', c2']); try rfl) ?_; simp only [Ty.w, simprocAttr, c1', c2']
   repeat' (first | (refine a_ret ?_; simp only [Ty.w, simprocAttr]) | (refine hK _ _ ?_; clear hK; try simp only [pst0, simprocAttr]))
   refine ⟨?_, ((Grow.refl h).new _).set (Nat.le_refl _) _⟩
   simp only [FrzTo]
   exact ⟨_, rfl, hfz _ _⟩
  | false =>
   have c2' : (op.data.toList == (#[102, 108, 117, 101, 110, 116] : Array UInt8).toList) = false := c2
   rw [c2] at hsh
   simp only [Bool.false_eq_true, if_false] at hsh ⊢
   split at hsh
   case isFalse => simp at hsh
   simp only [Bool.and_eq_true] at hsh
   obtain ⟨⟨⟨_, _⟩, _⟩, hsh⟩ := hsh
   split at hsh
   case h_2 => simp at hsh
   rename_i a b
   simp only [Bool.and_eq_true] at hsh
   have ca := ih a (by simp) (hks a (by simp)) hsh.1
   have cb := ih b (by simp) (hks b (by simp)) hsh.2
   have hw := fun h : Heap => rwd_c (h := h) (s := op)
   have hfz := fun (n : Nat) (h : Heap) => sx_frz n h (listM [wordM op, exW a, exW b])
   generalize exW a = xa at ca hfz ⊢
   generalize exW b = xb at cb hfz ⊢
   clear ih hks hsh
   obtain ⟨aop, aname, an, aargs, akids⟩ := a
   obtain ⟨bop, bname, bn, bargs, bkids⟩ := b
   obtain ⟨ki, va, li, co, te, ks⟩ := xa
   obtain ⟨ki2, va2, li2, co2, te2, ks2⟩ := xb
   simp only [Ex.cells, Ex.rows, listM, Sx.cells, Sx.rows, wordM] at ca cb hw hfz ⊢
   refine pcall_body (ow := fun _ => false) (wf := fun _ => false) Ty.mixed Try.func43 rfl Ty.hb_43 (by rw [Try.ntmps43]; simp) ?_
   rw [Try.ntmps43, Try.results43]
   repeat' (first | refine a_seq fun K hK => ?_ | (refine a_block ?_) | ((first | refine a_regionS ?_ | refine a_drawS (by decide +kernel) ?_); simp only [Ty.w, simprocAttr, c1', c2']) | (refine a_skip ?_; try simp only [pst0, simprocAttr]) | (refine hK _ _ ?_; clear hK; try simp only [pst0, simprocAttr]))
   (first | refine a_dcall0 (hw _) (by (try simp only [Ty.w, simprocAttr, ]); try rfl) ?_ | refine a_dcallA (hw _) (by (try simp only [Ty.w, simprocAttr, ]); try rfl) (by simp only [Ty.w, simprocAttr, ]; try trivial) ?_); simp only [Ty.w, simprocAttr, Option.getD_some, ]
   skip
   (first | refine a_dcall0 (ca _) (by (try simp only [Ty.w, simprocAttr, ]); try rfl) ?_ | refine a_dcallA (ca _) (by (try simp only [Ty.w, simprocAttr, ]); try rfl) (by simp only [Ty.w, simprocAttr, ]; try trivial) ?_); simp only [Ty.w, simprocAttr, Option.getD_some, ]
   skip
   (first | refine a_dcall0 (cb _) (by (try simp only [Ty.w, simprocAttr, ]); try rfl) ?_ | refine a_dcallA (cb _) (by (try simp only [Ty.w, simprocAttr, ]); try rfl) (by simp only [Ty.w, simprocAttr, ]; try trivial) ?_); simp only [Ty.w, simprocAttr, Option.getD_some, ]
   repeat' (first | (refine a_ret ?_; simp only [Ty.w, simprocAttr]) | (refine hK _ _ ?_; clear hK; try simp only [pst0, simprocAttr]) | (with_reducible refine a_past2 (by simp only [List.forall_mem_cons, Ty.w, simprocAttr]; (repeat' apply And.intro) <;> first | trivial | exact .inl (by decide +kernel)) ?_; try simp only [Ty.w, simprocAttr]))
   refine ⟨?_, ((Grow.refl h).new _).set (Nat.le_refl _) _⟩
   simp only [FrzTo]
   exact ⟨_, rfl, hfz _ _⟩
end Go.Proofs.Ytjlkapgpjamnkaa
namespace Go.Proofs.Ytjlkapgpjamnkaa
open Go.AM
set_option maxHeartbeats 2000000
set_option maxRecDepth 20000
def kindOf : Sx → Int
 | .mk k _ _ _ _ _ => k
def textOf : Sx → ByteArray
 | .mk _ _ _ _ t _ => t
def headM : Sx → Option (ByteArray × List Sx)
 | .mk kind _ _ _ _ kids => if kind = 3 then (match kids with
  | x :: rest => bif kindOf x == 1 then some (textOf x, rest) else none
  | [] => none) else none
def headV : Option (ByteArray × List Sx) → PV
 | some (t, l) => .tup [sPV t, .imm 6 (Sx.rows l), .sc (.bool true)]
 | none => .tup [sPV ⟨#[]⟩, .sc (.slice none 0 0), .sc (.bool false)]
theorem head_c {x : Sx} (hok : x.ok) (h : Heap) : PCall Try.prog 113 [.agg x.cells] h fun r h' => r = headV (headM x) ∧ h' = h := by
 obtain ⟨kind, value, line, col, text, kids⟩ := x
 simp only [Sx.ok] at hok
 obtain ⟨_, _, _, hk, _⟩ := hok
 generalize hF : headM (.mk kind value line col text kids) = F
 simp only [headM] at hF
 simp only [Sx.cells]
 have hlen := Sx.rows_len kids
 cases k3 : (kind != 3) with
 | true =>
  rw [if_neg (by simpa using k3)] at hF
  subst hF
  refine pcall_body (ow := fun _ => false) (wf := fun _ => false) Ty.mixed Try.func113 rfl Ty.hb_113 (by rw [Try.ntmps113]; simp) ?_
  rw [Try.ntmps113, Try.results113]
  repeat' (first | refine a_seq fun K hK => ?_ | ((first | refine a_regionS ?_ | refine a_ret ?_); simp only [Ty.w, simprocAttr, k3]) | (refine hK _ _ ?_; clear hK; try simp only [pst0, simprocAttr]))
  all_goals rfl
 | false =>
  rw [if_pos (by simpa using k3)] at hF
  cases kids with
  | nil =>
   simp only at hF
   subst hF
   have q : (((Sx.rows []).length : Int) == 0) = true := rfl
   generalize Sx.rows [] = R at q hlen
   refine pcall_body (ow := fun _ => false) (wf := fun _ => false) Ty.mixed Try.func113 rfl Ty.hb_113 (by rw [Try.ntmps113]; simp) ?_
   rw [Try.ntmps113, Try.results113]
   repeat' (first | refine a_seq fun K hK => ?_ | ((first | refine a_regionS ?_ | refine a_ret ?_); simp only [Ty.w, simprocAttr, k3, q]) | (refine hK _ _ ?_; clear hK; try simp only [pst0, simprocAttr]))
   all_goals rfl
  | cons y rest =>
   simp only at hF
   have q : (((Sx.rows (y :: rest)).length : Int) == 0) = false := by rw [hlen]; simp; omega
   have r0 := Sx.rows_get (l := y :: rest) (i := 0) rfl
   have q1 : (1 : Int) ≤ ((Sx.rows (y :: rest)).length : Int) := by rw [hlen]; simp; omega
   have ht : List.take (((Sx.rows (y :: rest)).length : Int) - 1).toNat (List.drop 1 (Sx.rows (y :: rest))) = Sx.rows rest := by
    simp only [Sx.rows, List.drop_succ_cons, List.drop_zero, List.length_cons]
    rw [List.take_of_length_le (by omega)]
   generalize Sx.rows (y :: rest) = R at q r0 q1 ht hlen ⊢
   obtain ⟨ki, va, li, co, te, ks⟩ := y
   simp only [Sx.cells, kindOf, textOf] at r0 hF
   cases k1 : (ki != 1) with
   | true =>
    rw [show (ki == 1) = false by simpa using k1] at hF
    simp only [cond_false] at hF
    subst hF
    refine pcall_body (ow := fun _ => false) (wf := fun _ => false) Ty.mixed Try.func113 rfl Ty.hb_113 (by rw [Try.ntmps113]; simp) ?_
    rw [Try.ntmps113, Try.results113]
    repeat' (first | refine a_seq fun K hK => ?_ | ((first | refine a_regionS ?_ | refine a_ret ?_); simp only [Ty.w, simprocAttr, k3, q, r0, k1]) | (refine hK _ _ ?_; clear hK; try simp only [pst0, simprocAttr]))
    all_goals rfl
   | false =>
    rw [show (ki == 1) = true by simpa using k1] at hF
    simp only [cond_true] at hF
    subst hF
    refine pcall_body (ow := fun _ => false) (wf := fun _ => false) Ty.mixed Try.func113 rfl Ty.hb_113 (by rw [Try.ntmps113]; simp) ?_
    rw [Try.ntmps113, Try.results113]
    repeat' (first | refine a_seq fun K hK => ?_ | ((first | refine a_regionS ?_ | refine a_drawS (by decide +kernel) ?_ | refine a_ret ?_); simp only [Ty.w, simprocAttr, k3, q, r0, k1, q1, ht, Option.getD_some, Option.getD_none, Int.le_refl, Int.toNat_one]) | (refine a_skip ?_; try simp only [pst0, simprocAttr]) | (refine a_cond _ (by (try simp only [Ty.w, simprocAttr, k3, q, r0, k1, q1, ht, Option.getD_some, Option.getD_none, Int.le_refl, Int.toNat_one]); rfl) (fun hb => ?_) (fun hb => ?_) <;> (try simp only [hb0, decide_eq_true_eq, decide_eq_false_iff_not, simprocAttr] at hb) <;> (try (exfalso; omega))) | (refine hK _ _ ?_; clear hK; try simp only [pst0, simprocAttr]))
    all_goals rfl
def termsM : List Sx → List ByteArray × Int
 | [] => ([], 0)
 | x :: l => bif kindOf x == 1 then (bif termB (textOf x) then (match termsM l with
  | (t, c) => bif c == 0 then (textOf x :: t, 0) else ([], c)) else ([], 8)) else ([], 2)
def errP (c : Int) : PV := bif c == 0 then .sc .nilIface else errV c
theorem termsM_code : ∀ l : List Sx, (termsM l).2 = 0 ∨ ((termsM l).1 = [] ∧ ((termsM l).2 = 2 ∨ (termsM l).2 = 8))
 | [] => .inl rfl
 | x :: l => by
  have := termsM_code l
  simp only [termsM]
  cases kindOf x == 1 with
  | false => simp
  | true =>
   cases termB (textOf x) with
   | false => simp
   | true =>
    simp only [cond_true]
    cases hq : (termsM l).2 == 0 with
    | false =>
     rcases this with h | h
     ·rw [h] at hq; simp at hq
     ·simp only [cond_false, true_and]; exact .inr h.2
    | true => simp
theorem tl_frzS {h : Heap} {id0 : Nat} {p : PV} {l : List ByteArray} (t : Tl h id0 1 p (strRows l)) : FrzTo id0 h (.imm 1 (strRows l)) p := t.frz fun r hr p hp => by
 simp only [strRows, List.mem_map] at hr
 obtain ⟨s, _, rfl⟩ := hr
 simp only [List.mem_singleton] at hp
 exact ⟨_, hp⟩
theorem terms_c {l : List Sx} (hl : l.length ≤ 1048576) (hok : ∀ x ∈ l, x.ok) (h : Heap) : PCall Try.prog 118 [.imm 6 (Sx.rows l)] h fun r h' => r = .tup [.imm 1 (strRows (termsM l).1), errP (termsM l).2] ∧ h' = h := by
 refine PCall.frz Ty.hb_118 ?_
 have hll := Sx.rows_len l
 refine pcall_body (ow := fun _ => false) (wf := fun _ => false) Ty.mixed Try.func118 rfl Ty.hb_118 (by rw [Try.ntmps118]; simp) ?_
 rw [Try.ntmps118, Try.results118]
 repeat' (first | refine a_seq fun K hK => ?_ | (refine a_block ?_) | (refine a_regionS ?_; simp only [Ty.w, simprocAttr, hll]) | (refine hK _ _ ?_; clear hK; try simp only [pst0, simprocAttr]))
 refine a_loop (fun m S h' => S 7 = .imm 6 (Sx.rows l) ∧ S 8 = .sc (.int .i64 l.length) ∧ ∃ (k : Nat) (o : PV) (pre : List ByteArray), S 9 = .sc (.int .i64 k) ∧ S 4 = o ∧ k ≤ l.length ∧ m = l.length - k ∧ Grow h h' ∧ pre.length = k ∧ Tl h' h.next 1 o (strRows pre) ∧
  termsM l = (match termsM (l.drop k) with | (t, c) => bif c == 0 then (pre ++ t, 0) else ([], c))) l.length ?_ ?_
 ·simp only [Ty.w, simprocAttr]
  refine ⟨0, _, [], rfl, rfl, by omega, rfl, Grow.refl _, rfl, Tl.nil, ?_⟩
  have := termsM_code l
  rw [List.drop_zero]
  cases hq : (termsM l).2 == 0
  ·rcases this with h | h
   ·rw [h] at hq; simp at hq
   ·simp only [hq, cond_false]; rw [← h.1]
  ·have h0 : (termsM l).2 = 0 := by simpa using hq
   simp only [hq, cond_true, List.nil_append]; rw [← h0]
 ·rintro m S h' ⟨g7, g8, k, o, pre, g9, g4, hk, rfl, hg, hpl, tl, hinv⟩
  by_cases hlt : k < l.length
  ·have hd : decide ((k : Int) < (l.length : Int)) = true := by simp; omega
   have w7 : IntKind.i64.wrap ((k : Int) + 1) = k + 1 := by rw [wrap64 (by omega) (by omega)]
   obtain ⟨x, hx⟩ : ∃ x, l[k]? = some x := ⟨_, List.getElem?_eq_getElem hlt⟩
   have hr := Sx.rows_get hx
   have hxk := hok x (List.mem_of_getElem? hx)
   rw [drop_of_get hx] at hinv
   simp only [termsM] at hinv
   obtain ⟨ki, va, li, co, te, ks⟩ := x
   simp only [Sx.ok] at hxk
   obtain ⟨_, _, hte, _⟩ := hxk
   simp only [Sx.cells] at hr
   simp only [kindOf, textOf] at hinv
   have nz : ∀ id, id < h'.next → (id = h'.next) = False := fun id hi => by simp; omega
   have tl2 := tl.up (h' := (h'.new (.arr 6 [[.sc (.int .i64 0), .sc (.int .i64 0), .sc (.int .i64 0), .sc (.int .i64 0), .sc (.string ⟨#[]⟩), .sc (.slice none 0 0)]])).set h'.next (.arr 6 [[.sc (.int .i64 ki), .sc (.int .i64 va), .sc (.int .i64 li), .sc (.int .i64 co), sPV te, .imm 6 (Sx.rows ks)]])) (by simp [Heap.new, Heap.set]) (fun j _ hj => by simp only [Heap.new, Heap.set]; rw [if_neg (by omega), if_neg (by omega)])
   have hg2 : Grow h ((h'.new (.arr 6 [[.sc (.int .i64 0), .sc (.int .i64 0), .sc (.int .i64 0), .sc (.int .i64 0), .sc (.string ⟨#[]⟩), .sc (.slice none 0 0)]])).set h'.next (.arr 6 [[.sc (.int .i64 ki), .sc (.int .i64 va), .sc (.int .i64 li), .sc (.int .i64 co), sPV te, .imm 6 (Sx.rows ks)]])) := (hg.new _).set hg.le _
   cases q1 : (ki != 1) with
   | true =>
    rw [show (ki == 1) = false by simpa using q1] at hinv
    simp only [cond_false] at hinv
    repeat' (first | refine a_seq fun K hK => ?_ | ((first | refine a_regionS ?_ | refine a_ret ?_); simp only [Ty.w, simprocAttr, g7, g8, g9, g4, hd, hr, q1]) | (refine a_skip ?_; try simp only [pst0, simprocAttr]) | (refine a_cond _ (by (try simp only [Ty.w, simprocAttr, g7, g8, g9, g4, hd, hr, q1]); rfl) (fun hb => ?_) (fun hb => ?_) <;> (try simp only [hb0, decide_eq_true_eq, decide_eq_false_iff_not, simprocAttr] at hb) <;> (try (exfalso; omega))) | (refine hK _ _ ?_; clear hK; try simp only [pst0, simprocAttr]))
    have e : termsM l = ([], 2) := hinv
    have e2 : errP 2 = errV 2 := rfl
    rw [e, e2]
    refine ⟨?_, hg2⟩
    simp only [errV, FrzTo, FrzL]
    exact ⟨_, rfl, .inr (.inl ⟨rfl, .inr rfl⟩), rfl, trivial⟩
   | false =>
    rw [show (ki == 1) = true by simpa using q1] at hinv
    simp only [cond_true] at hinv
    have hc := fun h : Heap => term_c (h := h) hte
    generalize termB te = b at hc hinv
    cases b with
    | false =>
     simp only [cond_false] at hinv
     repeat' (first | refine a_seq fun K hK => ?_ | (refine a_regionS ?_; simp only [Ty.w, simprocAttr, g7, g8, g9, g4, hd, hr, q1]) | (refine a_skip ?_; try simp only [pst0, simprocAttr]) | (refine a_cond _ (by (try simp only [Ty.w, simprocAttr, g7, g8, g9, g4, hd, hr, q1]); rfl) (fun hb => ?_) (fun hb => ?_) <;> (try simp only [hb0, decide_eq_true_eq, decide_eq_false_iff_not, simprocAttr] at hb) <;> (try (exfalso; omega))) | (refine hK _ _ ?_; clear hK; try simp only [pst0, simprocAttr]))
     refine owp_useQ (hc _) (by (try simp only [Ty.w, simprocAttr, g7, g8, g9, g4, hd, hr, q1, Bool.not_false]); try rfl) ?_; simp only [Ty.w, simprocAttr, g7, g8, g9, g4, hd, hr, q1, Bool.not_false]
     repeat' (first | refine a_seq fun K hK => ?_ | ((first | refine a_regionS ?_ | refine a_ret ?_); simp only [Ty.w, simprocAttr, g7, g8, g9, g4, Bool.not_false]) | (refine hK _ _ ?_; clear hK; try simp only [pst0, simprocAttr]))
     have e : termsM l = ([], 8) := hinv
     have e2 : errP 8 = errV 8 := rfl
     rw [e, e2]
     refine ⟨?_, hg2⟩
     simp only [errV, FrzTo, FrzL]
     exact ⟨_, rfl, .inr (.inl ⟨rfl, .inr rfl⟩), rfl, trivial⟩
    | true =>
     simp only [cond_true] at hinv
     obtain ⟨H, t1, t2, t3, t4, t5⟩ := tl2.tail
     have hpr : (strRows pre).length = k := by rw [strRows_len]; exact hpl
     have hb : (k + 1) * 16 ≤ 140737488355328 := by omega
     repeat' (first | refine a_seq fun K hK => ?_ | (refine a_regionS ?_; simp only [Ty.w, simprocAttr, g7, g8, g9, g4, hd, hr, q1]) | (refine a_skip ?_; try simp only [pst0, simprocAttr]) | (refine a_cond _ (by (try simp only [Ty.w, simprocAttr, g7, g8, g9, g4, hd, hr, q1]); rfl) (fun hb => ?_) (fun hb => ?_) <;> (try simp only [hb0, decide_eq_true_eq, decide_eq_false_iff_not, simprocAttr] at hb) <;> (try (exfalso; omega))) | (refine hK _ _ ?_; clear hK; try simp only [pst0, simprocAttr]))
     refine owp_useQ (hc _) (by (try simp only [Ty.w, simprocAttr, g7, g8, g9, g4, hd, hr, q1, Bool.not_true]); try rfl) ?_; simp only [Ty.w, simprocAttr, g7, g8, g9, g4, hd, hr, q1, Bool.not_true]
     repeat' (first | ((first | refine a_regionS ?_ | refine a_region (fun K hK => ?_)); simp only [Ty.w, simprocAttr, g7, g8, g9, g4, w7, Bool.not_true, t1, t2, hpr, hb]) | (refine a_skip ?_; try simp only [pst0, simprocAttr]) | (refine a_cond _ (by (try simp only [Ty.w, simprocAttr, g7, g8, g9, g4, w7, Bool.not_true, t1, t2, hpr, hb]); rfl) (fun hb => ?_) (fun hb => ?_) <;> (try simp only [hb0, decide_eq_true_eq, decide_eq_false_iff_not, simprocAttr] at hb) <;> (try (exfalso; omega))) | (refine hK _ _ ?_; clear hK; try simp only [pst0, simprocAttr]) | (rw [if_pos]; rotate_left 1; omega; simp only [Ty.w, simprocAttr, g7, g8, g9, g4, w7, Bool.not_true, t1, t2, hpr, hb]))
     have t3' : H.next = h'.next + 1 := by rw [t3]; simp [Heap.new, Heap.set]
     have hkp := t5 h ⟨hg2.le, hg2.old⟩ (Nat.le_refl _)
     have hgH : Grow h H := ⟨hkp.1, hkp.2⟩
     have hap : strRows pre ++ [[PV.sc (.string te)]] = strRows (pre ++ [te]) := by simp [strRows]
     rw [hap]
     refine ⟨l.length - (k + 1), by omega, k + 1, .own H.next 0 (k + 1), pre ++ [te], by simp, by rw [t3'], by omega, rfl, hgH.new _, by simp [hpl], Tl.grow hkp.1 (by rw [strRows_len]; simp [hpl]), ?_⟩
     rw [hinv]
     generalize termsM (List.drop (k + 1) l) = W
     obtain ⟨t, c⟩ := W
     cases hq : c == 0 with
     | false => simp only [hq, cond_false]
     | true => simp only [hq, cond_true, beq_self_eq_true, List.append_assoc, List.cons_append, List.nil_append]
  ·have hd : decide ((k : Int) < (l.length : Int)) = false := by simp; omega
   rw [List.drop_eq_nil_of_le (by omega)] at hinv
   simp only [termsM, beq_self_eq_true, cond_true, List.append_nil] at hinv
   repeat' (first | refine a_seq fun K hK => ?_ | ((first | refine a_regionS ?_ | refine a_ret ?_); simp only [Ty.w, simprocAttr, g7, g8, g9, g4, hd]) | (refine a_exit ?_; try simp only [pst0, simprocAttr]) | (refine a_cond _ (by (try simp only [Ty.w, simprocAttr, g7, g8, g9, g4, hd]); rfl) (fun hb => ?_) (fun hb => ?_) <;> (try simp only [hb0, decide_eq_true_eq, decide_eq_false_iff_not, simprocAttr] at hb) <;> (try (exfalso; omega))) | ((first | refine hK _ _ ?_ | (clear hK; refine hK _ _ ?_)); clear hK; try simp only [pst0, simprocAttr]))
   have e : termsM l = (pre, 0) := hinv
   have e2 : errP 0 = .sc .nilIface := rfl
   rw [e, e2]
   refine ⟨?_, hg⟩
   have h1 := tl_frzS tl
   unfold FrzTo
   refine ⟨_, rfl, ?_⟩
   unfold FrzL
   refine ⟨h1, ?_⟩
   unfold FrzL
   exact ⟨by simp only [FrzTo], by simp only [FrzL]⟩
end Go.Proofs.Ytjlkapgpjamnkaa
namespace Go.Proofs.Ytjlkapgpjamnkaa
open Go.AM
set_option maxHeartbeats 2000000
set_option maxRecDepth 20000
def opObj : ByteArray := ⟨#[111, 98, 106, 101, 99, 116]⟩
def typedB (s : ByteArray) : Bool := nameB s || bEq s opObj
theorem typed_c {h : Heap} {s : ByteArray} (hs : s.size ≤ bigN) : PCall Try.prog 107 [sPV s] h fun r h' => r = .sc (.bool (typedB s)) ∧ h' = h := by
 have hs' : s.size ≤ 9223372036854775807 := by unfold bigN at hs; omega
 have hc := fun h : Heap => fname_c (h := h) hs'
 have hT : typedB s = (nameB s || (s.data.toList == (#[111, 98, 106, 101, 99, 116] : Array UInt8).toList)) := rfl
 rw [hT]
 generalize nameB s = b at hc ⊢
 cases b with
 | true =>
  refine pcall_body (ow := fun _ => false) (wf := fun _ => false) Ty.mixed Try.func107 rfl Ty.hb_107 (by rw [Try.ntmps107]; simp) ?_
  rw [Try.ntmps107, Try.results107]
  repeat' (first | refine a_seq fun K hK => ?_ | (refine a_regionS ?_; simp only [Ty.w, simprocAttr]) | (refine hK _ _ ?_; clear hK; try simp only [pst0, simprocAttr]))
  refine owp_useQ (hc _) (by (try simp only [Ty.w, simprocAttr, ]); try rfl) ?_; simp only [Ty.w, simprocAttr, ]
  repeat' (first | (refine a_ret ?_; simp only [Ty.w, simprocAttr]) | (refine hK _ _ ?_; clear hK; try simp only [pst0, simprocAttr]))
  all_goals rfl
 | false =>
  refine pcall_body (ow := fun _ => false) (wf := fun _ => false) Ty.mixed Try.func107 rfl Ty.hb_107 (by rw [Try.ntmps107]; simp) ?_
  rw [Try.ntmps107, Try.results107]
  repeat' (first | refine a_seq fun K hK => ?_ | (refine a_regionS ?_; simp only [Ty.w, simprocAttr]) | (refine hK _ _ ?_; clear hK; try simp only [pst0, simprocAttr]))
  refine owp_useQ (hc _) (by (try simp only [Ty.w, simprocAttr, ]); try rfl) ?_; simp only [Ty.w, simprocAttr, ]
  repeat' (first | (refine a_ret ?_; simp only [Ty.w, simprocAttr]) | (refine hK _ _ ?_; clear hK; try simp only [pst0, simprocAttr]))
  all_goals rfl
def paramsW : List Pm → List Sx
 | [] => []
 | p :: l => wordM p.name :: wordM ⟨#[45]⟩ :: wordM p.type :: paramsW l
theorem paramsW_append : ∀ l m : List Pm, paramsW (l ++ m) = paramsW l ++ paramsW m
 | [], m => rfl
 | p :: l, m => by simp only [List.cons_append, paramsW, paramsW_append l m]
theorem paramsW_len : ∀ l : List Pm, (paramsW l).length = 3 * l.length
 | [] => rfl
 | p :: l => by simp only [paramsW, List.length_cons, paramsW_len l]; omega
theorem tl_frzX {h : Heap} {id0 : Nat} {p : PV} {l : List Sx} (t : Tl h id0 6 p (Sx.rows l)) : FrzTo id0 h (.imm 6 (Sx.rows l)) p := by
 simp only [FrzTo]
 rcases t with ⟨h1, h2⟩ | ⟨id, h1, h2, rfl, ho⟩
 ·exact .inr (.inl ⟨h1, h2.symm⟩)
 ·refine .inr (.inr ⟨id, 0, _, _, rfl, h1, ho, by omega, ?_⟩)
  rw [List.drop_zero, List.take_of_length_le (by omega)]
  exact sxs_frz _ _ _
theorem writeParams_c {l : List Pm} (hl : l.length ≤ 1048576) (h : Heap) : PCall Try.prog 112 [.imm 2 (pmRows l)] h fun r h' => r = .imm 6 (Sx.rows (paramsW l)) ∧ h' = h := by
 refine PCall.frz Ty.hb_112 ?_
 have hll := pmRows_len l
 have hw : ∀ (s : ByteArray) (h : Heap), PCall Try.prog 111 [sPV s] h fun r h' => r = .agg (wordM s).cells ∧ h' = h := fun s h => word_c
 simp only [wordM, Sx.cells, Sx.rows] at hw
 refine pcall_body (ow := fun _ => false) (wf := fun _ => false) Ty.mixed Try.func112 rfl Ty.hb_112 (by rw [Try.ntmps112]; simp) ?_
 rw [Try.ntmps112, Try.results112]
 repeat' (first | refine a_seq fun K hK => ?_ | (refine a_block ?_) | (refine a_regionS ?_; simp only [Ty.w, simprocAttr, hll]) | (refine hK _ _ ?_; clear hK; try simp only [pst0, simprocAttr]))
 refine a_loop (fun m S h' => S 6 = .imm 2 (pmRows l) ∧ S 7 = .sc (.int .i64 l.length) ∧ ∃ (k : Nat) (o : PV), S 8 = .sc (.int .i64 k) ∧ S 3 = o ∧ k ≤ l.length ∧ m = l.length - k ∧ Grow h h' ∧ Tl h' h.next 6 o (Sx.rows (paramsW (l.take k)))) l.length ?_ ?_
 ·simp only [Ty.w, simprocAttr]
  exact ⟨0, _, rfl, rfl, by omega, rfl, Grow.refl _, Tl.nil⟩
 ·rintro m S h' ⟨g6, g7, k, o, g8, g3, hk, rfl, hg, tl⟩
  by_cases hlt : k < l.length
  ·have hd : decide ((k : Int) < (l.length : Int)) = true := by simp; omega
   have w7 : IntKind.i64.wrap ((k : Int) + 1) = k + 1 := by rw [wrap64 (by omega) (by omega)]
   obtain ⟨p, hx⟩ : ∃ p, l[k]? = some p := ⟨_, List.getElem?_eq_getElem hlt⟩
   have hr := pmRows_get hx
   have tl2 := tl.up (h' := (h'.new (.arr 2 [[.sc (.string ⟨#[]⟩), .sc (.string ⟨#[]⟩)]])).set h'.next (.arr 2 [[sPV p.name, sPV p.type]])) (by simp [Heap.new, Heap.set]) (fun j _ hj => by simp only [Heap.new, Heap.set]; rw [if_neg (by omega), if_neg (by omega)])
   have hg2 : Grow h ((h'.new (.arr 2 [[.sc (.string ⟨#[]⟩), .sc (.string ⟨#[]⟩)]])).set h'.next (.arr 2 [[sPV p.name, sPV p.type]])) := (hg.new _).set hg.le _
   obtain ⟨H, t1, t2, t3, t4, t5⟩ := tl2.tail
   have hpr : (Sx.rows (paramsW (l.take k))).length = 3 * k := by rw [Sx.rows_len, paramsW_len, List.length_take]; omega
   have hb : (3 * k + 3) * 72 ≤ 140737488355328 := by omega
   have hR : Sx.rows (paramsW (l.take (k + 1))) = Sx.rows (paramsW (l.take k)) ++ [[.sc (.int .i64 1), .sc (.int .i64 0), .sc (.int .i64 0), .sc (.int .i64 0), sPV p.name, .imm 6 []], [.sc (.int .i64 1), .sc (.int .i64 0), .sc (.int .i64 0), .sc (.int .i64 0), sPV ⟨#[45]⟩, .imm 6 []], [.sc (.int .i64 1), .sc (.int .i64 0), .sc (.int .i64 0), .sc (.int .i64 0), sPV p.type, .imm 6 []]] := by
    rw [List.take_add_one, hx, paramsW_append]
    simp only [Sx.rows_map, List.map_append, Option.toList_some, paramsW, List.map_cons, List.map_nil, wordM, Sx.cells]
   generalize Sx.rows (paramsW (l.take k)) = R at tl tl2 t1 t2 hpr hR
   have W := And.intro g6 (And.intro g7 (And.intro g8 (And.intro g3 (And.intro w7 (And.intro t1 (And.intro t2 (And.intro hpr hb)))))))
   repeat' (first | refine a_seq fun K hK => ?_ | ((first | refine a_regionS ?_ | refine a_draw (by decide +kernel) (fun K hK => ?_)); simp only [Ty.w, simprocAttr, W, hd, hr, hll]) | (refine a_skip ?_; try simp only [pst0, simprocAttr]) | (refine a_cond _ (by (try simp only [Ty.w, simprocAttr, W, hd, hr, hll]); rfl) (fun hb => ?_) (fun hb => ?_) <;> (try simp only [hb0, decide_eq_true_eq, decide_eq_false_iff_not, simprocAttr] at hb) <;> (try (exfalso; omega))) | (refine hK _ _ ?_; clear hK; try simp only [pst0, simprocAttr]))
   (first | refine a_dcall0 (hw p.name _) (by (try simp only [Ty.w, simprocAttr, W]); try rfl) ?_ | refine a_dcallA (hw p.name _) (by (try simp only [Ty.w, simprocAttr, W]); try rfl) (by simp only [Ty.w, simprocAttr, W]; try trivial) ?_); simp only [Ty.w, simprocAttr, W, Option.getD_some]
   skip
   (first | refine a_dcall0 (hw ⟨#[45]⟩ _) (by (try simp only [Ty.w, simprocAttr, W]); try rfl) ?_ | refine a_dcallA (hw ⟨#[45]⟩ _) (by (try simp only [Ty.w, simprocAttr, W]); try rfl) (by simp only [Ty.w, simprocAttr, W]; try trivial) ?_); simp only [Ty.w, simprocAttr, W, Option.getD_some]
   skip
   (first | refine a_dcall0 (hw p.type _) (by (try simp only [Ty.w, simprocAttr, W]); try rfl) ?_ | refine a_dcallA (hw p.type _) (by (try simp only [Ty.w, simprocAttr, W]); try rfl) (by simp only [Ty.w, simprocAttr, W]; try trivial) ?_); simp only [Ty.w, simprocAttr, W, Option.getD_some]
   repeat' (first | (refine a_regionS ?_; simp only [Ty.w, simprocAttr, W]) | (refine hK _ _ ?_; clear hK; try simp only [pst0, simprocAttr]) | (with_reducible refine a_past2 (by simp only [List.forall_mem_cons, Ty.w, simprocAttr, g6, g7, g8, g3, w7, t1, t2, hpr, hb]; (repeat' apply And.intro) <;> first | trivial | exact .inl (by decide +kernel)) ?_; try simp only [Ty.w, simprocAttr, W]) | (rw [if_pos]; rotate_left 1; omega; simp only [Ty.w, simprocAttr, W]))
   have t3' : H.next = h'.next + 1 := by rw [t3]; simp [Heap.new, Heap.set]
   have hkp := t5 h ⟨hg2.le, hg2.old⟩ (Nat.le_refl _)
   have hgH : Grow h H := ⟨hkp.1, hkp.2⟩
   rw [← hR]
   have hRl : 3 * k + 3 = (Sx.rows (paramsW (l.take (k + 1)))).length := by rw [Sx.rows_len, paramsW_len, List.length_take]; omega
   exact ⟨l.length - (k + 1), by omega, k + 1, .own H.next 0 (3 * k + 3), by simp, by rw [t3'], by omega, rfl, hgH.new _, Tl.grow hkp.1 hRl⟩
  ·have hd : decide ((k : Int) < (l.length : Int)) = false := by simp; omega
   have hke : k = l.length := by omega
   subst hke
   rw [List.take_length] at tl
   repeat' (first | refine a_seq fun K hK => ?_ | ((first | refine a_regionS ?_ | refine a_ret ?_); simp only [Ty.w, simprocAttr, g6, g7, g8, g3, hd]) | (refine a_exit ?_; try simp only [pst0, simprocAttr]) | (refine a_cond _ (by (try simp only [Ty.w, simprocAttr, g6, g7, g8, g3, hd]); rfl) (fun hb => ?_) (fun hb => ?_) <;> (try simp only [hb0, decide_eq_true_eq, decide_eq_false_iff_not, simprocAttr] at hb) <;> (try (exfalso; omega))) | ((first | refine hK _ _ ?_ | (clear hK; refine hK _ _ ?_)); clear hK; try simp only [pst0, simprocAttr]))
   exact ⟨tl_frzX tl, hg⟩
end Go.Proofs.Ytjlkapgpjamnkaa
namespace Go.Proofs.Ytjlkapgpjamnkaa
open Go.AM
set_option maxHeartbeats 2000000
set_option maxRecDepth 20000
def countW (op : ByteArray) : Int :=
 if (op.data.toList == (#[110, 111, 116] : Array UInt8).toList) then 1
 else if (op.data.toList == (#[105, 109, 112, 108, 121] : Array UInt8).toList) then 2
 else if (op.data.toList == (#[102, 111, 114, 97, 108, 108] : Array UInt8).toList) then 2
 else if (op.data.toList == (#[101, 120, 105, 115, 116, 115] : Array UInt8).toList) then 2
 else if (op.data.toList == (#[61] : Array UInt8).toList) then 2
 else if (op.data.toList == (#[60] : Array UInt8).toList) then 2
 else if (op.data.toList == (#[60, 61] : Array UInt8).toList) then 2
 else if (op.data.toList == (#[62] : Array UInt8).toList) then 2
 else if (op.data.toList == (#[62, 61] : Array UInt8).toList) then 2
 else -1
theorem count_c {h : Heap} {op : ByteArray} : PCall Try.prog 114 [sPV op] h fun r h' => r = .sc (.int .i64 (countW op)) ∧ h' = h := by
 generalize hF : countW op = F
 unfold countW at hF
 cases c0 : (op.data.toList == (#[110, 111, 116] : Array UInt8).toList) with
 | true =>
  rw [c0] at hF
  simp only [if_true] at hF
  subst hF
  refine pcall_body (ow := fun _ => false) (wf := fun _ => false) Ty.mixed Try.func114 rfl Ty.hb_114 (by rw [Try.ntmps114]; simp) ?_
  rw [Try.ntmps114, Try.results114]
  repeat' (first | refine a_seq fun K hK => ?_ | ((first | refine a_regionS ?_ | refine a_ret ?_); simp only [Ty.w, simprocAttr, c0]) | (refine hK _ _ ?_; clear hK; try simp only [pst0, simprocAttr]))
 | false =>
  rw [c0] at hF
  simp only [Bool.false_eq_true, if_false] at hF
  cases c1 : (op.data.toList == (#[105, 109, 112, 108, 121] : Array UInt8).toList) with
  | true =>
   rw [c1] at hF
   simp only [if_true] at hF
   subst hF
   refine pcall_body (ow := fun _ => false) (wf := fun _ => false) Ty.mixed Try.func114 rfl Ty.hb_114 (by rw [Try.ntmps114]; simp) ?_
   rw [Try.ntmps114, Try.results114]
   repeat' (first | refine a_seq fun K hK => ?_ | ((first | refine a_regionS ?_ | refine a_ret ?_); simp only [Ty.w, simprocAttr, c0, c1]) | (refine a_skip ?_; try simp only [pst0, simprocAttr]) | (refine a_cond _ (by (try simp only [Ty.w, simprocAttr, c0, c1]); rfl) (fun hb => ?_) (fun hb => ?_) <;> (try simp only [hb0, decide_eq_true_eq, decide_eq_false_iff_not, simprocAttr] at hb) <;> (try (exfalso; omega))) | (refine hK _ _ ?_; clear hK; try simp only [pst0, simprocAttr]))
  | false =>
   rw [c1] at hF
   simp only [Bool.false_eq_true, if_false] at hF
   cases c2 : (op.data.toList == (#[102, 111, 114, 97, 108, 108] : Array UInt8).toList) with
   | true =>
    rw [c2] at hF
    simp only [if_true] at hF
    subst hF
    refine pcall_body (ow := fun _ => false) (wf := fun _ => false) Ty.mixed Try.func114 rfl Ty.hb_114 (by rw [Try.ntmps114]; simp) ?_
    rw [Try.ntmps114, Try.results114]
    repeat' (first | refine a_seq fun K hK => ?_ | ((first | refine a_regionS ?_ | refine a_ret ?_); simp only [Ty.w, simprocAttr, c0, c1, c2]) | (refine a_skip ?_; try simp only [pst0, simprocAttr]) | (refine a_cond _ (by (try simp only [Ty.w, simprocAttr, c0, c1, c2]); rfl) (fun hb => ?_) (fun hb => ?_) <;> (try simp only [hb0, decide_eq_true_eq, decide_eq_false_iff_not, simprocAttr] at hb) <;> (try (exfalso; omega))) | (refine hK _ _ ?_; clear hK; try simp only [pst0, simprocAttr]))
   | false =>
    rw [c2] at hF
    simp only [Bool.false_eq_true, if_false] at hF
    cases c3 : (op.data.toList == (#[101, 120, 105, 115, 116, 115] : Array UInt8).toList) with
    | true =>
     rw [c3] at hF
     simp only [if_true] at hF
     subst hF
     refine pcall_body (ow := fun _ => false) (wf := fun _ => false) Ty.mixed Try.func114 rfl Ty.hb_114 (by rw [Try.ntmps114]; simp) ?_
     rw [Try.ntmps114, Try.results114]
     repeat' (first | refine a_seq fun K hK => ?_ | ((first | refine a_regionS ?_ | refine a_ret ?_); simp only [Ty.w, simprocAttr, c0, c1, c2, c3]) | (refine a_skip ?_; try simp only [pst0, simprocAttr]) | (refine a_cond _ (by (try simp only [Ty.w, simprocAttr, c0, c1, c2, c3]); rfl) (fun hb => ?_) (fun hb => ?_) <;> (try simp only [hb0, decide_eq_true_eq, decide_eq_false_iff_not, simprocAttr] at hb) <;> (try (exfalso; omega))) | (refine hK _ _ ?_; clear hK; try simp only [pst0, simprocAttr]))
    | false =>
     rw [c3] at hF
     simp only [Bool.false_eq_true, if_false] at hF
     cases c4 : (op.data.toList == (#[61] : Array UInt8).toList) with
     | true =>
      rw [c4] at hF
      simp only [if_true] at hF
      subst hF
      refine pcall_body (ow := fun _ => false) (wf := fun _ => false) Ty.mixed Try.func114 rfl Ty.hb_114 (by rw [Try.ntmps114]; simp) ?_
      rw [Try.ntmps114, Try.results114]
      repeat' (first | refine a_seq fun K hK => ?_ | ((first | refine a_regionS ?_ | refine a_ret ?_); simp only [Ty.w, simprocAttr, c0, c1, c2, c3, c4]) | (refine a_skip ?_; try simp only [pst0, simprocAttr]) | (refine a_cond _ (by (try simp only [Ty.w, simprocAttr, c0, c1, c2, c3, c4]); rfl) (fun hb => ?_) (fun hb => ?_) <;> (try simp only [hb0, decide_eq_true_eq, decide_eq_false_iff_not, simprocAttr] at hb) <;> (try (exfalso; omega))) | (refine hK _ _ ?_; clear hK; try simp only [pst0, simprocAttr]))
     | false =>
      rw [c4] at hF
      simp only [Bool.false_eq_true, if_false] at hF
      cases c5 : (op.data.toList == (#[60] : Array UInt8).toList) with
      | true =>
       rw [c5] at hF
       simp only [if_true] at hF
       subst hF
       refine pcall_body (ow := fun _ => false) (wf := fun _ => false) Ty.mixed Try.func114 rfl Ty.hb_114 (by rw [Try.ntmps114]; simp) ?_
       rw [Try.ntmps114, Try.results114]
       repeat' (first | refine a_seq fun K hK => ?_ | ((first | refine a_regionS ?_ | refine a_ret ?_); simp only [Ty.w, simprocAttr, c0, c1, c2, c3, c4, c5]) | (refine a_skip ?_; try simp only [pst0, simprocAttr]) | (refine a_cond _ (by (try simp only [Ty.w, simprocAttr, c0, c1, c2, c3, c4, c5]); rfl) (fun hb => ?_) (fun hb => ?_) <;> (try simp only [hb0, decide_eq_true_eq, decide_eq_false_iff_not, simprocAttr] at hb) <;> (try (exfalso; omega))) | (refine hK _ _ ?_; clear hK; try simp only [pst0, simprocAttr]))
      | false =>
       rw [c5] at hF
       simp only [Bool.false_eq_true, if_false] at hF
       cases c6 : (op.data.toList == (#[60, 61] : Array UInt8).toList) with
       | true =>
        rw [c6] at hF
        simp only [if_true] at hF
        subst hF
        refine pcall_body (ow := fun _ => false) (wf := fun _ => false) Ty.mixed Try.func114 rfl Ty.hb_114 (by rw [Try.ntmps114]; simp) ?_
        rw [Try.ntmps114, Try.results114]
        repeat' (first | refine a_seq fun K hK => ?_ | ((first | refine a_regionS ?_ | refine a_ret ?_); simp only [Ty.w, simprocAttr, c0, c1, c2, c3, c4, c5, c6]) | (refine a_skip ?_; try simp only [pst0, simprocAttr]) | (refine a_cond _ (by (try simp only [Ty.w, simprocAttr, c0, c1, c2, c3, c4, c5, c6]); rfl) (fun hb => ?_) (fun hb => ?_) <;> (try simp only [hb0, decide_eq_true_eq, decide_eq_false_iff_not, simprocAttr] at hb) <;> (try (exfalso; omega))) | (refine hK _ _ ?_; clear hK; try simp only [pst0, simprocAttr]))
       | false =>
        rw [c6] at hF
        simp only [Bool.false_eq_true, if_false] at hF
        cases c7 : (op.data.toList == (#[62] : Array UInt8).toList) with
        | true =>
         rw [c7] at hF
         simp only [if_true] at hF
         subst hF
         refine pcall_body (ow := fun _ => false) (wf := fun _ => false) Ty.mixed Try.func114 rfl Ty.hb_114 (by rw [Try.ntmps114]; simp) ?_
         rw [Try.ntmps114, Try.results114]
         repeat' (first | refine a_seq fun K hK => ?_ | ((first | refine a_regionS ?_ | refine a_ret ?_); simp only [Ty.w, simprocAttr, c0, c1, c2, c3, c4, c5, c6, c7]) | (refine a_skip ?_; try simp only [pst0, simprocAttr]) | (refine a_cond _ (by (try simp only [Ty.w, simprocAttr, c0, c1, c2, c3, c4, c5, c6, c7]); rfl) (fun hb => ?_) (fun hb => ?_) <;> (try simp only [hb0, decide_eq_true_eq, decide_eq_false_iff_not, simprocAttr] at hb) <;> (try (exfalso; omega))) | (refine hK _ _ ?_; clear hK; try simp only [pst0, simprocAttr]))
        | false =>
         rw [c7] at hF
         simp only [Bool.false_eq_true, if_false] at hF
         cases c8 : (op.data.toList == (#[62, 61] : Array UInt8).toList) with
         | true =>
          rw [c8] at hF
          simp only [if_true] at hF
          subst hF
          refine pcall_body (ow := fun _ => false) (wf := fun _ => false) Ty.mixed Try.func114 rfl Ty.hb_114 (by rw [Try.ntmps114]; simp) ?_
          rw [Try.ntmps114, Try.results114]
          repeat' (first | refine a_seq fun K hK => ?_ | ((first | refine a_regionS ?_ | refine a_ret ?_); simp only [Ty.w, simprocAttr, c0, c1, c2, c3, c4, c5, c6, c7, c8]) | (refine a_cond _ (by (try simp only [Ty.w, simprocAttr, c0, c1, c2, c3, c4, c5, c6, c7, c8]); rfl) (fun hb => ?_) (fun hb => ?_) <;> (try simp only [hb0, decide_eq_true_eq, decide_eq_false_iff_not, simprocAttr] at hb) <;> (try (exfalso; omega))) | (refine hK _ _ ?_; clear hK; try simp only [pst0, simprocAttr]))
         | false =>
          rw [c8] at hF
          simp only [Bool.false_eq_true, if_false] at hF
          subst hF
          refine pcall_body (ow := fun _ => false) (wf := fun _ => false) Ty.mixed Try.func114 rfl Ty.hb_114 (by rw [Try.ntmps114]; simp) ?_
          rw [Try.ntmps114, Try.results114]
          repeat' (first | refine a_seq fun K hK => ?_ | (refine a_block ?_) | ((first | refine a_regionS ?_ | refine a_ret ?_); simp only [Ty.w, simprocAttr, c0, c1, c2, c3, c4, c5, c6, c7, c8]) | (refine a_skip ?_; try simp only [pst0, simprocAttr]) | (refine a_cond _ (by (try simp only [Ty.w, simprocAttr, c0, c1, c2, c3, c4, c5, c6, c7, c8]); rfl) (fun hb => ?_) (fun hb => ?_) <;> (try simp only [hb0, decide_eq_true_eq, decide_eq_false_iff_not, simprocAttr] at hb) <;> (try (exfalso; omega))) | (refine hK _ _ ?_; clear hK; try simp only [pst0, simprocAttr]))
end Go.Proofs.Ytjlkapgpjamnkaa
namespace Go.Proofs.Ytjlkapgpjamnkaa
open Go.AM
def isPm (w : ByteArray) : Bool := bEq w opPls || bEq w opMin || bEq w opTim
def zeroEx : Ex := .mk ⟨#[]⟩ ⟨#[]⟩ 0 [] []
def exprP : Sx → Ex × Int
 | .mk kind value _ _ _ kids =>
  if kind = 2 then (.mk opNum ⟨#[]⟩ value [] [], 0)
  else if kind = 3 then (match kids with
   | x :: rest => bif kindOf x == 1 then
     (bif isPm (textOf x) then (match rest with
      | [a, b] => (match exprP a with
       | (ea, ca) => bif ca == 0 then (match exprP b with
        | (eb, cb) => bif cb == 0 then (.mk (textOf x) ⟨#[]⟩ 0 [] [ea, eb], 0) else (zeroEx, cb)) else (zeroEx, ca))
      | _ => (zeroEx, 2))
     else bif nameB (textOf x) then (match termsM rest with
      | (t, c) => bif c == 0 then (.mk opFlu (textOf x) 0 t [], 0) else (zeroEx, c)) else (zeroEx, 8))
    else (zeroEx, 2)
   | [] => (zeroEx, 2)) else (zeroEx, 2)
termination_by x => SizeOf.sizeOf x
decreasing_by all_goals (simp_wf; omega)
theorem bEq_eq {a b : ByteArray} (h : bEq a b = true) : a = b := ba_ext (by simpa [bEq] using h)
end Go.Proofs.Ytjlkapgpjamnkaa
namespace Go.Proofs.Ytjlkapgpjamnkaa
open Go.AM
set_option maxHeartbeats 4000000
set_option maxRecDepth 20000
theorem exprP_head (x : Sx) : exprP x = (bif kindOf x == 2 then (match x with | .mk _ v _ _ _ _ => (.mk opNum ⟨#[]⟩ v [] [], 0)) else (match headM x with
  | none => (zeroEx, 2)
  | some (w, rest) => bif isPm w then (match rest with
    | [a, b] => (match exprP a with
     | (ea, ca) => bif ca == 0 then (match exprP b with
      | (eb, cb) => bif cb == 0 then (.mk w ⟨#[]⟩ 0 [] [ea, eb], 0) else (zeroEx, cb)) else (zeroEx, ca))
    | _ => (zeroEx, 2))
   else bif nameB w then (match termsM rest with
    | (t, c) => bif c == 0 then (.mk opFlu w 0 t [], 0) else (zeroEx, c)) else (zeroEx, 8))) := by
 obtain ⟨kind, value, line, col, text, kids⟩ := x
 conv => lhs; unfold exprP
 have kk : kindOf (.mk kind value line col text kids) = kind := rfl
 rw [kk]
 simp only [headM]
 cases h2 : kind == 2 with
 | true =>
  rw [if_pos (by simpa using h2)]; try rfl
 | false =>
  rw [if_neg (by simpa using h2)]
  simp only [cond_false]
  by_cases h3 : kind = 3
  ·rw [if_pos h3, if_pos h3]
   cases kids with
   | nil => rfl
   | cons y rest => cases hk : kindOf y == 1 <;> simp only [hk, cond_true, cond_false] <;> rfl
  ·rw [if_neg h3, if_neg h3]
theorem headM_ok {x : Sx} {w : ByteArray} {rest : List Sx} (hok : x.ok) (h : headM x = some (w, rest)) : w.size ≤ bigN ∧ ∀ y ∈ rest, y.ok := by
 obtain ⟨kind, value, line, col, text, kids⟩ := x
 simp only [Sx.ok] at hok
 obtain ⟨_, _, _, _, hks⟩ := hok
 simp only [headM] at h
 split at h
 ·cases kids with
  | nil => simp at h
  | cons y r =>
   simp only [Sx.oks] at hks
   simp only at h
   cases hk : kindOf y == 1 with
   | false => rw [hk] at h; simp at h
   | true =>
    rw [hk] at h
    simp only [cond_true, Option.some.injEq, Prod.mk.injEq] at h
    obtain ⟨rfl, rfl⟩ := h
    refine ⟨?_, Sx.oks_iff.1 hks.2⟩
    obtain ⟨_, _, _, _, t, _⟩ := y
    simp only [Sx.ok] at hks
    exact hks.1.2.2.1
 ·simp at h
theorem ex_in (n : Nat) : ∀ e : Ex, inNL n e.cells := by
 have hs : ∀ l : List ByteArray, inNR n (strRows l) := by
  intro l
  induction l with
  | nil => simp only [strRows, List.map_nil, inNR]
  | cons a l ih => simp only [strRows, List.map_cons, inNR, inNL, inN, and_true, true_and] at ih ⊢; exact ih
 refine Ex.ind ?_
 intro op name v args kids ih
 have : inNR n (Ex.rows kids) := by
  clear op name v args
  induction kids with
  | nil => simp only [Ex.rows, inNR]
  | cons k ks ih2 =>
   simp only [Ex.rows, inNR]
   exact ⟨ih k (by simp), ih2 fun q hq => ih q (by simp [hq])⟩
 simp only [Ex.cells, inNL, inN, and_true, true_and]
 exact ⟨hs args, this⟩
theorem strs_in (n : Nat) (l : List ByteArray) : inNR n (strRows l) := by
 induction l with
 | nil => simp only [strRows, List.map_nil, inNR]
 | cons a l ih => simp only [strRows, List.map_cons, inNR, inNL, inN, and_true, true_and] at ih ⊢; exact ih
theorem expr_plain_c {x : Sx} (hok : x.ok) (hsm : ∀ w rest, headM x = some (w, rest) → rest.length ≤ 1048576) (hpm : kindOf x = 2 ∨ ∀ w rest, headM x = some (w, rest) → isPm w = false) (h : Heap) :
  PCall Try.prog 75 [.agg x.cells] h fun r h' => r = .tup [.agg (exprP x).1.cells, errP (exprP x).2] ∧ h' = h := by
 refine PCall.frz Ty.hb_75 ?_
 have hh := head_c hok
 have hX := exprP_head x
 generalize exprP x = F at hX
 have hho := fun w rest e => headM_ok (w := w) (rest := rest) hok e
 generalize headM x = M at hh hX hsm hpm hho
 obtain ⟨kind, value, line, col, text, kids⟩ := x
 have kk : kindOf (.mk kind value line col text kids) = kind := rfl
 rw [kk] at hX hpm
 simp only [Sx.cells] at hh ⊢
 cases k2 : (kind == 2) with
 | true =>
  simp only [k2, cond_true] at hX
  subst hX
  refine pcall_body (ow := fun _ => false) (wf := fun _ => false) Ty.mixed Try.func75 rfl Ty.hb_75 (by rw [Try.ntmps75]; simp) ?_
  rw [Try.ntmps75, Try.results75]
  repeat' (first | refine a_seq fun K hK => ?_ | ((first | refine a_regionS ?_ | refine a_ret ?_); simp only [Ty.w, simprocAttr, k2]) | (refine hK _ _ ?_; clear hK; try simp only [pst0, simprocAttr]))
  refine ⟨?_, ((Grow.refl h).new _).set (Nat.le_refl _) _⟩
  simp only [errP, beq_self_eq_true, cond_true, opNum, Ex.cells, Ex.rows, strRows, List.map_nil, FrzTo, FrzL]
  exact ⟨_, rfl, ⟨_, rfl, rfl, rfl, rfl, .inr (.inl ⟨rfl, .inr rfl⟩), .inr (.inl ⟨rfl, .inr rfl⟩), trivial⟩, rfl, trivial⟩
 | false =>
  have hk2 : ¬ kind = 2 := by simpa using k2
  simp only [k2, cond_false] at hX
  have hpm := hpm.resolve_left hk2
  cases M with
  | none =>
   simp only at hX
   subst hX
   simp only [headV] at hh
   refine pcall_body (ow := fun _ => false) (wf := fun _ => false) Ty.mixed Try.func75 rfl Ty.hb_75 (by rw [Try.ntmps75]; simp) ?_
   rw [Try.ntmps75, Try.results75]
   repeat' (first | refine a_seq fun K hK => ?_ | (refine a_regionS ?_; simp only [Ty.w, simprocAttr, k2]) | (refine a_skip ?_; try simp only [pst0, simprocAttr]) | (refine a_cond _ (by (try simp only [Ty.w, simprocAttr, k2]); rfl) (fun hb => ?_) (fun hb => ?_) <;> (try simp only [hb0, decide_eq_true_eq, decide_eq_false_iff_not, simprocAttr] at hb) <;> (try (exfalso; omega))) | (refine hK _ _ ?_; clear hK; try simp only [pst0, simprocAttr]))
   refine owp_useQ (hh _) (by (try simp only [Ty.w, simprocAttr, k2, Bool.not_false]); try rfl) ?_; simp only [Ty.w, simprocAttr, k2, Bool.not_false]
   repeat' (first | refine a_seq fun K hK => ?_ | ((first | refine a_regionS ?_ | refine a_ret ?_); simp only [Ty.w, simprocAttr, k2, Bool.not_false]) | (refine hK _ _ ?_; clear hK; try simp only [pst0, simprocAttr]))
   refine ⟨?_, ((Grow.refl h).new _).set (Nat.le_refl _) _⟩
   have e2 : errP 2 = errV 2 := rfl
   simp only [e2, errV, zeroEx, Ex.cells, Ex.rows, strRows, List.map_nil, FrzTo, FrzL]
   exact ⟨_, rfl, ⟨_, rfl, rfl, rfl, rfl, .inr (.inl ⟨rfl, .inr rfl⟩), .inr (.inl ⟨rfl, .inr rfl⟩), trivial⟩, rfl, trivial⟩
  | some wr =>
   obtain ⟨w, rest⟩ := wr
   have hp := hpm w rest rfl
   obtain ⟨hw, hr⟩ := hho w rest rfl
   have hl := hsm w rest rfl
   have hw' : w.size ≤ 9223372036854775807 := by unfold bigN at hw; omega
   simp only [hp, cond_false] at hX
   simp only [headV] at hh
   have hp' := hp
   unfold isPm opPls opMin opTim bEq at hp'
   rw [Bool.or_eq_false_iff, Bool.or_eq_false_iff] at hp'
   obtain ⟨⟨p1, p2⟩, p3⟩ := hp'
   have hn := fun h : Heap => fname_c (h := h) hw'
   generalize nameB w = b at hn hX
   cases b with
   | false =>
    simp only [cond_false] at hX
    subst hX
    refine pcall_body (ow := fun _ => false) (wf := fun _ => false) Ty.mixed Try.func75 rfl Ty.hb_75 (by rw [Try.ntmps75]; simp) ?_
    rw [Try.ntmps75, Try.results75]
    repeat' (first | refine a_seq fun K hK => ?_ | (refine a_regionS ?_; simp only [Ty.w, simprocAttr, k2]) | (refine a_skip ?_; try simp only [pst0, simprocAttr]) | (refine a_cond _ (by (try simp only [Ty.w, simprocAttr, k2]); rfl) (fun hb => ?_) (fun hb => ?_) <;> (try simp only [hb0, decide_eq_true_eq, decide_eq_false_iff_not, simprocAttr] at hb) <;> (try (exfalso; omega))) | (refine hK _ _ ?_; clear hK; try simp only [pst0, simprocAttr]))
    refine owp_useQ (hh _) (by (try simp only [Ty.w, simprocAttr, k2, Bool.not_true]); try rfl) ?_; simp only [Ty.w, simprocAttr, k2, Bool.not_true]
    repeat' (first | refine a_seq fun K hK => ?_ | (refine a_regionS ?_; simp only [Ty.w, simprocAttr, k2, p1, p2, p3, Bool.not_true, Bool.not_false]) | (refine a_skip ?_; try simp only [pst0, simprocAttr]) | (refine a_cond _ (by (try simp only [Ty.w, simprocAttr, k2, p1, p2, p3, Bool.not_true, Bool.not_false]); rfl) (fun hb => ?_) (fun hb => ?_) <;> (try simp only [hb0, decide_eq_true_eq, decide_eq_false_iff_not, simprocAttr] at hb) <;> (try (exfalso; omega))) | (refine hK _ _ ?_; clear hK; try simp only [pst0, simprocAttr]))
    refine owp_useQ (hn _) (by (try simp only [Ty.w, simprocAttr, k2, Bool.not_false]); try rfl) ?_; simp only [Ty.w, simprocAttr, k2, Bool.not_false]
    repeat' (first | refine a_seq fun K hK => ?_ | ((first | refine a_regionS ?_ | refine a_ret ?_); simp only [Ty.w, simprocAttr, k2, Bool.not_false]) | (refine hK _ _ ?_; clear hK; try simp only [pst0, simprocAttr]))
    refine ⟨?_, ((Grow.refl h).new _).set (Nat.le_refl _) _⟩
    have e2 : errP 8 = errV 8 := rfl
    simp only [e2, errV, zeroEx, Ex.cells, Ex.rows, strRows, List.map_nil, FrzTo, FrzL]
    exact ⟨_, rfl, ⟨_, rfl, rfl, rfl, rfl, .inr (.inl ⟨rfl, .inr rfl⟩), .inr (.inl ⟨rfl, .inr rfl⟩), trivial⟩, rfl, trivial⟩
   | true =>
    simp only [cond_true] at hX
    have ht := terms_c hl hr
    generalize termsM rest = T at ht hX
    obtain ⟨t, c⟩ := T
    simp only at ht hX
    cases hc : c == 0 with
    | true =>
     rw [hc, cond_true] at hX
     subst hX
     have e0 : errP c = .sc .nilIface := by simp only [errP, hc, cond_true]
     rw [e0] at ht
     refine pcall_body (ow := fun _ => false) (wf := fun _ => false) Ty.mixed Try.func75 rfl Ty.hb_75 (by rw [Try.ntmps75]; simp) ?_
     rw [Try.ntmps75, Try.results75]
     repeat' (first | refine a_seq fun K hK => ?_ | (refine a_regionS ?_; simp only [Ty.w, simprocAttr, k2]) | (refine a_skip ?_; try simp only [pst0, simprocAttr]) | (refine a_cond _ (by (try simp only [Ty.w, simprocAttr, k2]); rfl) (fun hb => ?_) (fun hb => ?_) <;> (try simp only [hb0, decide_eq_true_eq, decide_eq_false_iff_not, simprocAttr] at hb) <;> (try (exfalso; omega))) | (refine hK _ _ ?_; clear hK; try simp only [pst0, simprocAttr]))
     refine owp_useQ (hh _) (by (try simp only [Ty.w, simprocAttr, k2, Bool.not_true]); try rfl) ?_; simp only [Ty.w, simprocAttr, k2, Bool.not_true]
     repeat' (first | refine a_seq fun K hK => ?_ | (refine a_regionS ?_; simp only [Ty.w, simprocAttr, k2, p1, p2, p3, Bool.not_true, Bool.not_false]) | (refine a_skip ?_; try simp only [pst0, simprocAttr]) | (refine a_cond _ (by (try simp only [Ty.w, simprocAttr, k2, p1, p2, p3, Bool.not_true, Bool.not_false]); rfl) (fun hb => ?_) (fun hb => ?_) <;> (try simp only [hb0, decide_eq_true_eq, decide_eq_false_iff_not, simprocAttr] at hb) <;> (try (exfalso; omega))) | (refine hK _ _ ?_; clear hK; try simp only [pst0, simprocAttr]))
     refine owp_useQ (hn _) (by (try simp only [Ty.w, simprocAttr, k2, Bool.not_true]); try rfl) ?_; simp only [Ty.w, simprocAttr, k2, Bool.not_true]
     repeat' (first | refine a_seq fun K hK => ?_ | (refine a_regionS ?_; simp only [Ty.w, simprocAttr, k2, Bool.not_true]) | (refine a_skip ?_; try simp only [pst0, simprocAttr]) | (refine a_cond _ (by (try simp only [Ty.w, simprocAttr, k2, Bool.not_true]); rfl) (fun hb => ?_) (fun hb => ?_) <;> (try simp only [hb0, decide_eq_true_eq, decide_eq_false_iff_not, simprocAttr] at hb) <;> (try (exfalso; omega))) | (refine hK _ _ ?_; clear hK; try simp only [pst0, simprocAttr]))
     refine owp_useQ (ht _) (by (try simp only [Ty.w, simprocAttr, k2]); try rfl) ?_; simp only [Ty.w, simprocAttr, k2]
     repeat' (first | refine a_seq fun K hK => ?_ | ((first | refine a_regionS ?_ | refine a_ret ?_); simp only [Ty.w, simprocAttr, k2, Bool.not_true]) | (refine a_skip ?_; try simp only [pst0, simprocAttr]) | (refine a_cond _ (by (try simp only [Ty.w, simprocAttr, k2, Bool.not_true]); rfl) (fun hb => ?_) (fun hb => ?_) <;> (try simp only [hb0, decide_eq_true_eq, decide_eq_false_iff_not, simprocAttr] at hb) <;> (try (exfalso; omega))) | (refine hK _ _ ?_; clear hK; try simp only [pst0, simprocAttr]))
     refine ⟨?_, ((Grow.refl h).new _).set (Nat.le_refl _) _⟩
     have e2 : errP 0 = .sc .nilIface := rfl
     rw [e2]
     simp only [opFlu, Ex.cells, Ex.rows, FrzTo, FrzL]
     exact ⟨_, rfl, ⟨_, rfl, rfl, rfl, rfl, .inl ⟨rfl, strs_in _ _⟩, .inr (.inl ⟨rfl, .inr rfl⟩), trivial⟩, rfl, trivial⟩
    | false =>
     rw [hc, cond_false] at hX
     subst hX
     have e0 : errP c = errV c := by simp only [errP, hc, cond_false]
     rw [e0] at ht ⊢
     simp only [errV] at ht ⊢
     refine pcall_body (ow := fun _ => false) (wf := fun _ => false) Ty.mixed Try.func75 rfl Ty.hb_75 (by rw [Try.ntmps75]; simp) ?_
     rw [Try.ntmps75, Try.results75]
     repeat' (first | refine a_seq fun K hK => ?_ | (refine a_regionS ?_; simp only [Ty.w, simprocAttr, k2]) | (refine a_skip ?_; try simp only [pst0, simprocAttr]) | (refine a_cond _ (by (try simp only [Ty.w, simprocAttr, k2]); rfl) (fun hb => ?_) (fun hb => ?_) <;> (try simp only [hb0, decide_eq_true_eq, decide_eq_false_iff_not, simprocAttr] at hb) <;> (try (exfalso; omega))) | (refine hK _ _ ?_; clear hK; try simp only [pst0, simprocAttr]))
     refine owp_useQ (hh _) (by (try simp only [Ty.w, simprocAttr, k2, Bool.not_true]); try rfl) ?_; simp only [Ty.w, simprocAttr, k2, Bool.not_true]
     repeat' (first | refine a_seq fun K hK => ?_ | (refine a_regionS ?_; simp only [Ty.w, simprocAttr, k2, p1, p2, p3, Bool.not_true, Bool.not_false]) | (refine a_skip ?_; try simp only [pst0, simprocAttr]) | (refine a_cond _ (by (try simp only [Ty.w, simprocAttr, k2, p1, p2, p3, Bool.not_true, Bool.not_false]); rfl) (fun hb => ?_) (fun hb => ?_) <;> (try simp only [hb0, decide_eq_true_eq, decide_eq_false_iff_not, simprocAttr] at hb) <;> (try (exfalso; omega))) | (refine hK _ _ ?_; clear hK; try simp only [pst0, simprocAttr]))
     refine owp_useQ (hn _) (by (try simp only [Ty.w, simprocAttr, k2, Bool.not_true]); try rfl) ?_; simp only [Ty.w, simprocAttr, k2, Bool.not_true]
     repeat' (first | refine a_seq fun K hK => ?_ | (refine a_regionS ?_; simp only [Ty.w, simprocAttr, k2, Bool.not_true]) | (refine a_skip ?_; try simp only [pst0, simprocAttr]) | (refine a_cond _ (by (try simp only [Ty.w, simprocAttr, k2, Bool.not_true]); rfl) (fun hb => ?_) (fun hb => ?_) <;> (try simp only [hb0, decide_eq_true_eq, decide_eq_false_iff_not, simprocAttr] at hb) <;> (try (exfalso; omega))) | (refine hK _ _ ?_; clear hK; try simp only [pst0, simprocAttr]))
     refine owp_useQ (ht _) (by (try simp only [Ty.w, simprocAttr, k2]); try rfl) ?_; simp only [Ty.w, simprocAttr, k2]
     repeat' (first | refine a_seq fun K hK => ?_ | ((first | refine a_regionS ?_ | refine a_ret ?_); simp only [Ty.w, simprocAttr, k2, Bool.not_false]) | (refine hK _ _ ?_; clear hK; try simp only [pst0, simprocAttr]))
     refine ⟨?_, ((Grow.refl h).new _).set (Nat.le_refl _) _⟩
     simp only [zeroEx, Ex.cells, Ex.rows, strRows, List.map_nil, FrzTo, FrzL]
     exact ⟨_, rfl, ⟨_, rfl, rfl, rfl, rfl, .inr (.inl ⟨rfl, .inr rfl⟩), .inr (.inl ⟨rfl, .inr rfl⟩), trivial⟩, rfl, trivial⟩
end Go.Proofs.Ytjlkapgpjamnkaa
namespace Go.Proofs.Ytjlkapgpjamnkaa
open Go.AM
set_option maxHeartbeats 4000000
set_option maxRecDepth 20000
theorem nsucc (n : Nat) : (n = n + 1) = False := by simp
end Go.Proofs.Ytjlkapgpjamnkaa
namespace Go.AM
mutual
def Sx.small : Sx → Prop
 | .mk _ _ _ _ _ kids => kids.length ≤ 1048576 ∧ Sx.smalls kids
def Sx.smalls : List Sx → Prop
 | [] => True
 | k :: ks => k.small ∧ Sx.smalls ks
end
theorem Sx.smalls_iff : {l : List Sx} → (Sx.smalls l ↔ ∀ k ∈ l, k.small)
 | [] => by simp [Sx.smalls]
 | k :: ks => by simp [Sx.smalls, Sx.smalls_iff (l := ks)]
end Go.AM
namespace Go.Proofs.Ytjlkapgpjamnkaa
open Go.AM
set_option maxHeartbeats 4000000
set_option maxRecDepth 20000
def exprsP : List Sx → List Ex × Int
 | [] => ([], 0)
 | x :: l => bif (exprP x).2 == 0 then (match exprsP l with
  | (es, c) => bif c == 0 then ((exprP x).1 :: es, 0) else ([], c)) else ([], (exprP x).2)
theorem exprsP_code : ∀ l : List Sx, ((exprsP l).2 == 0) = true → (exprsP l).2 = 0 := fun l h => by simpa using h
theorem exprsP_nil : ∀ l : List Sx, ((exprsP l).2 == 0) = false → (exprsP l).1 = []
 | [], h => by simp [exprsP] at h
 | x :: l, h => by
  simp only [exprsP] at h ⊢
  cases hq : (exprP x).2 == 0 with
  | false => rfl
  | true =>
   rw [hq] at h
   simp only [cond_true] at h ⊢
   cases hr : (exprsP l).2 == 0 with
   | false => rfl
   | true => rw [hr] at h; simp at h
theorem exprsP_two (w : ByteArray) (rest : List Sx) : rest.length = 2 → (match rest with
    | [a, b] => (match exprP a with
     | (ea, ca) => bif ca == 0 then (match exprP b with
      | (eb, cb) => bif cb == 0 then ((.mk w ⟨#[]⟩ 0 [] [ea, eb], 0) : Ex × Int) else (zeroEx, cb)) else (zeroEx, ca))
    | _ => (zeroEx, 2)) = (bif (exprsP rest).2 == 0 then (.mk w ⟨#[]⟩ 0 [] (exprsP rest).1, 0) else (zeroEx, (exprsP rest).2)) := by
 intro hl
 match rest, hl with
 | [a, b], _ =>
  simp only [exprsP]
  cases ha : (exprP a).2 == 0
  ·simp only [ha, cond_false]
  ·cases hb : (exprP b).2 == 0
   ·simp only [ha, hb, cond_true, cond_false]
   ·simp [ha, hb]
theorem tl_one {h : Heap} {id0 z : Nat} {p : PV} {rows : List (List PV)} (t : Tl h id0 z p rows) : oneC p = true ∧ p.cells = [p] := by
 rcases t with ⟨_, rfl | rfl⟩ | ⟨id, _, _, rfl, _⟩
 ·exact ⟨rfl, rfl⟩
 ·exact ⟨rfl, rfl⟩
 ·exact ⟨rfl, rfl⟩
theorem ex_frz (n : Nat) (h : Heap) (e : Ex) : FrzL n h e.cells e.cells := by
 have hi := ex_in n e
 obtain ⟨op, name, v, args, kids⟩ := e
 simp only [Ex.cells, inNL, inN, and_true, true_and] at hi
 simp only [Ex.cells, FrzL, FrzTo, and_true, true_and]
 exact ⟨.inl hi.1, .inl hi.2⟩
theorem exs_frz (n : Nat) (h : Heap) : ∀ l : List Ex, FrzR n h (Ex.rows l) (Ex.rows l)
 | [] => by simp only [Ex.rows, FrzR]
 | k :: ks => by simp only [Ex.rows, FrzR]; exact ⟨ex_frz n h k, exs_frz n h ks⟩
theorem tl_frzE {h : Heap} {id0 n : Nat} {p : PV} {l : List Ex} (hn : n ≤ id0) (t : Tl h id0 5 p (Ex.rows l)) : FrzTo n h (.imm 5 (Ex.rows l)) p := by
 simp only [FrzTo]
 rcases t with ⟨h1, h2⟩ | ⟨id, h1, h2, rfl, ho⟩
 ·exact .inr (.inl ⟨h1, h2.symm⟩)
 ·refine .inr (.inr ⟨id, 0, _, _, rfl, by omega, ho, by omega, ?_⟩)
  rw [List.drop_zero, List.take_of_length_le (by omega)]
  exact exs_frz _ _ _
theorem expr_pm_c {kind value line col : Int} {text : ByteArray} {kids : List Sx} {w : ByteArray} {rest : List Sx} (hok : (Sx.mk kind value line col text kids).ok) (hk2 : ¬ kind = 2) (hM : headM (.mk kind value line col text kids) = some (w, rest)) (hp : isPm w = true)
  (hf : ∀ x ∈ rest, ∀ h : Heap, PCall Try.prog 75 [.agg x.cells] h fun r h' => r = .tup [.agg (exprP x).1.cells, errP (exprP x).2] ∧ h' = h) (hl : rest.length ≤ 1048576) (h : Heap) :
  PCall Try.prog 75 [.agg (Sx.mk kind value line col text kids).cells] h fun r h' => r = .tup [.agg (exprP (.mk kind value line col text kids)).1.cells, errP (exprP (.mk kind value line col text kids)).2] ∧ h' = h := by
 refine PCall.frz Ty.hb_75 ?_
 have hh := head_c hok
 have hX := exprP_head (.mk kind value line col text kids)
 generalize exprP (.mk kind value line col text kids) = F at hX
 have kk : kindOf (.mk kind value line col text kids) = kind := rfl
 have k2 : (kind == 2) = false := by simpa using hk2
 rw [kk, k2, hM] at hX
 simp only [cond_false, hp, cond_true] at hX
 rw [hM] at hh
 simp only [headV] at hh
 simp only [Sx.cells] at hh ⊢
 have hlr := Sx.rows_len rest
 refine pcall_body (ow := fun _ => false) (wf := fun _ => false) Ty.mixed Try.func75 rfl Ty.hb_75 (by rw [Try.ntmps75]; simp) ?_
 rw [Try.ntmps75, Try.results75]
 repeat' (first | refine a_seq fun K hK => ?_ | (refine a_regionS ?_; simp only [Ty.w, simprocAttr, k2]) | (refine a_skip ?_; try simp only [pst0, simprocAttr]) | (refine a_cond _ (by (try simp only [Ty.w, simprocAttr, k2]); rfl) (fun hb => ?_) (fun hb => ?_) <;> (try simp only [hb0, decide_eq_true_eq, decide_eq_false_iff_not, simprocAttr] at hb) <;> (try (exfalso; omega))) | (refine hK _ _ ?_; clear hK; try simp only [pst0, simprocAttr]))
 refine owp_useQ (hh _) (by (try simp only [Ty.w, simprocAttr, k2, Bool.not_true]); try rfl) ?_; simp only [Ty.w, simprocAttr, k2, Bool.not_true]
 iterate 9 (first | refine a_seq fun K hK => ?_ | (refine a_regionS ?_; simp only [Ty.w, simprocAttr, k2, Bool.not_true]) | (refine a_skip ?_; try simp only [pst0, simprocAttr]) | (refine a_cond _ (by (try simp only [Ty.w, simprocAttr, k2, Bool.not_true]); rfl) (fun hb => ?_) (fun hb => ?_) <;> (try simp only [hb0, decide_eq_true_eq, decide_eq_false_iff_not, simprocAttr] at hb) <;> (try (exfalso; omega))) | (refine hK _ _ ?_; clear hK; try simp only [pst0, simprocAttr]))
 refine a_cutK (fun S h' => h' = h.new (.arr 5 [[.sc (.string ⟨#[]⟩), .sc (.string ⟨#[]⟩), .sc (.int .i64 0), .sc (.slice none 0 0), .sc (.slice none 0 0)]]) ∧ S 2 = .ptr h.next 0 0 ∧ S 4 = sPV w ∧ S 5 = .imm 6 (Sx.rows rest)) ?_ ?_
 ·have hp' := hp
  unfold isPm opPls opMin opTim bEq at hp'
  clear hX hf
  cases p1 : (w.data.toList == (#[43] : Array UInt8).toList) with
  | true =>
   repeat' (first | refine a_seq fun K hK => ?_ | (refine a_regionS ?_; simp only [Ty.w, simprocAttr, k2, p1, Bool.not_true]) | (refine a_skip ?_; try simp only [pst0, simprocAttr]) | (refine a_cond _ (by (try simp only [Ty.w, simprocAttr, k2, p1, Bool.not_true]); rfl) (fun hb => ?_) (fun hb => ?_) <;> (try simp only [hb0, decide_eq_true_eq, decide_eq_false_iff_not, simprocAttr] at hb) <;> (try (exfalso; omega))) | (refine hK _ _ ?_; clear hK; try simp only [pst0, simprocAttr]))
   all_goals (simp only [Ty.w, simprocAttr])
  | false =>
   cases p2 : (w.data.toList == (#[45] : Array UInt8).toList) with
   | true =>
    repeat' (first | refine a_seq fun K hK => ?_ | (refine a_regionS ?_; simp only [Ty.w, simprocAttr, k2, p1, p2, Bool.not_true, Bool.not_false]) | (refine a_skip ?_; try simp only [pst0, simprocAttr]) | (refine a_cond _ (by (try simp only [Ty.w, simprocAttr, k2, p1, p2, Bool.not_true, Bool.not_false]); rfl) (fun hb => ?_) (fun hb => ?_) <;> (try simp only [hb0, decide_eq_true_eq, decide_eq_false_iff_not, simprocAttr] at hb) <;> (try (exfalso; omega))) | (refine hK _ _ ?_; clear hK; try simp only [pst0, simprocAttr]))
    all_goals (simp only [Ty.w, simprocAttr])
   | false =>
    have p3 : (w.data.toList == (#[42] : Array UInt8).toList) = true := by
     rw [p1, p2] at hp'; simpa using hp'
    repeat' (first | refine a_seq fun K hK => ?_ | (refine a_regionS ?_; simp only [Ty.w, simprocAttr, k2, p1, p2, p3, Bool.not_true, Bool.not_false]) | (refine a_skip ?_; try simp only [pst0, simprocAttr]) | (refine a_cond _ (by (try simp only [Ty.w, simprocAttr, k2, p1, p2, p3, Bool.not_true, Bool.not_false]); rfl) (fun hb => ?_) (fun hb => ?_) <;> (try simp only [hb0, decide_eq_true_eq, decide_eq_false_iff_not, simprocAttr] at hb) <;> (try (exfalso; omega))) | (refine hK _ _ ?_; clear hK; try simp only [pst0, simprocAttr]))
    all_goals (simp only [Ty.w, simprocAttr])
 ·rintro S h' ⟨rfl, g2, g4, g5⟩
  refine hK _ _ ?_
  clear hK hh
  cases q : (((Sx.rows rest).length : Int) != 2) with
  | true =>
   have hF : F = (zeroEx, 2) := by
    rw [hX]
    split
    ·rw [hlr] at q; simp at q
    ·rfl
   subst hF
   repeat' (first | refine a_seq fun K hK => ?_ | ((first | refine a_regionS ?_ | refine a_ret ?_); simp only [Ty.w, simprocAttr, g2, g4, g5, q]) | (refine hK _ _ ?_; clear hK; try simp only [pst0, simprocAttr]))
   refine ⟨?_, ((Grow.refl h).new _).set (Nat.le_refl _) _⟩
   have e2 : errP 2 = errV 2 := rfl
   simp only [e2, errV, zeroEx, Ex.cells, Ex.rows, strRows, List.map_nil, FrzTo, FrzL]
   exact ⟨_, rfl, ⟨_, rfl, rfl, rfl, rfl, .inr (.inl ⟨rfl, .inr rfl⟩), .inr (.inl ⟨rfl, .inr rfl⟩), trivial⟩, rfl, trivial⟩
  | false =>
   have q' : (((Sx.rows rest).length : Int) = 2) := by simpa using q
   have hF : F = (bif (exprsP rest).2 == 0 then (.mk w ⟨#[]⟩ 0 [] (exprsP rest).1, 0) else (zeroEx, (exprsP rest).2)) := by
    rw [hX]; exact exprsP_two w rest (by rw [hlr] at q'; omega)
   clear hX
   repeat' (first | refine a_seq fun K hK => ?_ | (refine a_block ?_) | (refine a_regionS ?_; simp only [Ty.w, simprocAttr, g2, g4, g5, q]) | (refine a_skip ?_; try simp only [pst0, simprocAttr]) | (refine a_cond _ (by (try simp only [Ty.w, simprocAttr, g2, g4, g5, q]); rfl) (fun hb => ?_) (fun hb => ?_) <;> (try simp only [hb0, decide_eq_true_eq, decide_eq_false_iff_not, simprocAttr] at hb) <;> (try (exfalso; omega))) | (refine hK _ _ ?_; clear hK; try simp only [pst0, simprocAttr]))
   refine a_loop (fun m S h' => S 2 = .ptr h.next 0 0 ∧ S 9 = .ptr (h.next + 1) 0 0 ∧ S 64 = .imm 6 (Sx.rows rest) ∧ S 65 = .sc (.int .i64 (Sx.rows rest).length) ∧ ∃ (k : Nat) (o : PV) (pre : List Ex), S 66 = .sc (.int .i64 k) ∧ k ≤ rest.length ∧ m = rest.length - k ∧ Grow h h' ∧ h.next + 1 < h'.next ∧ pre.length = k ∧
    h'.obj h.next = some (.arr 5 [[.sc (.string ⟨#[]⟩), .sc (.string ⟨#[]⟩), .sc (.int .i64 0), .sc (.slice none 0 0), .sc (.slice none 0 0)]]) ∧ h'.obj (h.next + 1) = some (.arr 5 [[sPV w, .sc (.string ⟨#[]⟩), .sc (.int .i64 0), .sc (.slice none 0 0), o]]) ∧ Tl h' (h.next + 2) 5 o (Ex.rows pre) ∧
    exprsP rest = (bif (exprsP (rest.drop k)).2 == 0 then (pre ++ (exprsP (rest.drop k)).1, 0) else ([], (exprsP (rest.drop k)).2))) rest.length ?_ ?_
   ·simp only [Ty.w, simprocAttr, g2]
    refine ⟨0, _, [], rfl, by omega, rfl, ?_, ?_, rfl, ?_, ?_, Tl.nil, ?_⟩
    ·exact ((Grow.refl h).new _).new _ |>.set (show h.next ≤ h.next + 1 by omega) _
    ·simp [Heap.new, Heap.set]
    ·have e1 : ¬ h.next = h.next + 1 := by omega
     simp [Heap.new, Heap.set, e1]
    ·simp [Heap.new, Heap.set]
    ·rw [List.drop_zero]
     cases hq : (exprsP rest).2 == 0
     ·simp only [cond_false]; rw [← exprsP_nil rest hq]
     ·simp only [cond_true, List.nil_append]; rw [← exprsP_code rest hq]
   ·clear g2 g4 g5
    rintro m S h' ⟨g2, g9, g64, g65, k, o, pre, g66, hk, rfl, hg, hnx, hpl, o1, o2, tl, hinv⟩
    rw [hlr] at g65
    by_cases hlt : k < rest.length
    ·have hd : decide ((k : Int) < (rest.length : Int)) = true := by simp; omega
     have w7 : IntKind.i64.wrap ((k : Int) + 1) = k + 1 := by rw [wrap64 (by omega) (by omega)]
     obtain ⟨x, hx⟩ : ∃ x, rest[k]? = some x := ⟨_, List.getElem?_eq_getElem hlt⟩
     have hr := Sx.rows_get hx
     have hc := hf x (List.mem_of_getElem? hx)
     rw [drop_of_get hx] at hinv
     simp only [exprsP] at hinv
     have hin := ex_in
     generalize hE : exprP x = E at hc hinv
     obtain ⟨e, c⟩ := E
     simp only at hc hinv
     clear hE hf
     obtain ⟨ki, va, li, co, te, ks⟩ := x
     simp only [Sx.cells] at hr hc
     have her := fun l => Ex.rows_map (l ++ [e])
     have n1 : (h.next = h'.next) = False := by simp; omega
     have n2 : (h.next + 1 = h'.next) = False := by simp; omega
     have n3 : (h.next = h'.next + 1) = False := by simp; omega
     have n4 : (h.next = h'.next) = False := by simp; omega
     have n5 : (h.next + 1 = h'.next + 1) = False := by simp; omega
     cases hcc : c == 0 with
     | false =>
      rw [hcc] at hinv
      simp only [cond_false] at hinv
      have e0 : errP c = errV c := by simp only [errP, hcc, cond_false]
      rw [e0] at hc
      simp only [errV] at hc
      have hq : exprsP rest = ([], c) := by rw [hinv]; simp only [hcc, cond_false]
      rw [hq] at hF
      simp only [hcc, cond_false] at hF
      subst hF
      obtain ⟨eop, ena, en, ear, eki⟩ := e
      simp only [Ex.cells] at hc
      have W := And.intro g2 (And.intro g9 (And.intro g64 (And.intro g65 (And.intro g66 (And.intro hd (And.intro hr (And.intro o1 (And.intro o2 (And.intro n1 (And.intro n2 (And.intro n3 n5)))))))))))
      repeat' (first | refine a_seq fun K hK => ?_ | (refine a_regionS ?_; simp only [Ty.w, simprocAttr, W, nsucc]) | (refine a_skip ?_; try simp only [pst0, simprocAttr]) | (refine a_cond _ (by (try simp only [Ty.w, simprocAttr, W, nsucc]); rfl) (fun hb => ?_) (fun hb => ?_) <;> (try simp only [hb0, decide_eq_true_eq, decide_eq_false_iff_not, simprocAttr] at hb) <;> (try (exfalso; omega))) | (refine hK _ _ ?_; clear hK; try simp only [pst0, simprocAttr]))
      refine owp_useQ (hc _) (by (try simp only [Ty.w, simprocAttr, W, nsucc]); try rfl) ?_; simp only [Ty.w, simprocAttr, W, nsucc]
      repeat' (first | refine a_seq fun K hK => ?_ | ((first | refine a_regionS ?_ | refine a_ret ?_); simp only [Ty.w, simprocAttr, W, nsucc]) | (refine hK _ _ ?_; clear hK; try simp only [pst0, simprocAttr]))
      have e2 : errP c = .sc (.iface 47 (.int .i64 c)) := by rw [e0]; try rfl
      rw [e2]
      refine ⟨?_, (((((hg.new _).set hg.le _).new _).set (show h.next ≤ h'.next + 1 by have := hg.le; omega) _).set (Nat.le_refl _) _)⟩
      simp only [zeroEx, Ex.cells, Ex.rows, strRows, List.map_nil, FrzTo, FrzL]
      exact ⟨_, rfl, ⟨_, rfl, rfl, rfl, rfl, .inr (.inl ⟨rfl, .inr rfl⟩), .inr (.inl ⟨rfl, .inr rfl⟩), trivial⟩, rfl, trivial⟩
     | true =>
      have e0 : errP c = .sc .nilIface := by simp only [errP, hcc, cond_true]
      rw [e0] at hc
      have hto := tl_one tl
      have hrows : Ex.rows (pre ++ [e]) = Ex.rows pre ++ [e.cells] := by simp only [Ex.rows_map, List.map_append, List.map_cons, List.map_nil]
      obtain ⟨eop, ena, en, ear, eki⟩ := e
      simp only [Ex.cells] at hc hrows
      have hold : ∀ j, j < h'.next → (((((h'.new (.arr 6 [[.sc (.int .i64 0), .sc (.int .i64 0), .sc (.int .i64 0), .sc (.int .i64 0), .sc (.string ⟨#[]⟩), .sc (.slice none 0 0)]])).set h'.next (.arr 6 [[.sc (.int .i64 ki), .sc (.int .i64 va), .sc (.int .i64 li), .sc (.int .i64 co), sPV te, .imm 6 (Sx.rows ks)]])).new (.arr 5 [[.sc (.string ⟨#[]⟩), .sc (.string ⟨#[]⟩), .sc (.int .i64 0), .sc (.slice none 0 0), .sc (.slice none 0 0)]])).set (h'.next + 1) (.arr 5 [[sPV eop, sPV ena, .sc (.int .i64 en), .imm 1 (strRows ear), .imm 5 (Ex.rows eki)]])) : Heap).obj j = h'.obj j := fun j hj => by
       have a1 : ¬ j = h'.next := by omega
       have a2 : ¬ j = h'.next + 1 := by omega
       simp only [Heap.new, Heap.set, a1, a2, if_false]
      have tl2 := tl.up (h' := ((((h'.new (.arr 6 [[.sc (.int .i64 0), .sc (.int .i64 0), .sc (.int .i64 0), .sc (.int .i64 0), .sc (.string ⟨#[]⟩), .sc (.slice none 0 0)]])).set h'.next (.arr 6 [[.sc (.int .i64 ki), .sc (.int .i64 va), .sc (.int .i64 li), .sc (.int .i64 co), sPV te, .imm 6 (Sx.rows ks)]])).new (.arr 5 [[.sc (.string ⟨#[]⟩), .sc (.string ⟨#[]⟩), .sc (.int .i64 0), .sc (.slice none 0 0), .sc (.slice none 0 0)]])).set (h'.next + 1) (.arr 5 [[sPV eop, sPV ena, .sc (.int .i64 en), .imm 1 (strRows ear), .imm 5 (Ex.rows eki)]]))) (by simp [Heap.new, Heap.set]; omega) (fun j _ hj => hold j hj)
      have hg2 : Grow h ((((h'.new (.arr 6 [[.sc (.int .i64 0), .sc (.int .i64 0), .sc (.int .i64 0), .sc (.int .i64 0), .sc (.string ⟨#[]⟩), .sc (.slice none 0 0)]])).set h'.next (.arr 6 [[.sc (.int .i64 ki), .sc (.int .i64 va), .sc (.int .i64 li), .sc (.int .i64 co), sPV te, .imm 6 (Sx.rows ks)]])).new (.arr 5 [[.sc (.string ⟨#[]⟩), .sc (.string ⟨#[]⟩), .sc (.int .i64 0), .sc (.slice none 0 0), .sc (.slice none 0 0)]])).set (h'.next + 1) (.arr 5 [[sPV eop, sPV ena, .sc (.int .i64 en), .imm 1 (strRows ear), .imm 5 (Ex.rows eki)]])) := (((hg.new _).set hg.le _).new _).set (show h.next ≤ h'.next + 1 by have := hg.le; omega) _
      have hnn : (((((h'.new (.arr 6 [[.sc (.int .i64 0), .sc (.int .i64 0), .sc (.int .i64 0), .sc (.int .i64 0), .sc (.string ⟨#[]⟩), .sc (.slice none 0 0)]])).set h'.next (.arr 6 [[.sc (.int .i64 ki), .sc (.int .i64 va), .sc (.int .i64 li), .sc (.int .i64 co), sPV te, .imm 6 (Sx.rows ks)]])).new (.arr 5 [[.sc (.string ⟨#[]⟩), .sc (.string ⟨#[]⟩), .sc (.int .i64 0), .sc (.slice none 0 0), .sc (.slice none 0 0)]])).set (h'.next + 1) (.arr 5 [[sPV eop, sPV ena, .sc (.int .i64 en), .imm 1 (strRows ear), .imm 5 (Ex.rows eki)]])) : Heap).next = h'.next + 1 + 1 := by simp [Heap.new, Heap.set]
      obtain ⟨H, t1, t2, t3, t4, t5⟩ := tl2.tail
      have u9 := t4 (h.next + 1) (by omega)
      rw [hold _ hnx, o2] at u9
      have u0 := t4 h.next (by omega)
      rw [hold _ (by omega), o1] at u0
      rw [hnn] at t3
      have hkp := t5 h ⟨hg2.le, hg2.old⟩ (by omega)
      have hgH : Grow h H := ⟨hkp.1, hkp.2⟩
      have hpr : (Ex.rows pre).length = k := by rw [Ex.rows_len]; exact hpl
      have hb : (k + 1) * 88 ≤ 140737488355328 := by omega
      have n6 : (h.next + 1 = H.next) = False := by simp; omega
      have n7 : (h.next + 1 = h'.next + 1 + 1) = False := by simp; omega
      have W := And.intro g2 (And.intro g9 (And.intro g64 (And.intro g65 (And.intro g66 (And.intro hd (And.intro hr (And.intro o1 (And.intro o2 (And.intro n1 (And.intro n2 (And.intro n3 (And.intro n6 (And.intro n5 (And.intro n7 (And.intro t1 (And.intro t2 (And.intro u9 (And.intro hpr (And.intro hb w7)))))))))))))))))))
      repeat' (first | refine a_seq fun K hK => ?_ | (refine a_regionS ?_; simp only [Ty.w, simprocAttr, W, nsucc]) | (refine a_skip ?_; try simp only [pst0, simprocAttr]) | (refine a_cond _ (by (try simp only [Ty.w, simprocAttr, W, nsucc]); rfl) (fun hb => ?_) (fun hb => ?_) <;> (try simp only [hb0, decide_eq_true_eq, decide_eq_false_iff_not, simprocAttr] at hb) <;> (try (exfalso; omega))) | (refine hK _ _ ?_; clear hK; try simp only [pst0, simprocAttr]))
      refine owp_useQ (hc _) (by (try simp only [Ty.w, simprocAttr, W, nsucc]); try rfl) ?_; simp only [Ty.w, simprocAttr, W, nsucc]
      repeat' (first | refine a_seq fun K hK => ?_ | ((first | refine a_regionS ?_ | refine a_region (fun K hK => ?_)); simp only [Ty.w, simprocAttr, W, nsucc]) | (refine a_skip ?_; try simp only [pst0, simprocAttr]) | (refine a_cond _ (by (try simp only [Ty.w, simprocAttr, W, nsucc]); rfl) (fun hb => ?_) (fun hb => ?_) <;> (try simp only [hb0, decide_eq_true_eq, decide_eq_false_iff_not, simprocAttr] at hb) <;> (try (exfalso; omega))) | (refine hK _ _ ?_; clear hK; try simp only [pst0, simprocAttr]) | (rw [if_pos]; rotate_left 1; omega; simp only [Ty.w, simprocAttr, W, nsucc]))
      rw [← hrows]
      have hgr := Tl.grow (H := H) (id0 := h.next + 2) (z := 5) (len := k + 1) (rows := Ex.rows (pre ++ [Ex.mk eop ena en ear eki])) (by omega) (by rw [Ex.rows_len]; simp [hpl])
      refine ⟨rest.length - (k + 1), by omega, by rw [hlr], k + 1, .own H.next 0 (k + 1), pre ++ [Ex.mk eop ena en ear eki], by simp, by omega, rfl, (hgH.new _).set (show h.next ≤ h.next + 1 by omega) _, by omega, by simp [hpl], ?_, by rw [t3], ?_, ?_⟩
      ·rw [if_neg (by omega)]; exact u0
      ·exact hgr.up (Nat.le_refl _) (fun j hj _ => by simp only [Heap.set]; rw [if_neg (by omega)])
      ·rw [hinv, hcc]
       simp only [cond_true]
       cases hq : (exprsP (List.drop (k + 1) rest)).2 == 0 with
       | false => simp only [hq, cond_false]
       | true => simp only [cond_true, beq_self_eq_true, List.append_assoc, List.cons_append, List.nil_append]
    ·have hd : decide ((k : Int) < (rest.length : Int)) = false := by simp; omega
     rw [List.drop_eq_nil_of_le (by omega)] at hinv
     have hq : exprsP rest = (pre, 0) := by rw [hinv]; simp [exprsP]
     rw [hq] at hF
     have hF2 : F = (.mk w ⟨#[]⟩ 0 [] pre, 0) := hF
     clear hF
     subst hF2
     have ho := (tl_one tl).1
     have n1 : (h.next + 1 = h.next) = False := by simp
     repeat' (first | refine a_seq fun K hK => ?_ | ((first | refine a_regionS ?_ | refine a_ret ?_); simp only [Ty.w, simprocAttr, g2, g9, g64, g65, g66, hd, o1, o2, ho, n1]) | (refine a_exit ?_; try simp only [pst0, simprocAttr]) | (refine a_cond _ (by (try simp only [Ty.w, simprocAttr, g2, g9, g64, g65, g66, hd, o1, o2, ho, n1]); rfl) (fun hb => ?_) (fun hb => ?_) <;> (try simp only [hb0, decide_eq_true_eq, decide_eq_false_iff_not, simprocAttr] at hb) <;> (try (exfalso; omega))) | ((first | refine hK _ _ ?_ | (clear hK; refine hK _ _ ?_)); clear hK; try simp only [pst0, simprocAttr]))
     refine ⟨?_, hg.set (Nat.le_refl _) _⟩
     have e2 : errP 0 = .sc .nilIface := rfl
     rw [e2]
     have h1 : FrzTo h.next (h'.set h.next (.arr 5 [[sPV w, .sc (.string ⟨#[]⟩), .sc (.int .i64 0), .sc (.slice none 0 0), o]])) (.imm 5 (Ex.rows pre)) o := tl_frzE (by omega) (tl.up (Nat.le_refl _) (fun j hj _ => by simp only [Heap.set]; rw [if_neg (by omega)]))
     generalize h'.set h.next (.arr 5 [[sPV w, .sc (.string ⟨#[]⟩), .sc (.int .i64 0), .sc (.slice none 0 0), o]]) = H at h1 ⊢
     simp only [Ex.cells, strRows, List.map_nil]
     unfold FrzTo
     refine ⟨_, rfl, ?_⟩
     unfold FrzL
     refine ⟨?_, by unfold FrzL; exact ⟨by simp only [FrzTo], by simp only [FrzL]⟩⟩
     unfold FrzTo
     refine ⟨_, rfl, ?_⟩
     unfold FrzL
     refine ⟨by simp only [FrzTo], ?_⟩
     unfold FrzL
     refine ⟨by simp only [FrzTo], ?_⟩
     unfold FrzL
     refine ⟨by simp only [FrzTo], ?_⟩
     unfold FrzL
     refine ⟨by simp [FrzTo], ?_⟩
     unfold FrzL
     exact ⟨h1, by simp only [FrzL]⟩
theorem headM_rest {kind value line col : Int} {text : ByteArray} {kids : List Sx} {w : ByteArray} {rest : List Sx} (h : headM (.mk kind value line col text kids) = some (w, rest)) : ∃ y, kids = y :: rest := by
 simp only [headM] at h
 split at h
 ·cases kids with
  | nil => simp at h
  | cons y r =>
   simp only at h
   cases hk : kindOf y == 1 with
   | false => rw [hk] at h; simp at h
   | true =>
    rw [hk] at h
    simp only [cond_true, Option.some.injEq, Prod.mk.injEq] at h
    exact ⟨y, by rw [h.2]⟩
 ·simp at h
theorem expr_c : ∀ x : Sx, x.ok → x.small → ∀ h : Heap, PCall Try.prog 75 [.agg x.cells] h fun r h' => r = .tup [.agg (exprP x).1.cells, errP (exprP x).2] ∧ h' = h := by
 refine Sx.ind ?_
 intro kind value line col text kids ih hok hsm h
 have hok' := hok
 simp only [Sx.ok] at hok'
 obtain ⟨_, _, _, _, hks⟩ := hok'
 rw [Sx.oks_iff] at hks
 simp only [Sx.small] at hsm
 obtain ⟨hl, hss⟩ := hsm
 rw [Sx.smalls_iff] at hss
 have hrl : ∀ w rest, headM (.mk kind value line col text kids) = some (w, rest) → rest.length ≤ 1048576 := fun w rest e => by
  obtain ⟨y, rfl⟩ := headM_rest e
  simp at hl; omega
 by_cases hk2 : kind = 2
 ·exact expr_plain_c hok hrl (.inl hk2) h
 ·cases hM : headM (.mk kind value line col text kids) with
  | none => exact expr_plain_c hok hrl (.inr fun w rest e => by rw [hM] at e; simp at e) h
  | some wr =>
   obtain ⟨w, rest⟩ := wr
   cases hp : isPm w with
   | false => exact expr_plain_c hok hrl (.inr fun w2 rest2 e => by rw [hM] at e; simp at e; rw [← e.1]; exact hp) h
   | true =>
    obtain ⟨y, hy⟩ := headM_rest hM
    exact expr_pm_c hok hk2 hM hp (fun x hx => ih x (by rw [hy]; simp [hx]) (hks x (by rw [hy]; simp [hx])) (hss x (by rw [hy]; simp [hx]))) (hrl w rest hM) h
end Go.Proofs.Ytjlkapgpjamnkaa
namespace Go.AM
mutual
theorem Sx.small_of : ∀ (x : Sx), x.nodes ≤ 1048576 → x.small
 | .mk _ _ _ _ _ kids, h => by
  simp only [Sx.nodes] at h
  simp only [Sx.small]
  have := Sx.smalls_of kids (by omega)
  exact ⟨by omega, this.2⟩
theorem Sx.smalls_of : ∀ (l : List Sx), Sx.nodess l ≤ 1048576 → l.length ≤ Sx.nodess l ∧ Sx.smalls l
 | [], _ => by simp [Sx.nodess, Sx.smalls]
 | k :: ks, h => by
  simp only [Sx.nodess] at h
  have h1 := Sx.small_of k (by omega)
  have h2 := Sx.smalls_of ks (by omega)
  have h3 : 1 ≤ k.nodes := by cases k; simp only [Sx.nodes]; omega
  simp only [Sx.nodess, Sx.smalls, List.length_cons]
  exact ⟨by omega, h1, h2.2⟩
end
end Go.AM
namespace Go.Proofs.Ytjlkapgpjamnkaa
open Go.AM
theorem svalid_small {x : Sx} (h : (svalid x 0 0).1 = true) : x.small := by
 have := (svalid_iff x 0 0 (by omega) (by omega)).1.1 h
 exact Sx.small_of x (by omega)
theorem termsM_ok : ∀ {l : List Sx}, (∀ x ∈ l, x.ok) → (∀ s ∈ (termsM l).1, s.size ≤ bigN) ∧ (termsM l).1.length ≤ l.length
 | [], _ => by simp [termsM]
 | x :: l, h => by
  have h1 := termsM_ok (l := l) fun y hy => h y (by simp [hy])
  have h2 : (textOf x).size ≤ bigN := by
   have := h x (by simp)
   obtain ⟨_, _, _, _, t, _⟩ := x
   simp only [Sx.ok] at this
   exact this.2.2.1
  simp only [termsM]
  cases kindOf x == 1 with
  | false => simp
  | true =>
   cases termB (textOf x) with
   | false => simp
   | true =>
    simp only [cond_true]
    cases hq : (termsM l).2 == 0 with
    | false => simp
    | true =>
     simp only [cond_true, List.mem_cons, List.length_cons]
     exact ⟨fun s hs => hs.elim (fun e => by rw [e]; exact h2) (h1.1 s), by omega⟩
theorem zeroEx_ok : zeroEx.ok ∧ zeroEx.small := by
 simp only [zeroEx, Ex.ok, Ex.oks, Ex.small, Ex.smalls, List.length_nil]
 refine ⟨⟨by simp [bigN, ByteArray.size], by simp [bigN, ByteArray.size], by omega, ⟨by simp, by simp⟩, by simp, trivial⟩, by omega, trivial⟩
theorem exprP_ok : ∀ x : Sx, x.ok → x.small → (exprP x).1.ok ∧ (exprP x).1.small := by
 refine Sx.ind ?_
 intro kind value line col text kids ih hok hsm
 have hok' := hok
 simp only [Sx.ok] at hok'
 obtain ⟨hq1, hv, hq3, hq4, hks⟩ := hok'
 rw [Sx.oks_iff] at hks
 simp only [Sx.small] at hsm
 obtain ⟨hl, hss⟩ := hsm
 rw [Sx.smalls_iff] at hss
 rw [exprP_head]
 have kk : kindOf (.mk kind value line col text kids) = kind := rfl
 rw [kk]
 cases hk : kind == 2 with
 | true =>
  simp only [cond_true, Ex.ok, Ex.oks, Ex.small, Ex.smalls, List.length_nil]
  exact ⟨⟨by simp [opNum, bigN, ByteArray.size], by simp [bigN, ByteArray.size], hv, ⟨by simp, by simp⟩, by simp, trivial⟩, by omega, trivial⟩
 | false =>
  simp only [cond_false]
  cases hM : headM (.mk kind value line col text kids) with
  | none => exact zeroEx_ok
  | some wr =>
   obtain ⟨w, rest⟩ := wr
   obtain ⟨hw, hr⟩ := headM_ok hok hM
   obtain ⟨y, rfl⟩ := headM_rest hM
   simp only
   cases hp : isPm w with
   | true =>
    simp only [cond_true]
    split
    ·rename_i a b
     have ha := ih a (by simp) (hks a (by simp)) (hss a (by simp))
     have hb := ih b (by simp) (hks b (by simp)) (hss b (by simp))
     cases q1 : (exprP a).2 == 0 with
     | false => exact zeroEx_ok
     | true =>
      cases q2 : (exprP b).2 == 0 with
      | false => exact zeroEx_ok
      | true =>
       simp only [cond_true, Ex.ok, Ex.oks, Ex.small, Ex.smalls, List.length_nil, List.length_cons]
       exact ⟨⟨hw, by simp [bigN, ByteArray.size], by omega, ⟨by simp, by simp⟩, by simp [bigN], ha.1, hb.1, trivial⟩, by omega, ha.2, hb.2, trivial⟩
    ·exact zeroEx_ok
   | false =>
    simp only [cond_false]
    cases nameB w with
    | false => exact zeroEx_ok
    | true =>
     have ht := termsM_ok hr
     simp only [cond_true]
     cases q1 : (termsM rest).2 == 0 with
     | false => exact zeroEx_ok
     | true =>
      simp at hl
      simp only [cond_true, Ex.ok, Ex.oks, Ex.small, Ex.smalls, List.length_nil]
      exact ⟨⟨by simp [opFlu, bigN, ByteArray.size], hw, by omega, ⟨by have := ht.2; unfold bigN; omega, ht.1⟩, by simp, trivial⟩, by have := ht.2; omega, trivial⟩
end Go.Proofs.Ytjlkapgpjamnkaa
namespace Go.Proofs.Ytjlkapgpjamnkaa
open Go.AM
set_option maxHeartbeats 4000000
set_option maxRecDepth 20000
abbrev iN (c : Int) : PV := .sc (.int .i64 c)
theorem rterms_c {l : List Sx} (hl : l.length ≤ 1048576) (hok : ∀ x ∈ l, x.ok) (h : Heap) : PCall Try.prog 122 [.imm 6 (Sx.rows l)] h fun r h' => r = .tup [.imm 1 (strRows (termsM l).1), iN (termsM l).2] ∧ h' = h := by
 refine PCall.frz Ty.hb_122 ?_
 have hll := Sx.rows_len l
 refine pcall_body (ow := fun _ => false) (wf := fun _ => false) Ty.mixed Try.func122 rfl Ty.hb_122 (by rw [Try.ntmps122]; simp) ?_
 rw [Try.ntmps122, Try.results122]
 repeat' (first | refine a_seq fun K hK => ?_ | (refine a_block ?_) | (refine a_regionS ?_; simp only [Ty.w, simprocAttr, hll]) | (refine hK _ _ ?_; clear hK; try simp only [pst0, simprocAttr]))
 refine a_loop (fun m S h' => S 0 = .imm 6 (Sx.rows l) ∧ ∃ (k : Nat) (o : PV) (pre : List ByteArray), S 5 = .sc (.int .i64 k) ∧ S 4 = o ∧ k ≤ l.length ∧ m = l.length - k ∧ Grow h h' ∧ pre.length = k ∧ Tl h' h.next 1 o (strRows pre) ∧
  termsM l = (match termsM (l.drop k) with | (t, c) => bif c == 0 then (pre ++ t, 0) else ([], c))) l.length ?_ ?_
 ·simp only [Ty.w, simprocAttr]
  refine ⟨0, _, [], rfl, rfl, by omega, rfl, Grow.refl _, rfl, Tl.nil, ?_⟩
  have := termsM_code l
  rw [List.drop_zero]
  cases hq : (termsM l).2 == 0
  ·rcases this with h | h
   ·rw [h] at hq; simp at hq
   ·simp only [hq, cond_false]; rw [← h.1]
  ·have h0 : (termsM l).2 = 0 := by simpa using hq
   simp only [hq, cond_true, List.nil_append]; rw [← h0]
 ·rintro m S h' ⟨g0, k, o, pre, g5, g4, hk, rfl, hg, hpl, tl, hinv⟩
  by_cases hlt : k < l.length
  ·have hd : decide ((k : Int) < (l.length : Int)) = true := by simp; omega
   have w7 : IntKind.i64.wrap ((k : Int) + 1) = k + 1 := by rw [wrap64 (by omega) (by omega)]
   obtain ⟨x, hx⟩ : ∃ x, l[k]? = some x := ⟨_, List.getElem?_eq_getElem hlt⟩
   have hr := Sx.rows_get hx
   have hxk := hok x (List.mem_of_getElem? hx)
   rw [drop_of_get hx] at hinv
   simp only [termsM] at hinv
   obtain ⟨ki, va, li, co, te, ks⟩ := x
   simp only [Sx.ok] at hxk
   obtain ⟨_, _, hte, _⟩ := hxk
   simp only [Sx.cells] at hr
   simp only [kindOf, textOf] at hinv
   cases q1 : (ki != 1) with
   | true =>
    rw [show (ki == 1) = false by simpa using q1] at hinv
    simp only [cond_false] at hinv
    repeat' (first | refine a_seq fun K hK => ?_ | ((first | refine a_regionS ?_ | refine a_ret ?_); simp only [Ty.w, simprocAttr, g0, g5, g4, hd, hr, hll, q1]) | (refine a_skip ?_; try simp only [pst0, simprocAttr]) | (refine a_cond _ (by (try simp only [Ty.w, simprocAttr, g0, g5, g4, hd, hr, hll, q1]); rfl) (fun hb => ?_) (fun hb => ?_) <;> (try simp only [hb0, decide_eq_true_eq, decide_eq_false_iff_not, simprocAttr] at hb) <;> (try (exfalso; omega))) | (refine hK _ _ ?_; clear hK; try simp only [pst0, simprocAttr]))
    have e : termsM l = ([], 2) := hinv
    rw [e]
    refine ⟨?_, hg⟩
    simp only [FrzTo, FrzL]
    exact ⟨_, rfl, .inr (.inl ⟨rfl, .inr rfl⟩), rfl, trivial⟩
   | false =>
    rw [show (ki == 1) = true by simpa using q1] at hinv
    simp only [cond_true] at hinv
    have hc := fun h : Heap => rterm_c (h := h) hte
    generalize termB te = b at hc hinv
    cases b with
    | false =>
     simp only [cond_false] at hinv
     repeat' (first | refine a_seq fun K hK => ?_ | (refine a_regionS ?_; simp only [Ty.w, simprocAttr, g0, g5, g4, hd, hr, hll, q1]) | (refine a_skip ?_; try simp only [pst0, simprocAttr]) | (refine a_cond _ (by (try simp only [Ty.w, simprocAttr, g0, g5, g4, hd, hr, hll, q1]); rfl) (fun hb => ?_) (fun hb => ?_) <;> (try simp only [hb0, decide_eq_true_eq, decide_eq_false_iff_not, simprocAttr] at hb) <;> (try (exfalso; omega))) | (refine hK _ _ ?_; clear hK; try simp only [pst0, simprocAttr]))
     refine owp_useQ (hc _) (by (try simp only [Ty.w, simprocAttr, g0, g5, g4, hd, hr, q1, Bool.not_false]); try rfl) ?_; simp only [Ty.w, simprocAttr, g0, g5, g4, hd, hr, q1, Bool.not_false]
     repeat' (first | refine a_seq fun K hK => ?_ | ((first | refine a_regionS ?_ | refine a_ret ?_); simp only [Ty.w, simprocAttr, g0, g5, g4, Bool.not_false]) | (refine hK _ _ ?_; clear hK; try simp only [pst0, simprocAttr]))
     have e : termsM l = ([], 8) := hinv
     rw [e]
     refine ⟨?_, hg⟩
     simp only [FrzTo, FrzL]
     exact ⟨_, rfl, .inr (.inl ⟨rfl, .inr rfl⟩), rfl, trivial⟩
    | true =>
     simp only [cond_true] at hinv
     obtain ⟨H, t1, t2, t3, t4, t5⟩ := tl.tail
     have hpr : (strRows pre).length = k := by rw [strRows_len]; exact hpl
     have hb : (k + 1) * 16 ≤ 140737488355328 := by omega
     repeat' (first | refine a_seq fun K hK => ?_ | (refine a_regionS ?_; simp only [Ty.w, simprocAttr, g0, g5, g4, hd, hr, hll, q1]) | (refine a_skip ?_; try simp only [pst0, simprocAttr]) | (refine a_cond _ (by (try simp only [Ty.w, simprocAttr, g0, g5, g4, hd, hr, hll, q1]); rfl) (fun hb => ?_) (fun hb => ?_) <;> (try simp only [hb0, decide_eq_true_eq, decide_eq_false_iff_not, simprocAttr] at hb) <;> (try (exfalso; omega))) | (refine hK _ _ ?_; clear hK; try simp only [pst0, simprocAttr]))
     refine owp_useQ (hc _) (by (try simp only [Ty.w, simprocAttr, g0, g5, g4, hd, hr, q1, Bool.not_true]); try rfl) ?_; simp only [Ty.w, simprocAttr, g0, g5, g4, hd, hr, q1, Bool.not_true]
     repeat' (first | ((first | refine a_regionS ?_ | refine a_region (fun K hK => ?_)); simp only [Ty.w, simprocAttr, g0, g5, g4, hr, w7, Bool.not_true, t1, t2, hpr, hb]) | (refine a_skip ?_; try simp only [pst0, simprocAttr]) | (refine a_cond _ (by (try simp only [Ty.w, simprocAttr, g0, g5, g4, hr, w7, Bool.not_true, t1, t2, hpr, hb]); rfl) (fun hb => ?_) (fun hb => ?_) <;> (try simp only [hb0, decide_eq_true_eq, decide_eq_false_iff_not, simprocAttr] at hb) <;> (try (exfalso; omega))) | (refine hK _ _ ?_; clear hK; try simp only [pst0, simprocAttr]) | (rw [if_pos]; rotate_left 1; omega; simp only [Ty.w, simprocAttr, g0, g5, g4, hr, w7, Bool.not_true, t1, t2, hpr, hb]))
     have hkp := t5 h ⟨hg.le, hg.old⟩ (Nat.le_refl _)
     have hgH : Grow h H := ⟨hkp.1, hkp.2⟩
     have hap : strRows pre ++ [[PV.sc (.string te)]] = strRows (pre ++ [te]) := by simp [strRows]
     rw [hap]
     refine ⟨l.length - (k + 1), by omega, k + 1, .own H.next 0 (k + 1), pre ++ [te], by simp, by first | rfl | rw [t3], by omega, rfl, hgH.new _, by simp [hpl], Tl.grow hkp.1 (by rw [strRows_len]; simp [hpl]), ?_⟩
     rw [hinv]
     generalize termsM (List.drop (k + 1) l) = W
     obtain ⟨t, c⟩ := W
     cases hq : c == 0 with
     | false => simp only [hq, cond_false]
     | true => simp only [hq, cond_true, beq_self_eq_true, List.append_assoc, List.cons_append, List.nil_append]
  ·have hd : decide ((k : Int) < (l.length : Int)) = false := by simp; omega
   rw [List.drop_eq_nil_of_le (by omega)] at hinv
   simp only [termsM, beq_self_eq_true, cond_true, List.append_nil] at hinv
   repeat' (first | refine a_seq fun K hK => ?_ | ((first | refine a_regionS ?_ | refine a_ret ?_); simp only [Ty.w, simprocAttr, g0, g5, g4, hd, hll]) | (refine a_exit ?_; try simp only [pst0, simprocAttr]) | (refine a_cond _ (by (try simp only [Ty.w, simprocAttr, g0, g5, g4, hd, hll]); rfl) (fun hb => ?_) (fun hb => ?_) <;> (try simp only [hb0, decide_eq_true_eq, decide_eq_false_iff_not, simprocAttr] at hb) <;> (try (exfalso; omega))) | ((first | refine hK _ _ ?_ | (clear hK; refine hK _ _ ?_)); clear hK; try simp only [pst0, simprocAttr]))
   have e : termsM l = (pre, 0) := hinv
   rw [e]
   refine ⟨?_, hg⟩
   have h1 := tl_frzS tl
   unfold FrzTo
   refine ⟨_, rfl, ?_⟩
   unfold FrzL
   refine ⟨h1, ?_⟩
   unfold FrzL
   exact ⟨by simp only [FrzTo], by simp only [FrzL]⟩
def exprs2 : List Sx → List Ex × Int
 | [a, b] => (match exprP a with
  | (ea, ca) => bif ca == 0 then (match exprP b with
   | (eb, cb) => bif cb == 0 then ([ea, eb], 0) else ([], cb)) else ([], ca))
 | _ => ([], 2)
theorem exprs2_len {l : List Sx} (h : ¬ l.length = 2) : exprs2 l = ([], 2) := by
 match l, h with
 | [], _ => rfl
 | [_], _ => rfl
 | [_, _], h => simp at h
 | _ :: _ :: _ :: _, _ => rfl
theorem frz_tup2 {n : Nat} {H : Heap} {a b : PV} {v : Value} (h : FrzTo n H a b) : FrzTo n H (.tup [a, .sc v]) (.tup [b, .sc v]) := by
 unfold FrzTo
 refine ⟨_, rfl, ?_⟩
 unfold FrzL
 refine ⟨h, ?_⟩
 unfold FrzL
 exact ⟨by simp only [FrzTo], by simp only [FrzL]⟩
theorem frz_agg {n : Nat} {H : Heap} {a b : List PV} (h : FrzL n H a b) : FrzTo n H (.agg a) (.agg b) := by
 unfold FrzTo
 exact ⟨_, rfl, h⟩
theorem frz_nilslice {n z : Nat} {H : Heap} : FrzTo n H (.imm z []) (.sc (.slice none 0 0)) := by
 unfold FrzTo; exact .inr (.inl ⟨rfl, .inr rfl⟩)
theorem exsR_in (n : Nat) : ∀ l : List Ex, inNR n (Ex.rows l)
 | [] => by simp only [Ex.rows, inNR]
 | e :: l => by simp only [Ex.rows, inNR]; exact ⟨ex_in n e, exsR_in n l⟩
theorem rexprs_c {l : List Sx} (hl : l.length ≤ 1048576) (ih : ∀ x ∈ l, ∀ h : Heap, PCall Try.prog 76 [.agg x.cells] h fun r h' => r = .tup [.agg (exprP x).1.cells, iN (exprP x).2] ∧ h' = h) (h : Heap) :
  PCall Try.prog 123 [.imm 6 (Sx.rows l)] h fun r h' => r = .tup [.imm 5 (Ex.rows (exprs2 l).1), iN (exprs2 l).2] ∧ h' = h := by
 refine PCall.frz Ty.hb_123 ?_
 have hll := Sx.rows_len l
 have hg1 : ∀ o r, Grow h ((h.new o).set h.next r) := fun o r => ((Grow.refl h).new _).set (Nat.le_refl _) _
 have hg2 : ∀ o r o2 r2, Grow h ((((h.new o).set h.next r).new o2).set (h.next + 1) r2) := fun o r o2 r2 => ((((Grow.refl h).new _).set (Nat.le_refl _) _).new _).set (Nat.le_succ _) _
 cases q : ((l.length : Int) != 2) with
 | true =>
  rw [exprs2_len (by simp at q; omega)]
  refine pcall_body (ow := fun _ => false) (wf := fun _ => false) Ty.mixed Try.func123 rfl Ty.hb_123 (by rw [Try.ntmps123]; simp) ?_
  rw [Try.ntmps123, Try.results123]
  repeat' (first | refine a_seq fun K hK => ?_ | ((first | refine a_regionS ?_ | refine a_ret ?_); simp only [Ty.w, simprocAttr, hll, q]) | (refine hK _ _ ?_; clear hK; try simp only [pst0, simprocAttr]))
  exact ⟨frz_tup2 (by simpa only [Ex.rows] using frz_nilslice), Grow.refl _⟩
 | false =>
  obtain ⟨a, b, rfl⟩ : ∃ a b, l = [a, b] := by
   have h2 : l.length = 2 := by simp at q; omega
   match l, h2 with
   | [a, b], _ => exact ⟨a, b, rfl⟩
  have ca := ih a (by simp)
  have cb := ih b (by simp)
  have hE : exprs2 [a, b] = (match exprP a with
   | (ea, ca) => bif ca == 0 then (match exprP b with
    | (eb, cb) => bif cb == 0 then ([ea, eb], 0) else ([], cb)) else ([], ca)) := rfl
  rw [hE]
  clear hE ih q
  generalize exprP a = A at ca
  generalize exprP b = B at cb
  obtain ⟨ea, na⟩ := A
  obtain ⟨eb, nb⟩ := B
  simp only at ca cb ⊢
  have hfz := fun n hh => exs_frz n hh [ea, eb]
  simp only [Ex.rows] at hfz
  obtain ⟨ak, av, al, ac, at', aks⟩ := a
  obtain ⟨bk, bv, bl, bc, bt, bks⟩ := b
  obtain ⟨aop, aname, an, aargs, akids⟩ := ea
  obtain ⟨bop, bname, bn, bargs, bkids⟩ := eb
  simp only [Sx.cells, Sx.rows, Ex.cells, Ex.rows] at ca cb hfz hll ⊢
  cases qa : na == 0 with
  | false =>
   have qa' : (na != 0) = true := by simp [bne, qa]
   simp only [cond_false]
   refine pcall_body (ow := fun _ => false) (wf := fun _ => false) Ty.mixed Try.func123 rfl Ty.hb_123 (by rw [Try.ntmps123]; simp) ?_
   rw [Try.ntmps123, Try.results123]
   repeat' (first | refine a_seq fun K hK => ?_ | (refine a_regionS ?_; simp only [Ty.w, simprocAttr, hll]) | (refine a_skip ?_; try simp only [pst0, simprocAttr]) | (refine a_cond _ (by (try simp only [Ty.w, simprocAttr, hll]); rfl) (fun hb => ?_) (fun hb => ?_) <;> (try simp only [hb0, decide_eq_true_eq, decide_eq_false_iff_not, simprocAttr] at hb) <;> (try (exfalso; omega))) | (refine hK _ _ ?_; clear hK; try simp only [pst0, simprocAttr]))
   refine owp_useQ (ca _) (by (try simp only [Ty.w, simprocAttr, hll]); try rfl) ?_; simp only [Ty.w, simprocAttr, hll]
   repeat' (first | refine a_seq fun K hK => ?_ | ((first | refine a_regionS ?_ | refine a_ret ?_); simp only [Ty.w, simprocAttr, qa', nsucc]) | (refine hK _ _ ?_; clear hK; try simp only [pst0, simprocAttr]))
   exact ⟨frz_tup2 (by simpa only [Ex.rows] using frz_nilslice), hg1 _ _⟩
  | true =>
   have qa' : (na != 0) = false := by simp [bne, qa]
   simp only [cond_true]
   cases qb : nb == 0 with
   | false =>
    have qb' : (nb != 0) = true := by simp [bne, qb]
    simp only [cond_false]
    refine pcall_body (ow := fun _ => false) (wf := fun _ => false) Ty.mixed Try.func123 rfl Ty.hb_123 (by rw [Try.ntmps123]; simp) ?_
    rw [Try.ntmps123, Try.results123]
    repeat' (first | refine a_seq fun K hK => ?_ | (refine a_regionS ?_; simp only [Ty.w, simprocAttr, hll]) | (refine a_skip ?_; try simp only [pst0, simprocAttr]) | (refine a_cond _ (by (try simp only [Ty.w, simprocAttr, hll]); rfl) (fun hb => ?_) (fun hb => ?_) <;> (try simp only [hb0, decide_eq_true_eq, decide_eq_false_iff_not, simprocAttr] at hb) <;> (try (exfalso; omega))) | (refine hK _ _ ?_; clear hK; try simp only [pst0, simprocAttr]))
    refine owp_useQ (ca _) (by (try simp only [Ty.w, simprocAttr, hll]); try rfl) ?_; simp only [Ty.w, simprocAttr, hll]
    repeat' (first | refine a_seq fun K hK => ?_ | (refine a_regionS ?_; simp only [Ty.w, simprocAttr, qa', nsucc]) | (refine a_skip ?_; try simp only [pst0, simprocAttr]) | (refine a_cond _ (by (try simp only [Ty.w, simprocAttr, qa', nsucc]); rfl) (fun hb => ?_) (fun hb => ?_) <;> (try simp only [hb0, decide_eq_true_eq, decide_eq_false_iff_not, simprocAttr] at hb) <;> (try (exfalso; omega))) | (refine hK _ _ ?_; clear hK; try simp only [pst0, simprocAttr]))
    refine owp_useQ (cb _) (by (try simp only [Ty.w, simprocAttr, hll, nsucc]); try rfl) ?_; simp only [Ty.w, simprocAttr, hll, nsucc]
    repeat' (first | refine a_seq fun K hK => ?_ | ((first | refine a_regionS ?_ | refine a_ret ?_); simp only [Ty.w, simprocAttr, qb', nsucc]) | (refine hK _ _ ?_; clear hK; try simp only [pst0, simprocAttr]))
    exact ⟨frz_tup2 (by simpa only [Ex.rows] using frz_nilslice), hg2 _ _ _ _⟩
   | true =>
    have qb' : (nb != 0) = false := by simp [bne, qb]
    simp only [cond_true, Ex.rows, Ex.cells]
    refine pcall_body (ow := fun _ => false) (wf := fun _ => false) Ty.mixed Try.func123 rfl Ty.hb_123 (by rw [Try.ntmps123]; simp) ?_
    rw [Try.ntmps123, Try.results123]
    repeat' (first | refine a_seq fun K hK => ?_ | (refine a_regionS ?_; simp only [Ty.w, simprocAttr, hll]) | (refine a_skip ?_; try simp only [pst0, simprocAttr]) | (refine a_cond _ (by (try simp only [Ty.w, simprocAttr, hll]); rfl) (fun hb => ?_) (fun hb => ?_) <;> (try simp only [hb0, decide_eq_true_eq, decide_eq_false_iff_not, simprocAttr] at hb) <;> (try (exfalso; omega))) | (refine hK _ _ ?_; clear hK; try simp only [pst0, simprocAttr]))
    refine owp_useQ (ca _) (by (try simp only [Ty.w, simprocAttr, hll]); try rfl) ?_; simp only [Ty.w, simprocAttr, hll]
    repeat' (first | refine a_seq fun K hK => ?_ | (refine a_regionS ?_; simp only [Ty.w, simprocAttr, qa', nsucc]) | (refine a_skip ?_; try simp only [pst0, simprocAttr]) | (refine a_cond _ (by (try simp only [Ty.w, simprocAttr, qa', nsucc]); rfl) (fun hb => ?_) (fun hb => ?_) <;> (try simp only [hb0, decide_eq_true_eq, decide_eq_false_iff_not, simprocAttr] at hb) <;> (try (exfalso; omega))) | (refine hK _ _ ?_; clear hK; try simp only [pst0, simprocAttr]))
    refine owp_useQ (cb _) (by (try simp only [Ty.w, simprocAttr, hll, nsucc]); try rfl) ?_; simp only [Ty.w, simprocAttr, hll, nsucc]
    repeat' (first | refine a_seq fun K hK => ?_ | ((first | refine a_regionS ?_ | refine a_ret ?_); simp only [Ty.w, simprocAttr, qb', nsucc, Nat.add_eq_left, Nat.one_ne_zero]) | (refine a_skip ?_; try simp only [pst0, simprocAttr]) | (refine a_cond _ (by (try simp only [Ty.w, simprocAttr, qb', nsucc, Nat.add_eq_left, Nat.one_ne_zero]); rfl) (fun hb => ?_) (fun hb => ?_) <;> (try simp only [hb0, decide_eq_true_eq, decide_eq_false_iff_not, simprocAttr] at hb) <;> (try (exfalso; omega))) | (refine hK _ _ ?_; clear hK; try simp only [pst0, simprocAttr]))
    exact ⟨frz_tup2 (by simp only [FrzTo]; exact .inl ⟨trivial, by simpa only [Ex.rows, Ex.cells] using exsR_in _ [.mk aop aname an aargs akids, .mk bop bname bn bargs bkids]⟩), hg2 _ _ _ _⟩
theorem ssR_mem : ∀ {l : List Sx}, shapedSs l = true → ∀ x ∈ l, shapedS x = true
 | [], _, x, hx => by simp at hx
 | a :: l, h, x, hx => by
  simp only [shapedSs, Bool.and_eq_true] at h
  rcases List.mem_cons.1 hx with rfl | hx
  ·exact h.1
  ·exact ssR_mem h.2 x hx
theorem exprP_hd {kind value line col : Int} {text : ByteArray} {y : Sx} {rest : List Sx} (n2 : ¬ kind = 2) (e3 : kind = 3) : exprP (.mk kind value line col text (y :: rest)) =
  bif kindOf y == 1 then (bif isPm (textOf y) then (bif (exprs2 rest).2 == 0 then (.mk (textOf y) ⟨#[]⟩ 0 [] (exprs2 rest).1, 0) else (zeroEx, (exprs2 rest).2))
   else bif nameB (textOf y) then (bif (termsM rest).2 == 0 then (.mk opFlu (textOf y) 0 (termsM rest).1 [], 0) else (zeroEx, (termsM rest).2)) else (zeroEx, 8))
  else (zeroEx, 2) := by
 conv => lhs; unfold exprP
 rw [if_neg n2, if_pos e3]
 dsimp only
 cases kindOf y == 1 with
 | false => rfl
 | true =>
  cases isPm (textOf y) with
  | false => rfl
  | true =>
   simp only [cond_true]
   match rest with
   | [] => rfl
   | [_] => rfl
   | [a, b] =>
    simp only [exprs2]
    cases qa : (exprP a).2 == 0 with
    | false => simp only [cond_false, qa]
    | true =>
     cases qb : (exprP b).2 == 0 with
     | false => simp only [cond_true, cond_false, qb]
     | true => simp only [cond_true, beq_self_eq_true]
   | _ :: _ :: _ :: _ => rfl
theorem rexpr_c : ∀ x : Sx, x.ok → x.small → shapedS x = true → ∀ h : Heap, PCall Try.prog 76 [.agg x.cells] h fun r h' => r = .tup [.agg (exprP x).1.cells, iN (exprP x).2] ∧ h' = h := by
 refine Sx.ind ?_
 intro kind value line col text kids ih hok hsm hsh h
 simp only [Sx.ok] at hok
 obtain ⟨_, _, _, _, hks⟩ := hok
 rw [Sx.oks_iff] at hks
 simp only [Sx.small] at hsm
 obtain ⟨hl, hss⟩ := hsm
 rw [Sx.smalls_iff] at hss
 have hll := Sx.rows_len kids
 refine PCall.frz Ty.hb_76 ?_
 have hg1 : ∀ r, Grow h ((h.new (.arr 5 [[.sc (.string ⟨#[]⟩), .sc (.string ⟨#[]⟩), .sc (.int .i64 0), .sc (.slice none 0 0), .sc (.slice none 0 0)]])).set h.next r) := fun r => ((Grow.refl h).new _).set (Nat.le_refl _) _
 have hzero : ∀ (c : Int) (H : Heap), FrzTo h.next H (.tup [.agg zeroEx.cells, iN c]) (.tup [.agg [.sc (.string ⟨#[]⟩), .sc (.string ⟨#[]⟩), .sc (.int .i64 0), .sc (.slice none 0 0), .sc (.slice none 0 0)], iN c]) := fun c H => frz_tup2 (frz_agg (by
  simp [zeroEx, Ex.cells, Ex.rows, strRows, FrzL, FrzTo]))
 generalize hF : exprP (.mk kind value line col text kids) = F
 unfold shapedS at hsh
 simp only [Sx.cells]
 cases k2 : (kind == 2) with
 | true =>
  unfold exprP at hF
  rw [if_pos (by simpa using k2)] at hF
  subst hF
  refine pcall_body (ow := fun _ => false) (wf := fun _ => false) Ty.mixed Try.func76 rfl Ty.hb_76 (by rw [Try.ntmps76]; simp) ?_
  rw [Try.ntmps76, Try.results76]
  repeat' (first | refine a_seq fun K hK => ?_ | ((first | refine a_regionS ?_ | refine a_ret ?_); simp only [Ty.w, simprocAttr, k2]) | (refine hK _ _ ?_; clear hK; try simp only [pst0, simprocAttr]))
  refine ⟨frz_tup2 (frz_agg ?_), hg1 _⟩
  simp [opNum, Ex.cells, Ex.rows, strRows, FrzL, FrzTo]
 | false =>
  have n2 : ¬ kind = 2 := by simpa using k2
  cases k1 : (kind == 1) with
  | true =>
   have e1 : kind = 1 := by simpa using k1
   unfold exprP at hF
   rw [if_neg n2, if_neg (by omega)] at hF
   subst hF
   refine pcall_body (ow := fun _ => false) (wf := fun _ => false) Ty.mixed Try.func76 rfl Ty.hb_76 (by rw [Try.ntmps76]; simp) ?_
   rw [Try.ntmps76, Try.results76]
   repeat' (first | refine a_seq fun K hK => ?_ | ((first | refine a_regionS ?_ | refine a_ret ?_); simp only [Ty.w, simprocAttr, k2, k1]) | (refine a_skip ?_; try simp only [pst0, simprocAttr]) | (refine a_cond _ (by (try simp only [Ty.w, simprocAttr, k2, k1]); rfl) (fun hb => ?_) (fun hb => ?_) <;> (try simp only [hb0, decide_eq_true_eq, decide_eq_false_iff_not, simprocAttr] at hb) <;> (try (exfalso; omega))) | (refine hK _ _ ?_; clear hK; try simp only [pst0, simprocAttr]))
   exact ⟨hzero 2 _, hg1 _⟩
  | false =>
   have n1 : ¬ kind = 1 := by simpa using k1
   have e3 : kind = 3 := by
    rw [if_neg n1, if_neg n2] at hsh
    by_cases h3 : kind = 3
    ·exact h3
    ·rw [if_neg h3] at hsh; simp at hsh
   rw [if_neg n1, if_neg n2, if_pos e3, Bool.and_eq_true] at hsh
   cases kids with
   | nil =>
    unfold exprP at hF
    rw [if_neg n2, if_pos e3] at hF
    simp only at hF
    subst hF
    have q : (((Sx.rows []).length : Int) == 0) = true := rfl
    generalize Sx.rows [] = R at q hll
    refine pcall_body (ow := fun _ => false) (wf := fun _ => false) Ty.mixed Try.func76 rfl Ty.hb_76 (by rw [Try.ntmps76]; simp) ?_
    rw [Try.ntmps76, Try.results76]
    repeat' (first | refine a_seq fun K hK => ?_ | ((first | refine a_regionS ?_ | refine a_ret ?_); simp only [Ty.w, simprocAttr, k2, k1, q]) | (refine a_skip ?_; try simp only [pst0, simprocAttr]) | (refine a_cond _ (by (try simp only [Ty.w, simprocAttr, k2, k1, q]); rfl) (fun hb => ?_) (fun hb => ?_) <;> (try simp only [hb0, decide_eq_true_eq, decide_eq_false_iff_not, simprocAttr] at hb) <;> (try (exfalso; omega))) | (refine hK _ _ ?_; clear hK; try simp only [pst0, simprocAttr]))
    exact ⟨hzero 2 _, hg1 _⟩
   | cons y rest =>
    have hrs : ∀ x ∈ rest, shapedS x = true := by
     have := hsh.1
     simp only [shapedSs, Bool.and_eq_true] at this
     exact ssR_mem this.2
    have hyt : (textOf y).size ≤ 9223372036854775807 := by
     have := hks y (by simp)
     obtain ⟨_, _, _, _, t, _⟩ := y
     simp only [Sx.ok] at this
     have h3 := this.2.2.1
     unfold bigN at h3
     simp only [textOf]; omega
    have hrl : rest.length ≤ 1048576 := by simp at hl; omega
    have ihr := rexprs_c hrl (fun x hx => ih x (by simp [hx]) (hks x (by simp [hx])) (hss x (by simp [hx])) (hrs x hx))
    have htm := rterms_c hrl (fun x hx => hks x (by simp [hx]))
    have hnm := fun h : Heap => rname_c (h := h) (s := textOf y) hyt
    have q : (((Sx.rows (y :: rest)).length : Int) == 0) = false := by rw [hll]; simp; omega
    have r0 := Sx.rows_get (l := y :: rest) (i := 0) rfl
    have q1 : (1 : Int) ≤ ((Sx.rows (y :: rest)).length : Int) := by rw [hll]; simp; omega
    have ht : List.take (((Sx.rows (y :: rest)).length : Int) - 1).toNat (List.drop 1 (Sx.rows (y :: rest))) = Sx.rows rest := by
     simp only [Sx.rows, List.drop_succ_cons, List.drop_zero, List.length_cons]
     rw [List.take_of_length_le (by omega)]
    generalize Sx.rows (y :: rest) = R at q r0 q1 ht hll ⊢
    rw [exprP_hd n2 e3] at hF
    clear ih hks hss hl hrs hsh
    generalize exprs2 rest = E2 at hF ihr
    generalize termsM rest = TM at hF htm
    obtain ⟨es, ec⟩ := E2
    obtain ⟨ts, tc⟩ := TM
    obtain ⟨yk, yv, yl, yc, yt, yks⟩ := y
    simp only [Sx.cells, kindOf, textOf] at r0 hF hnm ihr htm
    cases ky : (yk != 1) with
    | true =>
     rw [show (yk == 1) = false by simpa using ky] at hF
     simp only [cond_false] at hF
     subst hF
     refine pcall_body (ow := fun _ => false) (wf := fun _ => false) Ty.mixed Try.func76 rfl Ty.hb_76 (by rw [Try.ntmps76]; simp) ?_
     rw [Try.ntmps76, Try.results76]
     repeat' (first | refine a_seq fun K hK => ?_ | ((first | refine a_regionS ?_ | refine a_ret ?_); simp only [Ty.w, simprocAttr, k2, k1, q, r0, ky]) | (refine a_skip ?_; try simp only [pst0, simprocAttr]) | (refine a_cond _ (by (try simp only [Ty.w, simprocAttr, k2, k1, q, r0, ky]); rfl) (fun hb => ?_) (fun hb => ?_) <;> (try simp only [hb0, decide_eq_true_eq, decide_eq_false_iff_not, simprocAttr] at hb) <;> (try (exfalso; omega))) | (refine hK _ _ ?_; clear hK; try simp only [pst0, simprocAttr]))
     exact ⟨hzero 2 _, hg1 _⟩
    | false =>
     rw [show (yk == 1) = true by simpa using ky] at hF
     simp only [cond_true] at hF
     refine pcall_body (ow := fun _ => false) (wf := fun _ => false) Ty.mixed Try.func76 rfl Ty.hb_76 (by rw [Try.ntmps76]; simp) ?_
     rw [Try.ntmps76, Try.results76]
     repeat' (first | (with_reducible refine a_hold 6 ?_) | refine a_seq fun K hK => ?_ | (refine a_regionS ?_; simp only [Ty.w, simprocAttr, k2, k1, q, r0, ky]) | (refine a_skip ?_; try simp only [pst0, simprocAttr]) | (refine a_cond _ (by (try simp only [Ty.w, simprocAttr, k2, k1, q, r0, ky]); rfl) (fun hb => ?_) (fun hb => ?_) <;> (try simp only [hb0, decide_eq_true_eq, decide_eq_false_iff_not, simprocAttr] at hb) <;> (try (exfalso; omega))) | (refine hK _ _ ?_; clear hK; try simp only [pst0, simprocAttr]))
     refine ⟨?_⟩
     refine a_seq (fun K hK => ?_)
     refine a_cut (fun S h' => S 1 = .cptr [.sc (.int .i64 kind), .sc (.int .i64 value), .sc (.int .i64 line), .sc (.int .i64 col), sPV text, .imm 6 R] ∧ S 2 = .ptr h.next 0 0 ∧ S 4 = sPV yt ∧ S 47 = .sc (.bool (isPm yt)) ∧ h' = h.new (.arr 5 [[.sc (.string ⟨#[]⟩), .sc (.string ⟨#[]⟩), .sc (.int .i64 0), .sc (.slice none 0 0), .sc (.slice none 0 0)]])) ?_ ?_
     ·have hpm : isPm yt = ((yt.data.toList == (#[43] : Array UInt8).toList) || (yt.data.toList == (#[45] : Array UInt8).toList) || (yt.data.toList == (#[42] : Array UInt8).toList)) := rfl
      rw [hpm]
      cases p1 : (yt.data.toList == (#[43] : Array UInt8).toList) with
      | true =>
       repeat' (refine a_regionS ?_; simp only [Ty.w, simprocAttr, p1])
       all_goals exact ⟨rfl, rfl, rfl, rfl, rfl⟩
      | false =>
       cases p2 : (yt.data.toList == (#[45] : Array UInt8).toList) with
       | true =>
        repeat' (refine a_regionS ?_; simp only [Ty.w, simprocAttr, p1, p2])
        all_goals exact ⟨rfl, rfl, rfl, rfl, rfl⟩
       | false =>
        cases p3 : (yt.data.toList == (#[42] : Array UInt8).toList) with
        | true =>
         repeat' (refine a_regionS ?_; simp only [Ty.w, simprocAttr, p1, p2, p3])
         all_goals exact ⟨rfl, rfl, rfl, rfl, rfl⟩
        | false =>
         repeat' (refine a_regionS ?_; simp only [Ty.w, simprocAttr, p1, p2, p3])
         all_goals exact ⟨rfl, rfl, rfl, rfl, rfl⟩
     ·rintro S h' ⟨g1, g2, g4, g47, rfl⟩
      generalize isPm yt = pm at g47 hF
      cases pm with
      | true =>
       simp only [cond_true] at hF
       cases qc : ec == 0 with
       | false =>
        have qc' : (ec != 0) = true := by simp [bne, qc]
        rw [qc] at hF
        simp only [cond_false] at hF
        subst hF
        repeat' (first | refine a_seq fun K hK => ?_ | (refine a_regionS ?_; simp only [Ty.w, simprocAttr, g1, g2, g4, g47, q1, ht, Option.getD_some, Option.getD_none, Int.le_refl, Int.toNat_one]) | (refine a_cond _ (by (try simp only [Ty.w, simprocAttr, g1, g2, g4, g47, q1, ht, Option.getD_some, Option.getD_none, Int.le_refl, Int.toNat_one]); rfl) (fun hb => ?_) (fun hb => ?_) <;> (try simp only [hb0, decide_eq_true_eq, decide_eq_false_iff_not, simprocAttr] at hb) <;> (try (exfalso; omega))))
        refine owp_useQ (ihr _) (by (try simp only [Ty.w, simprocAttr, g1, g2, g4, g47, q1, ht, Option.getD_some, Option.getD_none, Int.le_refl, Int.toNat_one]); try rfl) ?_; simp only [Ty.w, simprocAttr, g1, g2, g4, g47, q1, ht, Option.getD_some, Option.getD_none, Int.le_refl, Int.toNat_one]
        repeat' (first | refine a_seq fun K hK => ?_ | ((first | refine a_regionS ?_ | refine a_ret ?_); simp only [Ty.w, simprocAttr, g1, g2, g4, g47, qc']) | (refine hK _ _ ?_; clear hK; try simp only [pst0, simprocAttr]))
        exact ⟨hzero _ _, hg1 _⟩
       | true =>
        have qc' : (ec != 0) = false := by simp [bne, qc]
        rw [qc] at hF
        simp only [cond_true] at hF
        subst hF
        repeat' (first | refine a_seq fun K hK => ?_ | (refine a_regionS ?_; simp only [Ty.w, simprocAttr, g1, g2, g4, g47, q1, ht, Option.getD_some, Option.getD_none, Int.le_refl, Int.toNat_one]) | (refine a_cond _ (by (try simp only [Ty.w, simprocAttr, g1, g2, g4, g47, q1, ht, Option.getD_some, Option.getD_none, Int.le_refl, Int.toNat_one]); rfl) (fun hb => ?_) (fun hb => ?_) <;> (try simp only [hb0, decide_eq_true_eq, decide_eq_false_iff_not, simprocAttr] at hb) <;> (try (exfalso; omega))))
        refine owp_useQ (ihr _) (by (try simp only [Ty.w, simprocAttr, g1, g2, g4, g47, q1, ht, Option.getD_some, Option.getD_none, Int.le_refl, Int.toNat_one]); try rfl) ?_; simp only [Ty.w, simprocAttr, g1, g2, g4, g47, q1, ht, Option.getD_some, Option.getD_none, Int.le_refl, Int.toNat_one]
        repeat' (first | refine a_seq fun K hK => ?_ | ((first | refine a_regionS ?_ | refine a_ret ?_); simp only [Ty.w, simprocAttr, g1, g2, g4, g47, qc']) | (refine a_skip ?_; try simp only [pst0, simprocAttr]) | (refine a_cond _ (by (try simp only [Ty.w, simprocAttr, g1, g2, g4, g47, qc']); rfl) (fun hb => ?_) (fun hb => ?_) <;> (try simp only [hb0, decide_eq_true_eq, decide_eq_false_iff_not, simprocAttr] at hb) <;> (try (exfalso; omega))) | (refine hK _ _ ?_; clear hK; try simp only [pst0, simprocAttr]))
        refine ⟨frz_tup2 (frz_agg ?_), hg1 _⟩
        simp [Ex.cells, strRows, FrzL, FrzTo, exsR_in]
      | false =>
       simp only [cond_false] at hF
       generalize nameB yt = bn at hnm hF
       cases bn with
       | false =>
        simp only [cond_false] at hF
        subst hF
        repeat' (first | refine a_seq fun K hK => ?_ | (refine a_regionS ?_; simp only [Ty.w, simprocAttr, g1, g2, g4, g47]) | (refine a_skip ?_; try simp only [pst0, simprocAttr]) | (refine a_cond _ (by (try simp only [Ty.w, simprocAttr, g1, g2, g4, g47]); rfl) (fun hb => ?_) (fun hb => ?_) <;> (try simp only [hb0, decide_eq_true_eq, decide_eq_false_iff_not, simprocAttr] at hb) <;> (try (exfalso; omega))) | (refine hK _ _ ?_; clear hK; try simp only [pst0, simprocAttr]))
        refine owp_useQ (hnm _) (by (try simp only [Ty.w, simprocAttr, g1, g2, g4, g47, Bool.not_false]); try rfl) ?_; simp only [Ty.w, simprocAttr, g1, g2, g4, g47, Bool.not_false]
        repeat' (first | refine a_seq fun K hK => ?_ | ((first | refine a_regionS ?_ | refine a_ret ?_); simp only [Ty.w, simprocAttr, g1, g2, g4, Bool.not_false]) | (refine hK _ _ ?_; clear hK; try simp only [pst0, simprocAttr]))
        exact ⟨hzero _ _, hg1 _⟩
       | true =>
        simp only [cond_true] at hF
        cases qc : tc == 0 with
        | false =>
         have qc' : (tc != 0) = true := by simp [bne, qc]
         rw [qc] at hF
         simp only [cond_false] at hF
         subst hF
         have W := And.intro g1 (And.intro g2 (And.intro g4 (And.intro g47 (And.intro q1 ht))))
         repeat' (first | refine a_seq fun K hK => ?_ | (refine a_regionS ?_; simp only [Ty.w, simprocAttr, W]) | (refine a_skip ?_; try simp only [pst0, simprocAttr]) | (refine a_cond _ (by (try simp only [Ty.w, simprocAttr, W]); rfl) (fun hb => ?_) (fun hb => ?_) <;> (try simp only [hb0, decide_eq_true_eq, decide_eq_false_iff_not, simprocAttr] at hb) <;> (try (exfalso; omega))) | (refine hK _ _ ?_; clear hK; try simp only [pst0, simprocAttr]))
         refine owp_useQ (hnm _) (by (try simp only [Ty.w, simprocAttr, W, Bool.not_true]); try rfl) ?_; simp only [Ty.w, simprocAttr, W, Bool.not_true]
         repeat' (first | refine a_seq fun K hK => ?_ | (refine a_regionS ?_; simp only [Ty.w, simprocAttr, W, Bool.not_true, Option.getD_some, Option.getD_none, Int.le_refl, Int.toNat_one]) | (refine a_skip ?_; try simp only [pst0, simprocAttr]) | (refine a_cond _ (by (try simp only [Ty.w, simprocAttr, W, Bool.not_true, Option.getD_some, Option.getD_none, Int.le_refl, Int.toNat_one]); rfl) (fun hb => ?_) (fun hb => ?_) <;> (try simp only [hb0, decide_eq_true_eq, decide_eq_false_iff_not, simprocAttr] at hb) <;> (try (exfalso; omega))) | (refine hK _ _ ?_; clear hK; try simp only [pst0, simprocAttr]))
         refine owp_useQ (htm _) (by (try simp only [Ty.w, simprocAttr, W, Option.getD_some, Option.getD_none, Int.le_refl, Int.toNat_one]); try rfl) ?_; simp only [Ty.w, simprocAttr, W, Option.getD_some, Option.getD_none, Int.le_refl, Int.toNat_one]
         repeat' (first | refine a_seq fun K hK => ?_ | ((first | refine a_regionS ?_ | refine a_ret ?_); simp only [Ty.w, simprocAttr, W, qc']) | (refine hK _ _ ?_; clear hK; try simp only [pst0, simprocAttr]))
         exact ⟨hzero _ _, hg1 _⟩
        | true =>
         have qc' : (tc != 0) = false := by simp [bne, qc]
         rw [qc] at hF
         simp only [cond_true] at hF
         subst hF
         have W := And.intro g1 (And.intro g2 (And.intro g4 (And.intro g47 (And.intro q1 ht))))
         repeat' (first | refine a_seq fun K hK => ?_ | (refine a_regionS ?_; simp only [Ty.w, simprocAttr, W]) | (refine a_skip ?_; try simp only [pst0, simprocAttr]) | (refine a_cond _ (by (try simp only [Ty.w, simprocAttr, W]); rfl) (fun hb => ?_) (fun hb => ?_) <;> (try simp only [hb0, decide_eq_true_eq, decide_eq_false_iff_not, simprocAttr] at hb) <;> (try (exfalso; omega))) | (refine hK _ _ ?_; clear hK; try simp only [pst0, simprocAttr]))
         refine owp_useQ (hnm _) (by (try simp only [Ty.w, simprocAttr, W, Bool.not_true]); try rfl) ?_; simp only [Ty.w, simprocAttr, W, Bool.not_true]
         repeat' (first | refine a_seq fun K hK => ?_ | (refine a_regionS ?_; simp only [Ty.w, simprocAttr, W, Bool.not_true, Option.getD_some, Option.getD_none, Int.le_refl, Int.toNat_one]) | (refine a_skip ?_; try simp only [pst0, simprocAttr]) | (refine a_cond _ (by (try simp only [Ty.w, simprocAttr, W, Bool.not_true, Option.getD_some, Option.getD_none, Int.le_refl, Int.toNat_one]); rfl) (fun hb => ?_) (fun hb => ?_) <;> (try simp only [hb0, decide_eq_true_eq, decide_eq_false_iff_not, simprocAttr] at hb) <;> (try (exfalso; omega))) | (refine hK _ _ ?_; clear hK; try simp only [pst0, simprocAttr]))
         refine owp_useQ (htm _) (by (try simp only [Ty.w, simprocAttr, W, Option.getD_some, Option.getD_none, Int.le_refl, Int.toNat_one]); try rfl) ?_; simp only [Ty.w, simprocAttr, W, Option.getD_some, Option.getD_none, Int.le_refl, Int.toNat_one]
         repeat' (first | refine a_seq fun K hK => ?_ | ((first | refine a_regionS ?_ | refine a_ret ?_); simp only [Ty.w, simprocAttr, W, qc']) | (refine a_skip ?_; try simp only [pst0, simprocAttr]) | (refine a_cond _ (by (try simp only [Ty.w, simprocAttr, W, qc']); rfl) (fun hb => ?_) (fun hb => ?_) <;> (try simp only [hb0, decide_eq_true_eq, decide_eq_false_iff_not, simprocAttr] at hb) <;> (try (exfalso; omega))) | (refine hK _ _ ?_; clear hK; try simp only [pst0, simprocAttr]))
         refine ⟨frz_tup2 (frz_agg ?_), hg1 _⟩
         simp [opFlu, Ex.cells, Ex.rows, FrzL, FrzTo, strs_in]
end Go.Proofs.Ytjlkapgpjamnkaa
namespace Go.Proofs.Ytjlkapgpjamnkaa
open Go.AM
def opAtom : ByteArray := ⟨#[97, 116, 111, 109]⟩
def opSame : ByteArray := ⟨#[115, 97, 109, 101]⟩
def opAnd : ByteArray := ⟨#[97, 110, 100]⟩
def opOr : ByteArray := ⟨#[111, 114]⟩
def opNot : ByteArray := ⟨#[110, 111, 116]⟩
def opImp : ByteArray := ⟨#[105, 109, 112, 108, 121]⟩
def opAll : ByteArray := ⟨#[102, 111, 114, 97, 108, 108]⟩
def opSome : ByteArray := ⟨#[101, 120, 105, 115, 116, 115]⟩
def opEq : ByteArray := ⟨#[61]⟩
def opLt : ByteArray := ⟨#[60]⟩
def opLe : ByteArray := ⟨#[60, 61]⟩
def opGt : ByteArray := ⟨#[62]⟩
def opGe : ByteArray := ⟨#[62, 61]⟩
def isCmp (op : ByteArray) : Bool := bEq op opLt || bEq op opLe || bEq op opEq
def isQ (op : ByteArray) : Bool := bEq op opAll || bEq op opSome
def zeroFm : Fm := .mk ⟨#[]⟩ ⟨#[]⟩ [] [] [] []
def shapeOf (op : ByteArray) (nk : Nat) : Option (Nat × Nat × Bool) :=
 if bEq op opAtom then some (0, 0, false)
 else if bEq op opSame then some (0, 0, false)
 else if bEq op opLt then some (2, 0, false)
 else if bEq op opLe then some (2, 0, false)
 else if bEq op opEq then some (2, 0, false)
 else if bEq op opAnd then some (0, nk, false)
 else if bEq op opOr then some (0, nk, false)
 else if bEq op opNot then some (0, 1, false)
 else if bEq op opImp then some (0, 2, false)
 else if bEq op opAll then some (0, 1, true)
 else if bEq op opSome then some (0, 1, true)
 else none
def termsOk (op name : ByteArray) (args : List ByteArray) : Bool :=
 if bEq op opAtom then nameB name && args.all termB
 else if bEq op opSame then emptyB name && decide (args.length = 2) && args.all termB
 else emptyB name && args.isEmpty
def pmOk (p : Pm) : Bool := varB p.name && typedB p.type
def partsOk (op name : ByteArray) (args : List ByteArray) (params : List Pm) (ne nk : Nat) : Bool :=
 match shapeOf op nk with
 | none => false
 | some (e, m, q) => termsOk op name args && decide (ne = e) && decide (nk = m) && (params.isEmpty || q) && params.all pmOk
def formedMs : List Ex → Nat → Nat → Bool × Nat
 | [], _, c => (true, c)
 | e :: l, d, c => match formedM e d c with
  | (true, c') => formedMs l d c'
  | (false, c') => (false, c')
mutual
def shapedM : Fm → Nat → Nat → Bool × Nat
 | .mk op name args params exprs kids, d, c =>
  if c + 1 ≤ 4096 ∧ d ≤ 32 then
   (if partsOk op name args params exprs.length kids.length = true then (match formedMs exprs (d + 1) (c + 1) with
    | (true, c') => shapedMs kids (d + 1) c'
    | (false, c') => (false, c')) else (false, c + 1))
  else (false, c + 1)
def shapedMs : List Fm → Nat → Nat → Bool × Nat
 | [], _, c => (true, c)
 | k :: l, d, c => match shapedM k d c with
  | (true, c') => shapedMs l d c'
  | (false, c') => (false, c')
end
mutual
def shapedF : Fm → Bool
 | .mk op name args params exprs kids => partsOk op name args params exprs.length kids.length && exprs.all shapedE && shapedFs kids
def shapedFs : List Fm → Bool
 | [] => true
 | k :: l => shapedF k && shapedFs l
end
theorem shapedFs_iff : ∀ {l : List Fm}, (shapedFs l = true ↔ ∀ k ∈ l, shapedF k = true)
 | [] => by simp [shapedFs]
 | k :: l => by simp [shapedFs, shapedFs_iff (l := l)]
mutual
def fmW : Fm → Sx
 | .mk op name args params exprs kids =>
  if bEq op opAtom then wordsM name args
  else if bEq op opSame then wordsM opEq args
  else if isCmp op = true then listM (wordM op :: exprs.map exW)
  else listM ((if (bEq op opAnd && kids.isEmpty) = true then [] else [wordM op]) ++ (if isQ op = true then [listM (paramsW params)] else []) ++ fmWs kids)
def fmWs : List Fm → List Sx
 | [] => []
 | k :: l => fmW k :: fmWs l
end
theorem fmWs_map : ∀ l : List Fm, fmWs l = l.map fmW
 | [] => rfl
 | k :: l => by simp [fmWs, fmWs_map l]
def validF (f : Fm) : Bool := (shapedM f 0 0).1 && (svalid (fmW f) 0 0).1
end Go.Proofs.Ytjlkapgpjamnkaa
namespace Go.Proofs.Ytjlkapgpjamnkaa
open Go.AM
def kidsOf : Sx → List Sx
 | .mk _ _ _ _ _ kids => kids
def isWrd (x : Sx) : Bool := kindOf x == 1 && (svalid x 0 0).1
def pmsOf (t : ByteArray) (l : List ByteArray) : List Pm := l.map (⟨·, t⟩)
def paramsL (vars : Bool) : List Sx → List Pm → List ByteArray → List Pm × Int
 | [], don, pen => (don ++ pmsOf opObj pen, 0)
 | x :: l, don, pen => bif isWrd x then
   (bif bEq (textOf x) opMin then (match l with
    | [] => ([], 2)
    | t :: l' => bif !pen.isEmpty && isWrd t then (bif typedB (textOf t) then paramsL vars l' (don ++ pmsOf (textOf t) pen) [] else ([], 8)) else ([], 2))
   else bif (bif vars then varB (textOf x) else nameB (textOf x)) then paramsL vars l don (pen ++ [textOf x]) else ([], 8))
  else ([], 2)
def paramsP (vars : Bool) (l : List Sx) : List Pm × Int := paramsL vars l [] []
def compareP (w : ByteArray) (x y : Sx) : Fm × Int :=
 bif bEq w opEq && kindOf x == 1 && kindOf y == 1 then (.mk opSame ⟨#[]⟩ (termsM [x, y]).1 [] [] [], (termsM [x, y]).2)
 else bif (exprP x).2 == 0 then (bif (exprP y).2 == 0 then
   (if bEq w opGt then (.mk opLt ⟨#[]⟩ [] [] [(exprP y).1, (exprP x).1] [], 0)
   else if bEq w opGe then (.mk opLe ⟨#[]⟩ [] [] [(exprP y).1, (exprP x).1] [], 0)
   else (.mk w ⟨#[]⟩ [] [] [(exprP x).1, (exprP y).1] [], 0)) else (zeroFm, (exprP y).2)) else (zeroFm, (exprP x).2)
def fin (r : Fm × Int) : Fm × Int := bif r.2 == 0 then r else (zeroFm, r.2)
def isCmp5 (w : ByteArray) : Bool := isCmp w || bEq w opGt || bEq w opGe
def isLst (w : ByteArray) : Bool := bEq w opNot || bEq w opImp || bEq w opAnd || bEq w opOr
mutual
def fmP : Sx → Fm × Int
 | .mk kind _ _ _ _ kids =>
  if kind = 3 then (match kids with
   | [] => (.mk opAnd ⟨#[]⟩ [] [] [] [], 0)
   | x :: rest => bif kindOf x == 1 then
    (bif decide (countW (textOf x) ≥ 0) && !(decide (countW (textOf x) = rest.length)) then (zeroFm, 2)
    else bif isQ (textOf x) then (match rest with
     | [] => (zeroFm, 2)
     | p :: body => bif kindOf p == 3 then (bif (paramsP true (kidsOf p)).2 == 0 then (match fmPs body with
       | (ks, c) => bif c == 0 then (.mk (textOf x) ⟨#[]⟩ [] (paramsP true (kidsOf p)).1 [] ks, 0) else (zeroFm, c))
      else (zeroFm, (paramsP true (kidsOf p)).2)) else (zeroFm, 2))
    else bif isLst (textOf x) then (match fmPs rest with
     | (ks, c) => bif c == 0 then (.mk (textOf x) ⟨#[]⟩ [] [] [] ks, 0) else (zeroFm, c))
    else bif isCmp5 (textOf x) then (match rest with
     | [a, b] => fin (compareP (textOf x) a b)
     | _ => (zeroFm, 2))
    else bif nameB (textOf x) then (bif (termsM rest).2 == 0 then (.mk opAtom (textOf x) (termsM rest).1 [] [] [], 0) else (zeroFm, (termsM rest).2))
    else (zeroFm, 8))
   else (zeroFm, 2)) else (zeroFm, 2)
def fmPs : List Sx → List Fm × Int
 | [] => ([], 0)
 | x :: l => match fmP x with
  | (f, c) => bif c == 0 then (match fmPs l with
   | (fs, c') => bif c' == 0 then (f :: fs, 0) else ([], c')) else ([], c)
end
end Go.Proofs.Ytjlkapgpjamnkaa
namespace Go.Proofs.Ytjlkapgpjamnkaa
open Go.AM
theorem countW_eq (op : ByteArray) : countW op = if bEq op opNot then 1 else if bEq op opImp then 2 else if bEq op opAll then 2 else if bEq op opSome then 2 else if bEq op opEq then 2 else if bEq op opLt then 2 else if bEq op opLe then 2 else if bEq op opGt then 2 else if bEq op opGe then 2 else -1 := rfl
theorem partsOk_cases {op name : ByteArray} {args : List ByteArray} {params : List Pm} {ne nk : Nat} (h : partsOk op name args params ne nk = true) :
  (op = opAtom ∧ nameB name = true ∧ args.all termB = true ∧ params = [] ∧ ne = 0 ∧ nk = 0) ∨
  (op = opSame ∧ name = ⟨#[]⟩ ∧ args.length = 2 ∧ args.all termB = true ∧ params = [] ∧ ne = 0 ∧ nk = 0) ∨
  ((op = opLt ∨ op = opLe ∨ op = opEq) ∧ name = ⟨#[]⟩ ∧ args = [] ∧ params = [] ∧ ne = 2 ∧ nk = 0) ∨
  ((op = opAnd ∨ op = opOr ∨ (op = opNot ∧ nk = 1) ∨ (op = opImp ∧ nk = 2)) ∧ name = ⟨#[]⟩ ∧ args = [] ∧ params = [] ∧ ne = 0) ∨
  ((op = opAll ∨ op = opSome) ∧ name = ⟨#[]⟩ ∧ args = [] ∧ ne = 0 ∧ nk = 1 ∧ params.all pmOk = true) := by
 unfold partsOk shapeOf at h
 have t1 : ∀ o : ByteArray, bEq o opAtom = false → bEq o opSame = false → termsOk o name args = true → name = ⟨#[]⟩ ∧ args = [] := by
  intro o h1 h2 h3
  unfold termsOk at h3
  rw [h1, h2] at h3
  simp only [Bool.false_eq_true, if_false, Bool.and_eq_true, List.isEmpty_iff] at h3
  exact ⟨bEq_eq h3.1, h3.2⟩
 cases c1 : bEq op opAtom with
 | true =>
  have := bEq_eq c1
  subst this
  left
  simp [c1, termsOk, and_assoc] at h
  exact ⟨rfl, h.1, by simpa using h.2.1, h.2.2.2.2.1, h.2.2.1, h.2.2.2.1⟩
 | false =>
 cases c2 : bEq op opSame with
 | true =>
  have := bEq_eq c2
  subst this
  right; left
  simp [c1, c2, termsOk, and_assoc] at h
  obtain ⟨h1, h2, h3, h4, h5, h6, _⟩ := h
  exact ⟨rfl, bEq_eq h1, h2, by simpa using h3, h6, h4, h5⟩
 | false =>
  have t2 := t1 op c1 c2
  rw [c1, c2] at h
  simp only [Bool.false_eq_true, if_false] at h
  right; right
  by_cases c3 : bEq op opLt = true ∨ bEq op opLe = true ∨ bEq op opEq = true
  ·left
   have h' : termsOk op name args = true ∧ ne = 2 ∧ nk = 0 ∧ params = [] := by
    split at h
    ·simp at h
    ·rename_i e m q he
     have : (e, m, q) = (2, 0, false) := by
      rcases c3 with c | c | c
      ·simp [c] at he; simp [he]
      ·by_cases c0 : bEq op opLt = true
       ·simp [c0] at he; simp [he]
       ·simp [c0, c] at he; simp [he]
      ·by_cases c0 : bEq op opLt = true
       ·simp [c0] at he; simp [he]
       ·by_cases c00 : bEq op opLe = true
        ·simp [c0, c00] at he; simp [he]
        ·simp [c0, c00, c] at he; simp [he]
     simp at this
     obtain ⟨rfl, rfl, rfl⟩ := this
     simp [and_assoc] at h
     exact ⟨h.1, h.2.1, h.2.2.1, h.2.2.2.1⟩
   obtain ⟨g1, g2, g3, g4⟩ := h'
   obtain ⟨g5, g6⟩ := t2 g1
   exact ⟨c3.imp bEq_eq (fun c => c.imp bEq_eq bEq_eq), g5, g6, g4, g2, g3⟩
  ·simp only [not_or, Bool.not_eq_true] at c3
   rw [c3.1, c3.2.1, c3.2.2] at h
   simp only [Bool.false_eq_true, if_false] at h
   right
   cases c4 : bEq op opAnd with
   | true =>
    left
    simp [c4, and_assoc] at h
    exact ⟨.inl (bEq_eq c4), (t2 h.1).1, (t2 h.1).2, h.2.2.1, h.2.1⟩
   | false =>
   cases c5 : bEq op opOr with
   | true =>
    left
    simp [c4, c5, and_assoc] at h
    exact ⟨.inr (.inl (bEq_eq c5)), (t2 h.1).1, (t2 h.1).2, h.2.2.1, h.2.1⟩
   | false =>
   cases c6 : bEq op opNot with
   | true =>
    left
    simp [c4, c5, c6, and_assoc] at h
    exact ⟨.inr (.inr (.inl ⟨bEq_eq c6, h.2.2.1⟩)), (t2 h.1).1, (t2 h.1).2, h.2.2.2.1, h.2.1⟩
   | false =>
   cases c7 : bEq op opImp with
   | true =>
    left
    simp [c4, c5, c6, c7, and_assoc] at h
    exact ⟨.inr (.inr (.inr ⟨bEq_eq c7, h.2.2.1⟩)), (t2 h.1).1, (t2 h.1).2, h.2.2.2.1, h.2.1⟩
   | false =>
   cases c8 : bEq op opAll with
   | true =>
    right
    simp [c4, c5, c6, c7, c8, and_assoc] at h
    exact ⟨.inl (bEq_eq c8), (t2 h.1).1, (t2 h.1).2, h.2.1, h.2.2.1, by simpa using h.2.2.2⟩
   | false =>
   cases c9 : bEq op opSome with
   | true =>
    right
    simp [c4, c5, c6, c7, c8, c9, and_assoc] at h
    exact ⟨.inr (bEq_eq c9), (t2 h.1).1, (t2 h.1).2, h.2.1, h.2.2.1, by simpa using h.2.2.2⟩
   | false => simp [c4, c5, c6, c7, c8, c9] at h
end Go.Proofs.Ytjlkapgpjamnkaa
namespace Go.Proofs.Ytjlkapgpjamnkaa
open Go.AM
set_option maxHeartbeats 4000000
set_option maxRecDepth 20000
theorem textOf_okQ {x : Sx} (h : x.ok) : (textOf x).size ≤ bigN := by
 obtain ⟨_, _, _, _, t, _⟩ := x
 simp only [Sx.ok] at h
 exact h.2.2.1
theorem pms_in (n : Nat) (l : List Pm) : inNR n (pmRows l) := by
 induction l with
 | nil => simp only [pmRows, List.map_nil, inNR]
 | cons a l ih => simp only [pmRows, List.map_cons, inNR, pmRow, inNL, inN, and_true, true_and] at ih ⊢; exact ih
theorem exs_in (n : Nat) : ∀ l : List Ex, inNR n (Ex.rows l)
 | [] => by simp only [Ex.rows, inNR]
 | k :: ks => by simp only [Ex.rows, inNR]; exact ⟨ex_in n k, exs_in n ks⟩
theorem fm_in (n : Nat) : ∀ f : Fm, inNL n f.cells := by
 refine Fm.ind ?_
 intro op name args params exprs kids ih
 have : inNR n (Fm.rows kids) := by
  clear op name args params exprs
  induction kids with
  | nil => simp only [Fm.rows, inNR]
  | cons k ks ih2 =>
   simp only [Fm.rows, inNR]
   exact ⟨ih k (by simp), ih2 fun q hq => ih q (by simp [hq])⟩
 simp only [Fm.cells, inNL, inN, and_true, true_and]
 exact ⟨strs_in n args, pms_in n params, exs_in n exprs, this⟩
theorem fms_in (n : Nat) : ∀ l : List Fm, inNR n (Fm.rows l)
 | [] => by simp only [Fm.rows, inNR]
 | k :: ks => by simp only [Fm.rows, inNR]; exact ⟨fm_in n k, fms_in n ks⟩
theorem fm_frz (n : Nat) (h : Heap) (f : Fm) : FrzL n h f.cells f.cells := by
 have hi := fm_in n f
 obtain ⟨op, name, args, params, exprs, kids⟩ := f
 simp only [Fm.cells, inNL, inN, and_true, true_and] at hi
 simp only [Fm.cells, FrzL, FrzTo, and_true, true_and]
 exact ⟨.inl hi.1, .inl hi.2.1, .inl hi.2.2.1, .inl hi.2.2.2⟩
theorem fms_frz (n : Nat) (h : Heap) : ∀ l : List Fm, FrzR n h (Fm.rows l) (Fm.rows l)
 | [] => by simp only [Fm.rows, FrzR]
 | k :: ks => by simp only [Fm.rows, FrzR]; exact ⟨fm_frz n h k, fms_frz n h ks⟩
theorem tl_frzF {h : Heap} {id0 n : Nat} {p : PV} {l : List Fm} (hn : n ≤ id0) (t : Tl h id0 6 p (Fm.rows l)) : FrzTo n h (.imm 6 (Fm.rows l)) p := by
 simp only [FrzTo]
 rcases t with ⟨h1, h2⟩ | ⟨id, h1, h2, rfl, ho⟩
 ·exact .inr (.inl ⟨h1, h2.symm⟩)
 ·refine .inr (.inr ⟨id, 0, _, _, rfl, by omega, ho, by omega, ?_⟩)
  rw [List.drop_zero, List.take_of_length_le (by omega)]
  exact fms_frz _ _ _
theorem fmPs_nil : ∀ l : List Sx, ((fmPs l).2 == 0) = false → (fmPs l).1 = []
 | [], h => by simp [fmPs] at h
 | x :: l, h => by
  simp only [fmPs] at h ⊢
  cases hq : (fmP x).2 == 0 with
  | false => simp only [cond_false]
  | true =>
   rw [hq] at h
   simp only [cond_true] at h ⊢
   cases hr : (fmPs l).2 == 0 with
   | false => simp only [cond_false]
   | true => rw [hr] at h; simp at h
theorem kids_c {l : List Sx} (hl : l.length ≤ 1048576) (hf : ∀ x ∈ l, ∀ h : Heap, PCall Try.prog 73 [.agg x.cells] h fun r h' => r = .tup [.agg (fmP x).1.cells, errP (fmP x).2] ∧ h' = h) (h : Heap) :
  PCall Try.prog 116 [.imm 6 (Sx.rows l)] h fun r h' => r = .tup [.imm 6 (Fm.rows (fmPs l).1), errP (fmPs l).2] ∧ h' = h := by
 refine PCall.frz Ty.hb_116 ?_
 have hll := Sx.rows_len l
 refine pcall_body (ow := fun _ => false) (wf := fun _ => false) Ty.mixed Try.func116 rfl Ty.hb_116 (by rw [Try.ntmps116]; simp) ?_
 rw [Try.ntmps116, Try.results116]
 repeat' (first | refine a_seq fun K hK => ?_ | (refine a_block ?_) | (refine a_regionS ?_; simp only [Ty.w, simprocAttr, hll]) | (refine hK _ _ ?_; clear hK; try simp only [pst0, simprocAttr]))
 refine a_loop (fun m S h' => S 9 = .imm 6 (Sx.rows l) ∧ S 10 = .sc (.int .i64 l.length) ∧ ∃ (k : Nat) (o : PV) (pre : List Fm), S 11 = .sc (.int .i64 k) ∧ S 4 = o ∧ k ≤ l.length ∧ m = l.length - k ∧ Grow h h' ∧ pre.length = k ∧ Tl h' h.next 6 o (Fm.rows pre) ∧
  fmPs l = (bif (fmPs (l.drop k)).2 == 0 then (pre ++ (fmPs (l.drop k)).1, 0) else ([], (fmPs (l.drop k)).2))) l.length ?_ ?_
 ·simp only [Ty.w, simprocAttr]
  refine ⟨0, _, [], rfl, rfl, by omega, rfl, Grow.refl _, rfl, Tl.nil, ?_⟩
  rw [List.drop_zero]
  cases hq : (fmPs l).2 == 0
  ·simp only [cond_false]; rw [← fmPs_nil l hq]
  ·have h0 : (fmPs l).2 = 0 := by simpa using hq
   simp only [cond_true, List.nil_append]; rw [← h0]
 ·rintro m S h' ⟨g9, g10, k, o, pre, g11, g4, hk, rfl, hg, hpl, tl, hinv⟩
  by_cases hlt : k < l.length
  ·have hd : decide ((k : Int) < (l.length : Int)) = true := by simp; omega
   have w7 : IntKind.i64.wrap ((k : Int) + 1) = k + 1 := by rw [wrap64 (by omega) (by omega)]
   obtain ⟨x, hx⟩ : ∃ x, l[k]? = some x := ⟨_, List.getElem?_eq_getElem hlt⟩
   have hr := Sx.rows_get hx
   have hc := hf x (List.mem_of_getElem? hx)
   rw [drop_of_get hx] at hinv
   simp only [fmPs] at hinv
   generalize hE : fmP x = E at hc hinv
   obtain ⟨f, c⟩ := E
   simp only at hc hinv
   clear hE hf
   obtain ⟨ki, va, li, co, te, ks⟩ := x
   simp only [Sx.cells] at hr hc
   have n3 : (h'.next = h'.next + 1) = False := by simp
   cases hcc : c == 0 with
   | false =>
    rw [hcc] at hinv
    simp only [cond_false] at hinv
    have e0 : errP c = errV c := by simp only [errP, hcc, cond_false]
    rw [e0] at hc
    simp only [errV] at hc
    have hq : fmPs l = ([], c) := by rw [hinv]; simp only [hcc, cond_false]
    rw [hq]
    obtain ⟨fop, fna, far, fpa, fex, fki⟩ := f
    simp only [Fm.cells] at hc
    repeat' (first | refine a_seq fun K hK => ?_ | (refine a_regionS ?_; simp only [Ty.w, simprocAttr, g9, g10, g11, g4, hd, hr]) | (refine a_skip ?_; try simp only [pst0, simprocAttr]) | (refine a_cond _ (by (try simp only [Ty.w, simprocAttr, g9, g10, g11, g4, hd, hr]); rfl) (fun hb => ?_) (fun hb => ?_) <;> (try simp only [hb0, decide_eq_true_eq, decide_eq_false_iff_not, simprocAttr] at hb) <;> (try (exfalso; omega))) | (refine hK _ _ ?_; clear hK; try simp only [pst0, simprocAttr]))
    refine owp_useQ (hc _) (by (try simp only [Ty.w, simprocAttr, g9, g10, g11, g4, hd, hr]); try rfl) ?_; simp only [Ty.w, simprocAttr, g9, g10, g11, g4, hd, hr]
    repeat' (first | refine a_seq fun K hK => ?_ | ((first | refine a_regionS ?_ | refine a_ret ?_); simp only [Ty.w, simprocAttr, g9, g10, g11, g4, hd, hr, n3, nsucc]) | (refine hK _ _ ?_; clear hK; try simp only [pst0, simprocAttr]))
    rw [e0]
    refine ⟨?_, (((hg.new _).set hg.le _).new _).set (show h.next ≤ h'.next + 1 by have := hg.le; omega) _⟩
    simp only [errV, Fm.rows, FrzTo, FrzL]
    exact ⟨_, rfl, .inr (.inl ⟨rfl, .inr rfl⟩), rfl, trivial⟩
   | true =>
    have e0 : errP c = .sc .nilIface := by simp only [errP, hcc, cond_true]
    rw [e0] at hc
    have hto := tl_one tl
    have hrows : Fm.rows (pre ++ [f]) = Fm.rows pre ++ [f.cells] := by simp only [Fm.rows_map, List.map_append, List.map_cons, List.map_nil]
    obtain ⟨fop, fna, far, fpa, fex, fki⟩ := f
    simp only [Fm.cells] at hc hrows
    generalize hH2 : ((((h'.new (.arr 6 [[.sc (.int .i64 0), .sc (.int .i64 0), .sc (.int .i64 0), .sc (.int .i64 0), .sc (.string ⟨#[]⟩), .sc (.slice none 0 0)]])).set h'.next (.arr 6 [[.sc (.int .i64 ki), .sc (.int .i64 va), .sc (.int .i64 li), .sc (.int .i64 co), sPV te, .imm 6 (Sx.rows ks)]])).new (.arr 6 [[.sc (.string ⟨#[]⟩), .sc (.string ⟨#[]⟩), .sc (.slice none 0 0), .sc (.slice none 0 0), .sc (.slice none 0 0), .sc (.slice none 0 0)]])).set (h'.next + 1) (.arr 6 [[sPV fop, sPV fna, .imm 1 (strRows far), .imm 2 (pmRows fpa), .imm 5 (Ex.rows fex), .imm 6 (Fm.rows fki)]])) = H2
    have hnn : H2.next = h'.next + 1 + 1 := by rw [← hH2]; simp [Heap.new, Heap.set]
    have hold : ∀ j, j < h'.next → H2.obj j = h'.obj j := fun j hj => by
     have a1 : ¬ j = h'.next := by omega
     have a2 : ¬ j = h'.next + 1 := by omega
     rw [← hH2]
     simp only [Heap.new, Heap.set, a1, a2, if_false]
    have tl2 := tl.up (h' := H2) (by omega) (fun j _ hj => hold j hj)
    have hg2 : Grow h H2 := by rw [← hH2]; exact (((hg.new _).set hg.le _).new _).set (show h.next ≤ h'.next + 1 by have := hg.le; omega) _
    obtain ⟨H, t1, t2, t3, t4, t5⟩ := tl2.tail
    have hkp := t5 h ⟨hg2.le, hg2.old⟩ (Nat.le_refl _)
    have hgH : Grow h H := ⟨hkp.1, hkp.2⟩
    have hpr : (Fm.rows pre).length = k := by rw [Fm.rows_len]; exact hpl
    have hb : (k + 1) * 128 ≤ 140737488355328 := by omega
    have hob : H2.obj (h'.next + 1) = some (.arr 6 [[sPV fop, sPV fna, .imm 1 (strRows far), .imm 2 (pmRows fpa), .imm 5 (Ex.rows fex), .imm 6 (Fm.rows fki)]]) := by rw [← hH2]; simp [Heap.set]
    repeat' (first | refine a_seq fun K hK => ?_ | (refine a_regionS ?_; simp only [Ty.w, simprocAttr, g9, g10, g11, g4, hd, hr]) | (refine a_skip ?_; try simp only [pst0, simprocAttr]) | (refine a_cond _ (by (try simp only [Ty.w, simprocAttr, g9, g10, g11, g4, hd, hr]); rfl) (fun hb => ?_) (fun hb => ?_) <;> (try simp only [hb0, decide_eq_true_eq, decide_eq_false_iff_not, simprocAttr] at hb) <;> (try (exfalso; omega))) | (refine hK _ _ ?_; clear hK; try simp only [pst0, simprocAttr]))
    refine owp_useQ (hc _) (by (try simp only [Ty.w, simprocAttr, g9, g10, g11, g4, hd, hr]); try rfl) ?_; simp only [Ty.w, simprocAttr, g9, g10, g11, g4, hd, hr]
    repeat' (first | refine a_seq fun K hK => ?_ | ((first | refine a_regionS ?_ | refine a_region (fun K hK => ?_)); simp only [Ty.w, simprocAttr, g9, g10, g11, g4, n3, nsucc, hH2, hob, t1, t2, hpr, hb, w7]) | (refine a_skip ?_; try simp only [pst0, simprocAttr]) | (refine a_cond _ (by (try simp only [Ty.w, simprocAttr, g9, g10, g11, g4, n3, nsucc, hH2, hob, t1, t2, hpr, hb, w7]); rfl) (fun hb => ?_) (fun hb => ?_) <;> (try simp only [hb0, decide_eq_true_eq, decide_eq_false_iff_not, simprocAttr] at hb) <;> (try (exfalso; omega))) | (refine hK _ _ ?_; clear hK; try simp only [pst0, simprocAttr]) | (rw [if_pos]; rotate_left 1; omega; simp only [Ty.w, simprocAttr, g9, g10, g11, g4, n3, nsucc, hH2, hob, t1, t2, hpr, hb, w7]))
    rw [← hrows]
    have hgr := Tl.grow (H := H) (id0 := h.next) (z := 6) (len := k + 1) (rows := Fm.rows (pre ++ [Fm.mk fop fna far fpa fex fki])) hkp.1 (by rw [Fm.rows_len]; simp [hpl])
    refine ⟨l.length - (k + 1), by omega, k + 1, .own H.next 0 (k + 1), pre ++ [Fm.mk fop fna far fpa fex fki], by simp, by rw [t3, hnn], by omega, rfl, hgH.new _, by simp [hpl], hgr, ?_⟩
    rw [hinv, hcc]
    simp only [cond_true]
    cases hq : (fmPs (List.drop (k + 1) l)).2 == 0 with
    | false => simp only [hq, cond_false]
    | true => simp only [cond_true, beq_self_eq_true, List.append_assoc, List.cons_append, List.nil_append]
  ·have hd : decide ((k : Int) < (l.length : Int)) = false := by simp; omega
   rw [List.drop_eq_nil_of_le (by omega)] at hinv
   have hq : fmPs l = (pre, 0) := by rw [hinv]; simp [fmPs]
   repeat' (first | refine a_seq fun K hK => ?_ | ((first | refine a_regionS ?_ | refine a_ret ?_); simp only [Ty.w, simprocAttr, g9, g10, g11, g4, hd]) | (refine a_exit ?_; try simp only [pst0, simprocAttr]) | (refine a_cond _ (by (try simp only [Ty.w, simprocAttr, g9, g10, g11, g4, hd]); rfl) (fun hb => ?_) (fun hb => ?_) <;> (try simp only [hb0, decide_eq_true_eq, decide_eq_false_iff_not, simprocAttr] at hb) <;> (try (exfalso; omega))) | ((first | refine hK _ _ ?_ | (clear hK; refine hK _ _ ?_)); clear hK; try simp only [pst0, simprocAttr]))
   have e2 : errP 0 = .sc .nilIface := rfl
   rw [hq]
   simp only [e2]
   refine ⟨?_, hg⟩
   have h1 := tl_frzF (Nat.le_refl _) tl
   unfold FrzTo
   refine ⟨_, rfl, ?_⟩
   unfold FrzL
   refine ⟨h1, ?_⟩
   unfold FrzL
   exact ⟨by simp only [FrzTo], by simp only [FrzL]⟩
end Go.Proofs.Ytjlkapgpjamnkaa
namespace Go.Proofs.Ytjlkapgpjamnkaa
open Go.AM
set_option maxHeartbeats 4000000
set_option maxRecDepth 20000
theorem compare_c {w : ByteArray} {x y : Sx} (hx : x.ok) (hy : y.ok)
  (cx : ∀ h : Heap, PCall Try.prog 75 [.agg x.cells] h fun r h' => r = .tup [.agg (exprP x).1.cells, errP (exprP x).2] ∧ h' = h)
  (cy : ∀ h : Heap, PCall Try.prog 75 [.agg y.cells] h fun r h' => r = .tup [.agg (exprP y).1.cells, errP (exprP y).2] ∧ h' = h) (h : Heap) :
  PCall Try.prog 117 [sPV w, .agg x.cells, .agg y.cells] h fun r h' => r = .tup [.agg (compareP w x y).1.cells, errP (compareP w x y).2] ∧ h' = h := by
 refine PCall.frz Ty.hb_117 ?_
 have ht := fun h : Heap => terms_c (l := [x, y]) (by simp) (by simp [hx, hy]) h
 generalize hF : compareP w x y = F
 unfold compareP at hF
 have hti := strs_in
 generalize termsM [x, y] = T at ht hF
 obtain ⟨t, c⟩ := T
 have hi1 := ex_in
 generalize exprP x = X at cx hF
 obtain ⟨ex, c1⟩ := X
 generalize exprP y = Y at cy hF
 obtain ⟨ey, c2⟩ := Y
 obtain ⟨kx, vx, lx, ox, tx, sx⟩ := x
 obtain ⟨ky, vy, ly, oy, ty, sy⟩ := y
 obtain ⟨aop, ana, an, aar, aki⟩ := ex
 obtain ⟨bop, bna, bn, bar, bki⟩ := ey
 simp only [kindOf] at hF
 simp only [Sx.rows, Sx.cells, Ex.cells] at ht cx cy ⊢
 have hgr : ∀ r, Grow h ((h.new (.arr 6 [[.sc (.string ⟨#[]⟩), .sc (.string ⟨#[]⟩), .sc (.slice none 0 0), .sc (.slice none 0 0), .sc (.slice none 0 0), .sc (.slice none 0 0)]])).set h.next r) := fun r => ((Grow.refl h).new _).set (Nat.le_refl _) _
 refine pcall_body (ow := fun _ => false) (wf := fun _ => false) Ty.mixed Try.func117 rfl Ty.hb_117 (by rw [Try.ntmps117]; simp) ?_
 rw [Try.ntmps117, Try.results117]
 repeat' (first | (with_reducible refine a_hold 1 ?_) | refine a_seq fun K hK => ?_ | (refine a_regionS ?_; simp only [Ty.w, simprocAttr]) | (refine hK _ _ ?_; clear hK; try simp only [pst0, simprocAttr]))
 refine ⟨?_⟩
 refine a_cut (fun S h' => S 0 = sPV w ∧ S 4 = .cptr (Sx.mk kx vx lx ox tx sx).cells ∧ S 5 = .cptr (Sx.mk ky vy ly oy ty sy).cells ∧ S 6 = .ptr h.next 0 0 ∧ h' = h.new (.arr 6 [[.sc (.string ⟨#[]⟩), .sc (.string ⟨#[]⟩), .sc (.slice none 0 0), .sc (.slice none 0 0), .sc (.slice none 0 0), .sc (.slice none 0 0)]]) ∧ (bEq w opEq && kx == 1 && ky == 1) = false) ?_ ?_
 ·clear cx cy
  simp only [Sx.cells]
  cases q1 : (w.data.toList == (#[61] : Array UInt8).toList) with
  | false =>
   have q1' : bEq w opEq = false := q1
   repeat' (first | refine a_seq fun K hK => ?_ | (refine a_regionS ?_; simp only [Ty.w, simprocAttr, q1]) | (refine a_skip ?_; try simp only [pst0, simprocAttr]) | (refine a_cond _ (by (try simp only [Ty.w, simprocAttr, q1]); rfl) (fun hb => ?_) (fun hb => ?_) <;> (try simp only [hb0, decide_eq_true_eq, decide_eq_false_iff_not, simprocAttr] at hb) <;> (try (exfalso; omega))) | (refine hK _ _ ?_; clear hK; try simp only [pst0, simprocAttr]))
   all_goals first | rfl | (simp only [Ty.w, simprocAttr, q1', Bool.false_and]; done)
  | true =>
   have q1' : bEq w opEq = true := q1
   cases q2 : (kx == 1) with
   | false =>
    repeat' (first | refine a_seq fun K hK => ?_ | (refine a_regionS ?_; simp only [Ty.w, simprocAttr, q1, q2]) | (refine a_skip ?_; try simp only [pst0, simprocAttr]) | (refine a_cond _ (by (try simp only [Ty.w, simprocAttr, q1, q2]); rfl) (fun hb => ?_) (fun hb => ?_) <;> (try simp only [hb0, decide_eq_true_eq, decide_eq_false_iff_not, simprocAttr] at hb) <;> (try (exfalso; omega))) | (refine hK _ _ ?_; clear hK; try simp only [pst0, simprocAttr]))
    all_goals first | rfl | (simp only [Ty.w, simprocAttr, q1', q2, Bool.false_and, Bool.true_and]; done)
   | true =>
    cases q3 : (ky == 1) with
    | false =>
     repeat' (first | refine a_seq fun K hK => ?_ | (refine a_regionS ?_; simp only [Ty.w, simprocAttr, q1, q2, q3]) | (refine a_skip ?_; try simp only [pst0, simprocAttr]) | (refine a_cond _ (by (try simp only [Ty.w, simprocAttr, q1, q2, q3]); rfl) (fun hb => ?_) (fun hb => ?_) <;> (try simp only [hb0, decide_eq_true_eq, decide_eq_false_iff_not, simprocAttr] at hb) <;> (try (exfalso; omega))) | (refine hK _ _ ?_; clear hK; try simp only [pst0, simprocAttr]))
     all_goals first | rfl | (simp only [Ty.w, simprocAttr, q1', q2, q3, Bool.true_and]; done)
    | true =>
     rw [q1', q2, q3] at hF
     simp only [Bool.and_true, cond_true] at hF
     subst hF
     cases hc : c == 0 with
     | true =>
      have e0 : errP c = .sc .nilIface := by simp only [errP, hc, cond_true]
      rw [e0] at ht ⊢
      repeat' (first | refine a_seq fun K hK => ?_ | (refine a_regionS ?_; simp only [Ty.w, simprocAttr, q1, q2, q3]) | (refine hK _ _ ?_; clear hK; try simp only [pst0, simprocAttr]))
      refine owp_useQ (ht _) (by (try simp only [Ty.w, simprocAttr, q1, q2, q3]); try rfl) ?_; simp only [Ty.w, simprocAttr, q1, q2, q3]
      repeat' (first | refine a_seq fun K hK => ?_ | ((first | refine a_regionS ?_ | refine a_ret ?_); simp only [Ty.w, simprocAttr]) | (refine hK _ _ ?_; clear hK; try simp only [pst0, simprocAttr]))
      refine ⟨?_, hgr _⟩
      simp only [opSame, Fm.cells, Ex.rows, Fm.rows, pmRows, List.map_nil, FrzTo, FrzL]
      exact ⟨_, rfl, ⟨_, rfl, rfl, rfl, .inl ⟨rfl, hti _ _⟩, .inr (.inl ⟨rfl, .inr rfl⟩), .inr (.inl ⟨rfl, .inr rfl⟩), .inr (.inl ⟨rfl, .inr rfl⟩), trivial⟩, rfl, trivial⟩
     | false =>
      have e0 : errP c = errV c := by simp only [errP, hc, cond_false]
      rw [e0] at ht ⊢
      simp only [errV] at ht ⊢
      repeat' (first | refine a_seq fun K hK => ?_ | (refine a_regionS ?_; simp only [Ty.w, simprocAttr, q1, q2, q3]) | (refine hK _ _ ?_; clear hK; try simp only [pst0, simprocAttr]))
      refine owp_useQ (ht _) (by (try simp only [Ty.w, simprocAttr, q1, q2, q3]); try rfl) ?_; simp only [Ty.w, simprocAttr, q1, q2, q3]
      repeat' (first | refine a_seq fun K hK => ?_ | ((first | refine a_regionS ?_ | refine a_ret ?_); simp only [Ty.w, simprocAttr]) | (refine hK _ _ ?_; clear hK; try simp only [pst0, simprocAttr]))
      refine ⟨?_, hgr _⟩
      simp only [opSame, Fm.cells, Ex.rows, Fm.rows, pmRows, List.map_nil, FrzTo, FrzL]
      exact ⟨_, rfl, ⟨_, rfl, rfl, rfl, .inl ⟨rfl, hti _ _⟩, .inr (.inl ⟨rfl, .inr rfl⟩), .inr (.inl ⟨rfl, .inr rfl⟩), .inr (.inl ⟨rfl, .inr rfl⟩), trivial⟩, rfl, trivial⟩
 ·rintro S h' ⟨g0, g4, g5, g6, rfl, hq⟩
  rw [hq] at hF
  clear ht hq
  simp only [cond_false] at hF
  simp only [Sx.cells] at g4 g5
  have n1 : (h.next = h.next + 1) = False := by simp
  have n2 : (h.next = h.next + 1 + 1) = False := by simp; omega
  have n3 : (h.next + 1 = h.next + 1 + 1) = False := by simp
  have hgr2 : ∀ o1 o2 r, Grow h ((((h.new (.arr 6 [[.sc (.string ⟨#[]⟩), .sc (.string ⟨#[]⟩), .sc (.slice none 0 0), .sc (.slice none 0 0), .sc (.slice none 0 0), .sc (.slice none 0 0)]])).new o1).set (h.next + 1) o2).set h.next r) := fun o1 o2 r => ((((Grow.refl h).new _).new _).set (Nat.le_succ _) _).set (Nat.le_refl _) _
  have hgr3 : ∀ o1 o2 o3 o4 r, Grow h ((((((h.new (.arr 6 [[.sc (.string ⟨#[]⟩), .sc (.string ⟨#[]⟩), .sc (.slice none 0 0), .sc (.slice none 0 0), .sc (.slice none 0 0), .sc (.slice none 0 0)]])).new o1).set (h.next + 1) o2).new o3).set (h.next + 1 + 1) o4).set h.next r) := fun o1 o2 o3 o4 r => ((((((Grow.refl h).new _).new _).set (Nat.le_succ _) _).new _).set (by omega) _).set (Nat.le_refl _) _
  cases hc1 : c1 == 0 with
  | false =>
   rw [hc1] at hF
   simp only [cond_false] at hF
   subst hF
   have e0 : errP c1 = errV c1 := by simp only [errP, hc1, cond_false]
   rw [e0] at cx ⊢
   simp only [errV] at cx ⊢
   repeat' (first | refine a_seq fun K hK => ?_ | (refine a_regionS ?_; simp only [Ty.w, simprocAttr, g0, g4, g5, g6]))
   refine owp_useQ (cx _) (by (try simp only [Ty.w, simprocAttr, g0, g4, g5, g6]); try rfl) ?_; simp only [Ty.w, simprocAttr, g0, g4, g5, g6]
   repeat' (first | refine a_seq fun K hK => ?_ | ((first | refine a_regionS ?_ | refine a_ret ?_); simp only [Ty.w, simprocAttr, g0, g4, g5, g6, n1, nsucc]) | (refine hK _ _ ?_; clear hK; try simp only [pst0, simprocAttr]))
   refine ⟨?_, hgr2 _ _ _⟩
   simp only [zeroFm, Fm.cells, Ex.rows, Fm.rows, pmRows, strRows, List.map_nil, FrzTo, FrzL]
   exact ⟨_, rfl, ⟨_, rfl, rfl, rfl, .inr (.inl ⟨rfl, .inr rfl⟩), .inr (.inl ⟨rfl, .inr rfl⟩), .inr (.inl ⟨rfl, .inr rfl⟩), .inr (.inl ⟨rfl, .inr rfl⟩), trivial⟩, rfl, trivial⟩
  | true =>
   rw [hc1] at hF
   simp only [cond_true] at hF
   have e0 : errP c1 = .sc .nilIface := by simp only [errP, hc1, cond_true]
   rw [e0] at cx
   cases hc2 : c2 == 0 with
   | false =>
    rw [hc2] at hF
    simp only [cond_false] at hF
    subst hF
    have e1 : errP c2 = errV c2 := by simp only [errP, hc2, cond_false]
    rw [e1] at cy ⊢
    simp only [errV] at cy ⊢
    have W := And.intro g0 (And.intro g4 (And.intro g5 (And.intro g6 n1)))
    repeat' (first | refine a_seq fun K hK => ?_ | (refine a_regionS ?_; simp only [Ty.w, simprocAttr, W]))
    refine owp_useQ (cx _) (by (try simp only [Ty.w, simprocAttr, W]); try rfl) ?_; simp only [Ty.w, simprocAttr, W]
    repeat' (first | refine a_seq fun K hK => ?_ | (refine a_regionS ?_; simp only [Ty.w, simprocAttr, W, nsucc]) | (refine a_skip ?_; try simp only [pst0, simprocAttr]) | (refine a_cond _ (by (try simp only [Ty.w, simprocAttr, W, nsucc]); rfl) (fun hb => ?_) (fun hb => ?_) <;> (try simp only [hb0, decide_eq_true_eq, decide_eq_false_iff_not, simprocAttr] at hb) <;> (try (exfalso; omega))) | (refine hK _ _ ?_; clear hK; try simp only [pst0, simprocAttr]))
    refine owp_useQ (cy _) (by (try simp only [Ty.w, simprocAttr, W]); try rfl) ?_; simp only [Ty.w, simprocAttr, W]
    repeat' (first | refine a_seq fun K hK => ?_ | ((first | refine a_regionS ?_ | refine a_ret ?_); simp only [Ty.w, simprocAttr, W, n2, n3, nsucc]) | (refine hK _ _ ?_; clear hK; try simp only [pst0, simprocAttr]))
    refine ⟨?_, hgr3 _ _ _ _ _⟩
    simp only [zeroFm, Fm.cells, Ex.rows, Fm.rows, pmRows, strRows, List.map_nil, FrzTo, FrzL]
    exact ⟨_, rfl, ⟨_, rfl, rfl, rfl, .inr (.inl ⟨rfl, .inr rfl⟩), .inr (.inl ⟨rfl, .inr rfl⟩), .inr (.inl ⟨rfl, .inr rfl⟩), .inr (.inl ⟨rfl, .inr rfl⟩), trivial⟩, rfl, trivial⟩
   | true =>
    rw [hc2] at hF
    simp only [cond_true] at hF
    have e1 : errP c2 = .sc .nilIface := by simp only [errP, hc2, cond_true]
    rw [e1] at cy
    have e2 : errP 0 = .sc .nilIface := rfl
    cases p1 : (w.data.toList == (#[62] : Array UInt8).toList) with
    | true =>
     rw [if_pos (show bEq w opGt = true from p1)] at hF
     subst hF
     have W := And.intro g0 (And.intro g4 (And.intro g5 (And.intro g6 n1)))
     repeat' (first | refine a_seq fun K hK => ?_ | (refine a_regionS ?_; simp only [Ty.w, simprocAttr, W]))
     refine owp_useQ (cx _) (by (try simp only [Ty.w, simprocAttr, W]); try rfl) ?_; simp only [Ty.w, simprocAttr, W]
     repeat' (first | refine a_seq fun K hK => ?_ | (refine a_regionS ?_; simp only [Ty.w, simprocAttr, W, nsucc]) | (refine a_skip ?_; try simp only [pst0, simprocAttr]) | (refine a_cond _ (by (try simp only [Ty.w, simprocAttr, W, nsucc]); rfl) (fun hb => ?_) (fun hb => ?_) <;> (try simp only [hb0, decide_eq_true_eq, decide_eq_false_iff_not, simprocAttr] at hb) <;> (try (exfalso; omega))) | (refine hK _ _ ?_; clear hK; try simp only [pst0, simprocAttr]))
     refine owp_useQ (cy _) (by (try simp only [Ty.w, simprocAttr, W]); try rfl) ?_; simp only [Ty.w, simprocAttr, W]
     repeat' (first | refine a_seq fun K hK => ?_ | ((first | refine a_regionS ?_ | refine a_ret ?_); simp only [Ty.w, simprocAttr, W, n2, n3, nsucc, p1]) | (refine a_skip ?_; try simp only [pst0, simprocAttr]) | (refine a_cond _ (by (try simp only [Ty.w, simprocAttr, W, n2, n3, nsucc, p1]); rfl) (fun hb => ?_) (fun hb => ?_) <;> (try simp only [hb0, decide_eq_true_eq, decide_eq_false_iff_not, simprocAttr] at hb) <;> (try (exfalso; omega))) | (refine hK _ _ ?_; clear hK; try simp only [pst0, simprocAttr]))
     refine ⟨?_, hgr3 _ _ _ _ _⟩
     simp only [e2, opLt, Fm.cells, Ex.cells, Ex.rows, Fm.rows, pmRows, strRows, List.map_nil, FrzTo, FrzL]
     exact ⟨_, rfl, ⟨_, rfl, rfl, rfl, .inr (.inl ⟨rfl, .inr rfl⟩), .inr (.inl ⟨rfl, .inr rfl⟩), .inl ⟨rfl, exs_in _ [.mk bop bna bn bar bki, .mk aop ana an aar aki]⟩, .inr (.inl ⟨rfl, .inr rfl⟩), trivial⟩, rfl, trivial⟩
    | false =>
     rw [if_neg (show ¬ bEq w opGt = true by rw [show bEq w opGt = false from p1]; simp)] at hF
     cases p2 : (w.data.toList == (#[62, 61] : Array UInt8).toList) with
     | true =>
      rw [if_pos (show bEq w opGe = true from p2)] at hF
      subst hF
      have W := And.intro g0 (And.intro g4 (And.intro g5 (And.intro g6 n1)))
      repeat' (first | refine a_seq fun K hK => ?_ | (refine a_regionS ?_; simp only [Ty.w, simprocAttr, W]))
      refine owp_useQ (cx _) (by (try simp only [Ty.w, simprocAttr, W]); try rfl) ?_; simp only [Ty.w, simprocAttr, W]
      repeat' (first | refine a_seq fun K hK => ?_ | (refine a_regionS ?_; simp only [Ty.w, simprocAttr, W, nsucc]) | (refine a_skip ?_; try simp only [pst0, simprocAttr]) | (refine a_cond _ (by (try simp only [Ty.w, simprocAttr, W, nsucc]); rfl) (fun hb => ?_) (fun hb => ?_) <;> (try simp only [hb0, decide_eq_true_eq, decide_eq_false_iff_not, simprocAttr] at hb) <;> (try (exfalso; omega))) | (refine hK _ _ ?_; clear hK; try simp only [pst0, simprocAttr]))
      refine owp_useQ (cy _) (by (try simp only [Ty.w, simprocAttr, W]); try rfl) ?_; simp only [Ty.w, simprocAttr, W]
      repeat' (first | refine a_seq fun K hK => ?_ | ((first | refine a_regionS ?_ | refine a_ret ?_); simp only [Ty.w, simprocAttr, W, n2, n3, nsucc, p1, p2]) | (refine a_skip ?_; try simp only [pst0, simprocAttr]) | (refine a_cond _ (by (try simp only [Ty.w, simprocAttr, W, n2, n3, nsucc, p1, p2]); rfl) (fun hb => ?_) (fun hb => ?_) <;> (try simp only [hb0, decide_eq_true_eq, decide_eq_false_iff_not, simprocAttr] at hb) <;> (try (exfalso; omega))) | (refine hK _ _ ?_; clear hK; try simp only [pst0, simprocAttr]))
      refine ⟨?_, hgr3 _ _ _ _ _⟩
      simp only [e2, opLe, Fm.cells, Ex.cells, Ex.rows, Fm.rows, pmRows, strRows, List.map_nil, FrzTo, FrzL]
      exact ⟨_, rfl, ⟨_, rfl, rfl, rfl, .inr (.inl ⟨rfl, .inr rfl⟩), .inr (.inl ⟨rfl, .inr rfl⟩), .inl ⟨rfl, exs_in _ [.mk bop bna bn bar bki, .mk aop ana an aar aki]⟩, .inr (.inl ⟨rfl, .inr rfl⟩), trivial⟩, rfl, trivial⟩
     | false =>
      rw [if_neg (show ¬ bEq w opGe = true by rw [show bEq w opGe = false from p2]; simp)] at hF
      subst hF
      have W := And.intro g0 (And.intro g4 (And.intro g5 (And.intro g6 n1)))
      repeat' (first | refine a_seq fun K hK => ?_ | (refine a_regionS ?_; simp only [Ty.w, simprocAttr, W]))
      refine owp_useQ (cx _) (by (try simp only [Ty.w, simprocAttr, W]); try rfl) ?_; simp only [Ty.w, simprocAttr, W]
      repeat' (first | refine a_seq fun K hK => ?_ | (refine a_regionS ?_; simp only [Ty.w, simprocAttr, W, nsucc]) | (refine a_skip ?_; try simp only [pst0, simprocAttr]) | (refine a_cond _ (by (try simp only [Ty.w, simprocAttr, W, nsucc]); rfl) (fun hb => ?_) (fun hb => ?_) <;> (try simp only [hb0, decide_eq_true_eq, decide_eq_false_iff_not, simprocAttr] at hb) <;> (try (exfalso; omega))) | (refine hK _ _ ?_; clear hK; try simp only [pst0, simprocAttr]))
      refine owp_useQ (cy _) (by (try simp only [Ty.w, simprocAttr, W]); try rfl) ?_; simp only [Ty.w, simprocAttr, W]
      repeat' (first | refine a_seq fun K hK => ?_ | (refine a_block ?_) | ((first | refine a_regionS ?_ | refine a_ret ?_); simp only [Ty.w, simprocAttr, W, n2, n3, nsucc, p1, p2]) | (refine a_skip ?_; try simp only [pst0, simprocAttr]) | (refine a_cond _ (by (try simp only [Ty.w, simprocAttr, W, n2, n3, nsucc, p1, p2]); rfl) (fun hb => ?_) (fun hb => ?_) <;> (try simp only [hb0, decide_eq_true_eq, decide_eq_false_iff_not, simprocAttr] at hb) <;> (try (exfalso; omega))) | (refine hK _ _ ?_; clear hK; try simp only [pst0, simprocAttr]))
      refine ⟨?_, hgr3 _ _ _ _ _⟩
      simp only [e2, Fm.cells, Ex.cells, Ex.rows, Fm.rows, pmRows, strRows, List.map_nil, FrzTo, FrzL]
      exact ⟨_, rfl, ⟨_, rfl, rfl, rfl, .inr (.inl ⟨rfl, .inr rfl⟩), .inr (.inl ⟨rfl, .inr rfl⟩), .inl ⟨rfl, exs_in _ [.mk aop ana an aar aki, .mk bop bna bn bar bki]⟩, .inr (.inl ⟨rfl, .inr rfl⟩), trivial⟩, rfl, trivial⟩
end Go.Proofs.Ytjlkapgpjamnkaa
namespace Go.Proofs.Ytjlkapgpjamnkaa
open Go.AM
set_option maxHeartbeats 4000000
set_option maxRecDepth 20000
theorem pms_step {don : List Pm} {pen : List ByteArray} {t s : ByteArray} {j : Nat} (hj : pen[j]? = some s) :
  (pmRows (don ++ pmsOf t (pen.take j) ++ pmsOf opObj (pen.drop j)))[don.length + j]? = some [sPV s, sPV opObj] ∧
  (pmRows (don ++ pmsOf t (pen.take j) ++ pmsOf opObj (pen.drop j))).set (don.length + j) [sPV s, sPV t] = pmRows (don ++ pmsOf t (pen.take (j + 1)) ++ pmsOf opObj (pen.drop (j + 1))) := by
 have hjl : j < pen.length := (List.getElem?_eq_some_iff.1 hj).1
 have hA : (pmRows (don ++ pmsOf t (pen.take j))).length = don.length + j := by simp [pmRows, pmsOf]; omega
 have e1 : pmRows (don ++ pmsOf t (pen.take j) ++ pmsOf opObj (pen.drop j)) = pmRows (don ++ pmsOf t (pen.take j)) ++ ([sPV s, sPV opObj] :: pmRows (pmsOf opObj (pen.drop (j + 1)))) := by
  rw [drop_of_get hj]; simp [pmRows, pmsOf, pmRow]
 have e2 : pmRows (don ++ pmsOf t (pen.take (j + 1)) ++ pmsOf opObj (pen.drop (j + 1))) = pmRows (don ++ pmsOf t (pen.take j)) ++ ([sPV s, sPV t] :: pmRows (pmsOf opObj (pen.drop (j + 1)))) := by
  rw [List.take_add_one, hj]; simp [pmRows, pmsOf, pmRow]
 rw [e1, e2]
 constructor
 ·rw [List.getElem?_append_right (by omega), hA]; simp
 ·rw [List.set_append_right _ _ (by omega), hA]; simp
theorem paramsL_cons (vars : Bool) (x : Sx) (l : List Sx) (don : List Pm) (pen : List ByteArray) : paramsL vars (x :: l) don pen = (bif isWrd x then
   (bif bEq (textOf x) opMin then (match l with
    | [] => ([], 2)
    | t :: l' => bif !pen.isEmpty && isWrd t then (bif typedB (textOf t) then paramsL vars l' (don ++ pmsOf (textOf t) pen) [] else ([], 8)) else ([], 2))
   else bif (bif vars then varB (textOf x) else nameB (textOf x)) then paramsL vars l don (pen ++ [textOf x]) else ([], 8))
  else ([], 2)) := by
 cases l <;> (conv => lhs; unfold paramsL)
theorem a_gen {P : Program} {ow : Nat → Bool} {wf : FuncId → Bool} {n : Nat} {Q : Post} {s : Slots} {h : Heap} {c : Code} (I : Slots → Heap → Prop) (hi : I s h) (hh : ∀ s h, I s h → awp P ow wf n c Q s h) : awp P ow wf n c Q s h := hh _ _ hi
theorem pms_scal (l : List Pm) : ∀ r ∈ pmRows l, ∀ p ∈ r, ∃ v, p = PV.sc v := by
 intro r hr p hp
 simp only [pmRows, List.mem_map] at hr
 obtain ⟨x, _, rfl⟩ := hr
 simp only [pmRow, List.mem_cons, List.not_mem_nil, or_false] at hp
 rcases hp with rfl | rfl
 ·exact ⟨_, rfl⟩
 ·exact ⟨_, rfl⟩
theorem pms_frzP {h : Heap} {id0 : Nat} {p : PV} {l : List Pm} (t : Tl h id0 2 p (pmRows l)) : FrzTo id0 h (.imm 2 (pmRows l)) p := t.frz (pms_scal l)
theorem parseParams_c {vars : Bool} {l : List Sx} (hl : l.length ≤ 1048576) (hok : ∀ x ∈ l, x.ok) (h : Heap) :
  PCall Try.prog 115 [.imm 6 (Sx.rows l), .sc (.bool vars)] h fun r h' => r = .tup [.imm 2 (pmRows (paramsP vars l).1), errP (paramsP vars l).2] ∧ h' = h := by
 refine PCall.frz Ty.hb_115 ?_
 have hll := Sx.rows_len l
 generalize hF : paramsP vars l = F
 have bad : ∀ (c : Int) (h' : Heap), c = 2 ∨ c = 8 → Grow h h' → F = ([], c) → FrzTo h.next h' (.tup [.imm 2 (pmRows F.1), errP F.2]) (.tup [.sc (.slice none 0 0), errV c]) ∧ Grow h h' := by
  intro c h' hc hg hf
  subst hf
  have : errP c = errV c := by rcases hc with rfl | rfl <;> rfl
  simp only [this]
  refine ⟨?_, hg⟩
  simp only [errV, pmRows, List.map_nil, FrzTo, FrzL]
  exact ⟨_, rfl, .inr (.inl ⟨rfl, .inr rfl⟩), rfl, trivial⟩
 simp only [errV] at bad
 refine pcall_body (ow := fun _ => false) (wf := fun _ => false) Ty.mixed Try.func115 rfl Ty.hb_115 (by rw [Try.ntmps115]; simp) ?_
 rw [Try.ntmps115, Try.results115]
 repeat' (first | refine a_seq fun K hK => ?_ | (refine a_block ?_) | (refine a_regionS ?_; simp only [Ty.w, simprocAttr]) | (refine hK _ _ ?_; clear hK; try simp only [pst0, simprocAttr]))
 refine a_loop (fun m S h' => S 0 = .imm 6 (Sx.rows l) ∧ S 1 = .sc (.bool vars) ∧ ∃ (k : Nat) (o : PV) (don : List Pm) (pen : List ByteArray), S 8 = .sc (.int .i64 k) ∧ S 6 = o ∧ S 7 = .sc (.int .i64 don.length) ∧ k ≤ l.length ∧ m = l.length - k ∧ don.length + pen.length ≤ k ∧ Grow h h' ∧ Tl h' h.next 2 o (pmRows (don ++ pmsOf opObj pen)) ∧ F = paramsL vars (l.drop k) don pen) l.length ?_ ?_
 ·simp only [Ty.w, simprocAttr]
  exact ⟨0, _, [], [], rfl, rfl, rfl, by omega, rfl, by simp, Grow.refl _, Tl.nil, by rw [← hF]; try rfl⟩
 ·rintro m S h' ⟨g0, g1, k, o, don, pen, g8, g6, g7, hk, rfl, hdp, hg, tl, hinv⟩
  clear hF
  by_cases hlt : k < l.length
  ·have hd : decide ((k : Int) < (l.length : Int)) = true := by simp; omega
   have w7 : IntKind.i64.wrap ((k : Int) + 1) = k + 1 := by rw [wrap64 (by omega) (by omega)]
   obtain ⟨x, hx⟩ : ∃ x, l[k]? = some x := ⟨_, List.getElem?_eq_getElem hlt⟩
   have hr := Sx.rows_get hx
   have hxk := hok x (List.mem_of_getElem? hx)
   have hv := fun h : Heap => svalid_c hxk h
   have hte := textOf_okQ hxk
   rw [drop_of_get hx] at hinv
   simp only [paramsL_cons, isWrd] at hinv
   generalize svalid x 0 0 = V at hv hinv
   obtain ⟨vb, vn⟩ := V
   obtain ⟨ki, va, li, co, te, ks⟩ := x
   simp only [kindOf, textOf] at hinv hte
   simp only [Sx.cells] at hr hv
   have hte' : te.size ≤ 9223372036854775807 := by unfold bigN at hte; omega
   cases q1 : (ki != 1) with
   | true =>
    rw [show (ki == 1) = false by simpa using q1] at hinv
    simp only [Bool.false_and, cond_false] at hinv
    repeat' (first | refine a_seq fun K hK => ?_ | ((first | refine a_regionS ?_ | refine a_ret ?_); simp only [Ty.w, simprocAttr, g0, g1, g6, g7, g8, hll, hd, hr, q1]) | (refine a_skip ?_; try simp only [pst0, simprocAttr]) | (refine a_cond _ (by (try simp only [Ty.w, simprocAttr, g0, g1, g6, g7, g8, hll, hd, hr, q1]); rfl) (fun hb => ?_) (fun hb => ?_) <;> (try simp only [hb0, decide_eq_true_eq, decide_eq_false_iff_not, simprocAttr] at hb) <;> (try (exfalso; omega))) | (refine hK _ _ ?_; clear hK; try simp only [pst0, simprocAttr]))
    exact bad 2 _ (.inl rfl) hg hinv
   | false =>
    rw [show (ki == 1) = true by simpa using q1] at hinv
    cases vb with
    | false =>
     simp only [Bool.and_false, cond_false] at hinv
     repeat' (first | refine a_seq fun K hK => ?_ | (refine a_regionS ?_; simp only [Ty.w, simprocAttr, g0, g1, g6, g7, g8, hll, hd, hr, q1]) | (refine a_skip ?_; try simp only [pst0, simprocAttr]) | (refine a_cond _ (by (try simp only [Ty.w, simprocAttr, g0, g1, g6, g7, g8, hll, hd, hr, q1]); rfl) (fun hb => ?_) (fun hb => ?_) <;> (try simp only [hb0, decide_eq_true_eq, decide_eq_false_iff_not, simprocAttr] at hb) <;> (try (exfalso; omega))) | (refine hK _ _ ?_; clear hK; try simp only [pst0, simprocAttr]))
     refine owp_useQ (hv _) (by (try simp only [Ty.w, simprocAttr, g0, g1, g6, g7, g8, hll, hd, hr, q1, Bool.not_false]); try rfl) ?_; simp only [Ty.w, simprocAttr, g0, g1, g6, g7, g8, hll, hd, hr, q1, Bool.not_false]
     repeat' (first | refine a_seq fun K hK => ?_ | ((first | refine a_regionS ?_ | refine a_ret ?_); simp only [Ty.w, simprocAttr, g0, g1, g6, g7, g8, Bool.not_false]) | (refine hK _ _ ?_; clear hK; try simp only [pst0, simprocAttr]))
     exact bad 2 _ (.inl rfl) hg hinv
    | true =>
     simp only [Bool.and_self, cond_true] at hinv
     have W := And.intro g0 (And.intro g1 (And.intro g6 (And.intro g7 (And.intro g8 (And.intro hll (And.intro hd (And.intro hr q1)))))))
     repeat' (first | (with_reducible refine a_hold 9 ?_) | refine a_seq fun K hK => ?_ | (refine a_regionS ?_; simp only [Ty.w, simprocAttr, W]) | (refine a_skip ?_; try simp only [pst0, simprocAttr]) | (refine a_cond _ (by (try simp only [Ty.w, simprocAttr, W]); rfl) (fun hb => ?_) (fun hb => ?_) <;> (try simp only [hb0, decide_eq_true_eq, decide_eq_false_iff_not, simprocAttr] at hb) <;> (try (exfalso; omega))) | (refine hK _ _ ?_; clear hK; try simp only [pst0, simprocAttr]))
     refine owp_useQ (hv _) (by (try simp only [Ty.w, simprocAttr, W, Bool.not_true]); try rfl) ?_; simp only [Ty.w, simprocAttr, W, Bool.not_true]
     repeat' (first | (with_reducible refine a_hold 9 ?_) | refine a_seq fun K hK => ?_ | (refine a_regionS ?_; simp only [Ty.w, simprocAttr, W, Bool.not_true]) | (refine a_skip ?_; try simp only [pst0, simprocAttr]) | (refine a_cond _ (by (try simp only [Ty.w, simprocAttr, W, Bool.not_true]); rfl) (fun hb => ?_) (fun hb => ?_) <;> (try simp only [hb0, decide_eq_true_eq, decide_eq_false_iff_not, simprocAttr] at hb) <;> (try (exfalso; omega))) | (refine hK _ _ ?_; clear hK; try simp only [pst0, simprocAttr]))
     refine ⟨?_⟩
     refine a_gen (fun S h2 => S 0 = .imm 6 (Sx.rows l) ∧ S 1 = .sc (.bool vars) ∧ S 6 = o ∧ S 7 = .sc (.int .i64 don.length) ∧ S 8 = .sc (.int .i64 k) ∧ S 9 = sPV te ∧ h2 = h') ?_ ?_
     ·simp only [Ty.w, simprocAttr, g0, g1, g6, g7, g8]
     clear g0 g1 g6 g7 g8 hv hr q1
     rintro S h' ⟨g0, g1, g6, g7, g8, g9, rfl⟩
     have hrl : (pmRows (don ++ pmsOf opObj pen)).length = don.length + pen.length := by rw [pmRows_len]; simp [pmsOf]
     obtain ⟨n, hn⟩ : ∃ n, n = don.length + pen.length := ⟨_, rfl⟩
     rw [← hn] at hrl
     cases q2 : (te.data.toList == (#[45] : Array UInt8).toList) with
     | false =>
      rw [show bEq te opMin = false from q2] at hinv
      simp only [cond_false] at hinv
      have hap : pmRows (don ++ pmsOf opObj pen) ++ [[.sc (.string te), .sc (.string ⟨#[111, 98, 106, 101, 99, 116]⟩)]] = pmRows (don ++ pmsOf opObj (pen ++ [te])) := by simp [pmRows, pmsOf, pmRow, opObj]
      have hb : (n + 1) * 32 ≤ 140737488355328 := by omega
      obtain ⟨H, t1, t2, t3, t4, t5⟩ := tl.tail
      have hkp := t5 h ⟨hg.le, hg.old⟩ (Nat.le_refl _)
      have hgH : Grow h H := ⟨hkp.1, hkp.2⟩
      have fin2 : Grow h (H.new (.arr 2 (pmRows (don ++ pmsOf opObj (pen ++ [te]))))) ∧ Tl (H.new (.arr 2 (pmRows (don ++ pmsOf opObj (pen ++ [te]))))) h.next 2 (.own H.next 0 (n + 1)) (pmRows (don ++ pmsOf opObj (pen ++ [te]))) :=
       ⟨hgH.new _, Tl.grow hkp.1 (by rw [pmRows_len]; simp [pmsOf]; omega)⟩
      rw [t3] at fin2
      cases vars with
      | true =>
       simp only [cond_true] at hinv
       have hc := fun h : Heap => fvariable_c (h := h) hte'
       cases v1 : varB te with
       | false =>
        rw [v1] at hinv hc
        simp only [cond_false] at hinv
        repeat' (first | refine a_seq fun K hK => ?_ | (refine a_regionS ?_; simp only [Ty.w, simprocAttr, g0, g1, g6, g7, g8, g9, q2, Bool.not_true, Bool.not_false]) | (refine hK _ _ ?_; clear hK; try simp only [pst0, simprocAttr]))
        refine owp_useQ (hc _) (by (try simp only [Ty.w, simprocAttr, g0, g1, g6, g7, g8, g9, Bool.not_false]); try rfl) ?_; simp only [Ty.w, simprocAttr, g0, g1, g6, g7, g8, g9, Bool.not_false]
        repeat' (first | refine a_seq fun K hK => ?_ | ((first | refine a_regionS ?_ | refine a_ret ?_); simp only [Ty.w, simprocAttr, g0, g1, g6, g7, g8, g9, Bool.not_false]) | (refine hK _ _ ?_; clear hK; try simp only [pst0, simprocAttr]))
        exact bad 8 _ (.inr rfl) hg hinv
       | true =>
        rw [v1] at hinv hc
        simp only [cond_true] at hinv
        repeat' (first | refine a_seq fun K hK => ?_ | (refine a_regionS ?_; simp only [Ty.w, simprocAttr, g0, g1, g6, g7, g8, g9, q2, Bool.not_true, Bool.not_false]) | (refine hK _ _ ?_; clear hK; try simp only [pst0, simprocAttr]))
        refine owp_useQ (hc _) (by (try simp only [Ty.w, simprocAttr, g0, g1, g6, g7, g8, g9, Bool.not_true]); try rfl) ?_; simp only [Ty.w, simprocAttr, g0, g1, g6, g7, g8, g9, Bool.not_true]
        repeat' (first | refine a_seq fun K hK => ?_ | (refine a_regionS ?_; simp only [Ty.w, simprocAttr, g0, g1, g6, g7, g8, g9, Bool.not_true, t1, t2, hrl, hb, hap, w7]) | ((first | refine a_skip ?_ | refine a_exit ?_); try simp only [pst0, simprocAttr]) | (refine a_cond _ (by (try simp only [Ty.w, simprocAttr, g0, g1, g6, g7, g8, g9, Bool.not_true, t1, t2, hrl, hb, hap, w7]); rfl) (fun hb => ?_) (fun hb => ?_) <;> (try simp only [hb0, decide_eq_true_eq, decide_eq_false_iff_not, simprocAttr] at hb) <;> (try (exfalso; omega))) | ((first | refine hK _ _ ?_ | (clear hK; refine hK _ _ ?_)); clear hK; try simp only [pst0, simprocAttr]) | (rw [if_pos]; rotate_left 1; omega; simp only [Ty.w, simprocAttr, g0, g1, g6, g7, g8, g9, Bool.not_true, t1, t2, hrl, hb, hap, w7]))
        exact ⟨l.length - (k + 1), by omega, k + 1, _, don, pen ++ [te], by simp, rfl, rfl, by omega, rfl, by simp; omega, fin2.1, fin2.2, hinv⟩
      | false =>
       simp only [cond_false] at hinv
       have hc := fun h : Heap => fname_c (h := h) hte'
       cases v1 : nameB te with
       | false =>
        rw [v1] at hinv hc
        simp only [cond_false] at hinv
        repeat' (first | refine a_seq fun K hK => ?_ | (refine a_regionS ?_; simp only [Ty.w, simprocAttr, g0, g1, g6, g7, g8, g9, q2, Bool.not_true, Bool.not_false]) | (refine hK _ _ ?_; clear hK; try simp only [pst0, simprocAttr]))
        refine owp_useQ (hc _) (by (try simp only [Ty.w, simprocAttr, g0, g1, g6, g7, g8, g9, Bool.not_false]); try rfl) ?_; simp only [Ty.w, simprocAttr, g0, g1, g6, g7, g8, g9, Bool.not_false]
        repeat' (first | refine a_seq fun K hK => ?_ | ((first | refine a_regionS ?_ | refine a_ret ?_); simp only [Ty.w, simprocAttr, g0, g1, g6, g7, g8, g9, Bool.not_false]) | (refine hK _ _ ?_; clear hK; try simp only [pst0, simprocAttr]))
        exact bad 8 _ (.inr rfl) hg hinv
       | true =>
        rw [v1] at hinv hc
        simp only [cond_true] at hinv
        repeat' (first | refine a_seq fun K hK => ?_ | (refine a_regionS ?_; simp only [Ty.w, simprocAttr, g0, g1, g6, g7, g8, g9, q2, Bool.not_true, Bool.not_false]) | (refine hK _ _ ?_; clear hK; try simp only [pst0, simprocAttr]))
        refine owp_useQ (hc _) (by (try simp only [Ty.w, simprocAttr, g0, g1, g6, g7, g8, g9, Bool.not_true]); try rfl) ?_; simp only [Ty.w, simprocAttr, g0, g1, g6, g7, g8, g9, Bool.not_true]
        repeat' (first | refine a_seq fun K hK => ?_ | (refine a_regionS ?_; simp only [Ty.w, simprocAttr, g0, g1, g6, g7, g8, g9, Bool.not_true, t1, t2, hrl, hb, hap, w7]) | ((first | refine a_skip ?_ | refine a_exit ?_); try simp only [pst0, simprocAttr]) | (refine a_cond _ (by (try simp only [Ty.w, simprocAttr, g0, g1, g6, g7, g8, g9, Bool.not_true, t1, t2, hrl, hb, hap, w7]); rfl) (fun hb => ?_) (fun hb => ?_) <;> (try simp only [hb0, decide_eq_true_eq, decide_eq_false_iff_not, simprocAttr] at hb) <;> (try (exfalso; omega))) | ((first | refine hK _ _ ?_ | (clear hK; refine hK _ _ ?_)); clear hK; try simp only [pst0, simprocAttr]) | (rw [if_pos]; rotate_left 1; omega; simp only [Ty.w, simprocAttr, g0, g1, g6, g7, g8, g9, Bool.not_true, t1, t2, hrl, hb, hap, w7]))
        exact ⟨l.length - (k + 1), by omega, k + 1, _, don, pen ++ [te], by simp, rfl, rfl, by omega, rfl, by simp; omega, fin2.1, fin2.2, hinv⟩
     | true =>
      rw [show bEq te opMin = true from q2] at hinv
      simp only [cond_true] at hinv
      have hsl := tl.sl
      have hlo := hsl.len
      rw [hrl] at hlo
      have hlk := hsl.lk
      repeat' (first | (with_reducible refine a_hold 14 ?_) | refine a_seq fun K hK => ?_ | (refine a_regionS ?_; simp only [Ty.w, simprocAttr, g0, g1, g6, g7, g8, g9, q2, w7, Bool.not_true]) | (refine a_skip ?_; try simp only [pst0, simprocAttr]) | (refine a_cond _ (by (try simp only [Ty.w, simprocAttr, g0, g1, g6, g7, g8, g9, q2, w7, Bool.not_true]); rfl) (fun hb => ?_) (fun hb => ?_) <;> (try simp only [hb0, decide_eq_true_eq, decide_eq_false_iff_not, simprocAttr] at hb) <;> (try (exfalso; omega))) | (refine hK _ _ ?_; clear hK; try simp only [pst0, simprocAttr]))
      refine ⟨?_⟩
      refine a_gen (fun S h2 => S 0 = .imm 6 (Sx.rows l) ∧ S 1 = .sc (.bool vars) ∧ S 6 = o ∧ S 7 = .sc (.int .i64 don.length) ∧ S 8 = .sc (.int .i64 ((k : Int) + 1)) ∧ h2 = h') ?_ ?_
      ·simp only [Ty.w, simprocAttr, g0, g1, g6, g7, g8]
      clear g0 g1 g6 g7 g8 g9 w7
      rintro S h' ⟨g0, g1, g6, g7, g8, rfl⟩
      obtain ⟨k1, hk1⟩ : ∃ k1 : Int, k1 = (k : Int) + 1 := ⟨_, rfl⟩
      rw [← hk1] at g8
      cases hpe : pen.isEmpty with
      | true =>
       have hpe' : pen = [] := List.isEmpty_iff.1 hpe
       have hF2 : F = ([], 2) := by
        rw [hinv, hpe]
        split
        ·rfl
        ·rfl
       have hdd : ((don.length : Int) == (n : Int)) = true := by rw [hn, hpe']; simp
       repeat' (first | refine a_seq fun K hK => ?_ | ((first | refine a_regionS ?_ | refine a_ret ?_); simp only [Ty.w, simprocAttr, g0, g1, g6, g7, g8, hlo, hlk, hdd]) | (refine hK _ _ ?_; clear hK; try simp only [pst0, simprocAttr]))
       exact bad 2 _ (.inl rfl) hg hF2
      | false =>
       rw [hpe] at hinv
       simp only [Bool.not_false, Bool.true_and] at hinv
       have hp0 : 0 < pen.length := by
        cases pen with
        | nil => simp at hpe
        | cons _ _ => simp
       have hdd : ((don.length : Int) == (n : Int)) = false := by rw [hn]; simp; omega
       by_cases hl2 : k + 1 < l.length
       ·have hd2 : (k1 == (l.length : Int)) = false := by rw [hk1]; simp; omega
        obtain ⟨y, hy⟩ : ∃ y, l[k + 1]? = some y := ⟨_, List.getElem?_eq_getElem hl2⟩
        have hyk := hok y (List.mem_of_getElem? hy)
        have hvy := fun h : Heap => svalid_c hyk h
        have htey := textOf_okQ hyk
        rw [drop_of_get hy] at hinv
        simp only at hinv
        have hry : (Sx.rows l)[k1.toNat]? = some y.cells := by rw [hk1]; exact Sx.rows_get hy
        generalize svalid y 0 0 = V2 at hvy hinv
        obtain ⟨vb2, vn2⟩ := V2
        obtain ⟨ki2, va2, li2, co2, te2, ks2⟩ := y
        simp only [kindOf, textOf] at hinv htey
        simp only [Sx.cells] at hry hvy
        have hcy := fun h : Heap => typed_c (h := h) htey
        have hk0 : (0 : Int) ≤ k1 := by omega
        cases q3 : (ki2 != 1) with
        | true =>
         rw [show (ki2 == 1) = false by simpa using q3] at hinv
         simp only [Bool.false_and, cond_false] at hinv
         repeat' (first | refine a_seq fun K hK => ?_ | ((first | refine a_regionS ?_ | refine a_ret ?_); simp only [Ty.w, simprocAttr, g0, g1, g6, g7, g8, hlo, hlk, hdd, hll, hd2, hry, hk0, q3]) | (refine hK _ _ ?_; clear hK; try simp only [pst0, simprocAttr]))
         exact bad 2 _ (.inl rfl) hg hinv
        | false =>
         rw [show (ki2 == 1) = true by simpa using q3] at hinv
         simp only [Bool.true_and] at hinv
         cases vb2 with
         | false =>
          simp only [cond_false] at hinv
          repeat' (first | refine a_seq fun K hK => ?_ | (refine a_regionS ?_; simp only [Ty.w, simprocAttr, g0, g1, g6, g7, g8, hlo, hlk, hdd, hll, hd2, hry, hk0, q3]))
          refine owp_useQ (hvy _) (by (try simp only [Ty.w, simprocAttr, g0, g1, g6, g7, g8, hry, hk0, Bool.not_false]); try rfl) ?_; simp only [Ty.w, simprocAttr, g0, g1, g6, g7, g8, hry, hk0, Bool.not_false]
          repeat' (first | refine a_seq fun K hK => ?_ | ((first | refine a_regionS ?_ | refine a_ret ?_); simp only [Ty.w, simprocAttr, g0, g1, g6, g7, g8, Bool.not_false]) | (refine hK _ _ ?_; clear hK; try simp only [pst0, simprocAttr]))
          exact bad 2 _ (.inl rfl) hg hinv
         | true =>
          simp only [cond_true] at hinv
          cases v3 : typedB te2 with
          | false =>
           rw [v3] at hinv hcy
           simp only [cond_false] at hinv
           have W := And.intro g0 (And.intro g1 (And.intro g6 (And.intro g7 (And.intro g8 (And.intro hry hk0)))))
           repeat' (first | refine a_seq fun K hK => ?_ | (refine a_regionS ?_; simp only [Ty.w, simprocAttr, W, hlo, hlk, hdd, hll, hd2, q3]))
           refine owp_useQ (hvy _) (by (try simp only [Ty.w, simprocAttr, W, Bool.not_true]); try rfl) ?_; simp only [Ty.w, simprocAttr, W, Bool.not_true]
           repeat' (first | refine a_seq fun K hK => ?_ | (refine a_regionS ?_; simp only [Ty.w, simprocAttr, W, Bool.not_true]) | (refine a_skip ?_; try simp only [pst0, simprocAttr]) | (refine a_cond _ (by (try simp only [Ty.w, simprocAttr, W, Bool.not_true]); rfl) (fun hb => ?_) (fun hb => ?_) <;> (try simp only [hb0, decide_eq_true_eq, decide_eq_false_iff_not, simprocAttr] at hb) <;> (try (exfalso; omega))) | (refine hK _ _ ?_; clear hK; try simp only [pst0, simprocAttr]))
           refine owp_useQ (hcy _) (by (try simp only [Ty.w, simprocAttr, W, Bool.not_false]); try rfl) ?_; simp only [Ty.w, simprocAttr, W, Bool.not_false]
           repeat' (first | refine a_seq fun K hK => ?_ | ((first | refine a_regionS ?_ | refine a_ret ?_); simp only [Ty.w, simprocAttr, W, Bool.not_false]) | (refine hK _ _ ?_; clear hK; try simp only [pst0, simprocAttr]))
           exact bad 8 _ (.inr rfl) hg hinv
          | true =>
           rw [v3] at hinv hcy
           simp only [cond_true] at hinv
           obtain ⟨id, i1, i2, ho, i4⟩ : ∃ id, h.next ≤ id ∧ id < h'.next ∧ o = .own id 0 n ∧ h'.obj id = some (.arr 2 (pmRows (don ++ pmsOf opObj pen))) := by
            rcases tl with ⟨hn0, _⟩ | ⟨id, i1, i2, i3, i4⟩
            ·rw [hn0] at hrl; simp at hrl; omega
            ·rw [hrl] at i3; exact ⟨id, i1, i2, i3, i4⟩
           subst ho
           clear tl hsl
           have W := And.intro g0 (And.intro g1 (And.intro g6 (And.intro g7 (And.intro g8 (And.intro hry hk0)))))
           repeat' (first | refine a_seq fun K hK => ?_ | (refine a_regionS ?_; simp only [Ty.w, simprocAttr, W, hlo, hlk, hdd, hll, hd2, q3]))
           refine owp_useQ (hvy _) (by (try simp only [Ty.w, simprocAttr, W, Bool.not_true]); try rfl) ?_; simp only [Ty.w, simprocAttr, W, Bool.not_true]
           repeat' (first | refine a_seq fun K hK => ?_ | (refine a_regionS ?_; simp only [Ty.w, simprocAttr, W, Bool.not_true]) | (refine a_skip ?_; try simp only [pst0, simprocAttr]) | (refine a_cond _ (by (try simp only [Ty.w, simprocAttr, W, Bool.not_true]); rfl) (fun hb => ?_) (fun hb => ?_) <;> (try simp only [hb0, decide_eq_true_eq, decide_eq_false_iff_not, simprocAttr] at hb) <;> (try (exfalso; omega))) | (refine hK _ _ ?_; clear hK; try simp only [pst0, simprocAttr]))
           refine owp_useQ (hcy _) (by (try simp only [Ty.w, simprocAttr, W, Bool.not_true]); try rfl) ?_; simp only [Ty.w, simprocAttr, W, Bool.not_true]
           repeat' (first | (refine a_block ?_) | (refine a_skip ?_; try simp only [pst0, simprocAttr]) | (refine a_cond _ (by (try simp only [Ty.w, simprocAttr, W, Bool.not_true]); rfl) (fun hb => ?_) (fun hb => ?_) <;> (try simp only [hb0, decide_eq_true_eq, decide_eq_false_iff_not, simprocAttr] at hb) <;> (try (exfalso; omega))) | (refine hK _ _ ?_; clear hK; try simp only [pst0, simprocAttr]))
           refine a_loop (fun m S h2 => S 0 = .imm 6 (Sx.rows l) ∧ S 1 = .sc (.bool vars) ∧ S 8 = .sc (.int .i64 k1) ∧ S 6 = .own id 0 n ∧ ∃ j : Nat, S 7 = .sc (.int .i64 ((don.length + j : Nat) : Int)) ∧ j ≤ pen.length ∧ m = pen.length - j ∧ Grow h h2 ∧ h2.next = h'.next ∧ h2.obj id = some (.arr 2 (pmRows (don ++ pmsOf te2 (pen.take j) ++ pmsOf opObj (pen.drop j))))) pen.length ?_ ?_
           ·simp only [Ty.w, simprocAttr, g0, g1, g6, g7, g8]
            exact ⟨0, by simp, by omega, rfl, hg, by simpa [pmsOf] using i4⟩
           ·clear g0 g1 g6 g7 g8 i4
            rintro m S h2 ⟨g0, g1, g8, g6, j, g7, hj, rfl, hg2, hn2, ob⟩
            by_cases hjl : j < pen.length
            ·obtain ⟨q, hqn⟩ : ∃ q, q = don.length + j := ⟨_, rfl⟩
             obtain ⟨s, hs⟩ : ∃ s, pen[j]? = some s := ⟨_, List.getElem?_eq_getElem hjl⟩
             obtain ⟨hp1, hp2⟩ := pms_step (don := don) (t := te2) hs
             rw [← hqn] at g7 hp1 hp2
             have hdj : decide ((q : Int) < (n : Int)) = true := by simp; omega
             have wj : IntKind.i64.wrap ((q : Int) + 1) = ((q + 1 : Nat) : Int) := by rw [wrap64 (by omega) (by omega)]; try rfl
             have hjl2 : q < n := by omega
             generalize hR : pmRows (don ++ pmsOf te2 (pen.take j) ++ pmsOf opObj (pen.drop j)) = R at ob hp1 hp2
             repeat' (first | refine a_seq fun K hK => ?_ | (refine a_block ?_) | ((first | refine a_regionS ?_ | refine a_region (fun K hK => ?_)); simp only [Ty.w, simprocAttr, g0, g1, g6, g7, g8, hdj, wj, hry, hk0, ob, hp1, hp2, hjl2]) | (refine a_skip ?_; try simp only [pst0, simprocAttr]) | (refine a_cond _ (by (try simp only [Ty.w, simprocAttr, g0, g1, g6, g7, g8, hdj, wj, hry, hk0, ob, hp1, hp2, hjl2]); rfl) (fun hb => ?_) (fun hb => ?_) <;> (try simp only [hb0, decide_eq_true_eq, decide_eq_false_iff_not, simprocAttr] at hb) <;> (try (exfalso; omega))) | (refine hK _ _ ?_; clear hK; try simp only [pst0, simprocAttr]))
             refine ⟨pen.length - (j + 1), by omega, j + 1, by rw [hqn]; try rfl, by omega, rfl, hg2.set i1 _, hn2, ?_⟩
             try simp [Heap.set]
            ·have hje : j = pen.length := by omega
             subst hje
             rw [← hn] at g7
             have hdj : decide ((n : Int) < (n : Int)) = false := by simp
             have w8 : IntKind.i64.wrap (k1 + 1) = ((k + 2 : Nat) : Int) := by rw [hk1, wrap64 (by omega) (by omega)]; omega
             rw [List.take_length, List.drop_length] at ob
             have hz : pmRows (don ++ pmsOf te2 pen ++ pmsOf opObj []) = pmRows (don ++ pmsOf te2 pen) := by simp [pmsOf]
             rw [hz] at ob
             repeat' (first | refine a_seq fun K hK => ?_ | (refine a_regionS ?_; simp only [Ty.w, simprocAttr, g0, g1, g6, g7, g8, hdj, w8]) | (refine a_exit ?_; try simp only [pst0, simprocAttr]) | (refine a_cond _ (by (try simp only [Ty.w, simprocAttr, g0, g1, g6, g7, g8, hdj, w8]); rfl) (fun hb => ?_) (fun hb => ?_) <;> (try simp only [hb0, decide_eq_true_eq, decide_eq_false_iff_not, simprocAttr] at hb) <;> (try (exfalso; omega))) | ((first | refine hK _ _ ?_ | (clear hK; refine hK _ _ ?_)); clear hK; try simp only [pst0, simprocAttr]))
             refine ⟨l.length - (k + 2), by omega, k + 2, _, don ++ pmsOf te2 pen, [], rfl, rfl, by rw [hn]; simp [pmsOf], by omega, rfl, by simp [pmsOf]; omega, hg2, ?_, hinv⟩
             refine .inr ⟨id, i1, by omega, ?_, ?_⟩
             ·rw [pmRows_len, hn]; simp [pmsOf]
             ·rw [ob]; simp [pmsOf]
       ·have hke : k + 1 = l.length := by omega
        have hd2 : (k1 == (l.length : Int)) = true := by rw [hk1]; simp; omega
        rw [List.drop_eq_nil_of_le (by omega)] at hinv
        simp only at hinv
        repeat' (first | refine a_seq fun K hK => ?_ | ((first | refine a_regionS ?_ | refine a_ret ?_); simp only [Ty.w, simprocAttr, g0, g1, g6, g7, g8, hlo, hlk, hdd, hll, hd2]) | (refine hK _ _ ?_; clear hK; try simp only [pst0, simprocAttr]))
        exact bad 2 _ (.inl rfl) hg hinv
  ·have hd : decide ((k : Int) < (l.length : Int)) = false := by simp; omega
   rw [List.drop_eq_nil_of_le (by omega)] at hinv
   simp only [paramsL] at hinv
   subst hinv
   repeat' (first | refine a_seq fun K hK => ?_ | ((first | refine a_regionS ?_ | refine a_ret ?_); simp only [Ty.w, simprocAttr, g0, g1, g6, g7, g8, hll, hd]) | (refine a_exit ?_; try simp only [pst0, simprocAttr]) | (refine a_cond _ (by (try simp only [Ty.w, simprocAttr, g0, g1, g6, g7, g8, hll, hd]); rfl) (fun hb => ?_) (fun hb => ?_) <;> (try simp only [hb0, decide_eq_true_eq, decide_eq_false_iff_not, simprocAttr] at hb) <;> (try (exfalso; omega))) | ((first | refine hK _ _ ?_ | (clear hK; refine hK _ _ ?_)); clear hK; try simp only [pst0, simprocAttr]))
   have e2 : errP 0 = .sc .nilIface := rfl
   simp only [e2]
   refine ⟨?_, hg⟩
   have h1 := pms_frzP tl
   unfold FrzTo
   refine ⟨_, rfl, ?_⟩
   unfold FrzL
   refine ⟨h1, ?_⟩
   unfold FrzL
   exact ⟨by simp only [FrzTo], by simp only [FrzL]⟩
end Go.Proofs.Ytjlkapgpjamnkaa
