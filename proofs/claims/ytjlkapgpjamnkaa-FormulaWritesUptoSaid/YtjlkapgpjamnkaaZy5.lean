/- What the claim rests on, part 5: the abstract machine, contracts of the functions, plain data. -/
import Derived.Test.YtjlkapgpjamnkaaZy4
set_option linter.unusedVariables false
set_option linter.unusedSimpArgs false
set_option linter.unusedSectionVars false
namespace Go.Proofs.Ytjlkapgpjamnkaa
open Go.AM
set_option maxHeartbeats 2000000
set_option maxRecDepth 20000
structure Hold (p : Prop) : Prop where
 out : p
theorem a_hold {P : Program} {ow : Nat → Bool} {wf : FuncId → Bool} {n : Nat} {Q : Post} {s : Slots} {h : Heap} (id : Nat) {ops : Array Oper} {d : Bool} {x y : Code} (hh : Hold (awp P ow wf n (.seq (.seq (.region id ops d) x) y) Q s h)) : awp P ow wf n (.seq (.seq (.region id ops d) x) y) Q s h := hh.out
theorem a_cut {P : Program} {ow : Nat → Bool} {wf : FuncId → Bool} {n : Nat} {Q : Post} {s : Slots} {h : Heap} {a b : Code} (I : Slots → Heap → Prop) (h1 : awp P ow wf n a (Post.seq I Q) s h) (h2 : ∀ s h, I s h → awp P ow wf n b Q s h) : awp P ow wf n (.seq a b) Q s h := by
 simp only [awp]
 refine awp_mono a (fun e s h hh => ?_) h1
 cases e <;> simp only [Post.seq] at hh ⊢
 ·exact h2 _ _ hh
 all_goals exact hh
theorem a_cutK {P : Program} {ow : Nat → Bool} {wf : FuncId → Bool} {n : Nat} {Q : Post} {K : Slots → Heap → Prop} {s : Slots} {h : Heap} {a : Code} (I : Slots → Heap → Prop) (h1 : awp P ow wf n a (Post.seq I Q) s h) (h2 : ∀ s h, I s h → K s h) : awp P ow wf n a (Post.seq K Q) s h := by
 refine awp_mono a (fun e s h hh => ?_) h1
 cases e <;> simp only [Post.seq] at hh ⊢
 ·exact h2 _ _ hh
 all_goals exact hh
theorem set_set (h : Heap) (id : Nat) (a b : AObj) : (h.set id a).set id b = h.set id b := by
 unfold Heap.set
 congr 1
 funext i
 simp only
 by_cases hi : i = id
 ·simp [hi]
 ·simp [hi]
theorem emp_len {α : Type} (l : List α) : ((l.length : Int) == 0) = l.isEmpty := by cases l <;> simp; omega
theorem cntO_c (n : Nat) : cntO (n + 1) = .arr 1 [[.sc (.int .i64 ((n : Int) + 1))]] := by simp only [cntO, natc]
theorem term_c {h : Heap} {s : ByteArray} (hs : s.size ≤ bigN) : PCall Try.prog 106 [sPV s] h fun r h' => r = .sc (.bool (termB s)) ∧ h' = h := by
 have hs' : s.size ≤ 9223372036854775807 := by unfold bigN at hs; omega
 cases c1 : nameB s with
 | true =>
  have : termB s = true := by simp [termB, c1]
  refine pcall_body (ow := fun _ => false) (wf := fun _ => false) Ty.mixed Try.func106 rfl Ty.hb_106 (by rw [Try.ntmps106]; simp) ?_
  rw [Try.ntmps106, Try.results106]
  repeat' (first | refine a_seq fun K hK => ?_ | (refine a_regionS ?_; simp only [Ty.w, simprocAttr]) | (refine hK _ _ ?_; clear hK; try simp only [pst0, simprocAttr]))
  refine owp_useQ (fname_c (s := s) hs') (by (try simp only [Ty.w, simprocAttr, c1]); try rfl) ?_; simp only [Ty.w, simprocAttr, c1]
  repeat' (first | (refine a_ret ?_; simp only [Ty.w, simprocAttr, c1]) | (refine hK _ _ ?_; clear hK; try simp only [pst0, simprocAttr]))
  rw [this]
 | false =>
  have : termB s = varB s := by simp [termB, c1]
  refine pcall_body (ow := fun _ => false) (wf := fun _ => false) Ty.mixed Try.func106 rfl Ty.hb_106 (by rw [Try.ntmps106]; simp) ?_
  rw [Try.ntmps106, Try.results106]
  repeat' (first | refine a_seq fun K hK => ?_ | (refine a_regionS ?_; simp only [Ty.w, simprocAttr]) | (refine hK _ _ ?_; clear hK; try simp only [pst0, simprocAttr]))
  refine owp_useQ (fname_c (s := s) hs') (by (try simp only [Ty.w, simprocAttr, c1]); try rfl) ?_; simp only [Ty.w, simprocAttr, c1]
  skip
  refine owp_useQ (fvariable_c (s := s) hs') (by (try simp only [Ty.w, simprocAttr, c1]); try rfl) ?_; simp only [Ty.w, simprocAttr, c1]
  repeat' (first | (refine a_ret ?_; simp only [Ty.w, simprocAttr, c1]) | (refine hK _ _ ?_; clear hK; try simp only [pst0, simprocAttr]))
  rw [this]
theorem fclosure1_c {h : Heap} {s : ByteArray} (hs : s.size ≤ bigN) : PCall Try.prog 124 [sPV s] h fun r h' => r = .sc (.bool (!termB s)) ∧ h' = h := by
 refine pcall_body (ow := fun _ => false) (wf := fun _ => false) Ty.mixed Try.func124 rfl Ty.hb_124 (by rw [Try.ntmps124]; simp) ?_
 rw [Try.ntmps124, Try.results124]
 repeat' (first | refine a_seq fun K hK => ?_ | (refine a_regionS ?_; simp only [Ty.w, simprocAttr]) | (refine hK _ _ ?_; clear hK; try simp only [pst0, simprocAttr]))
 refine owp_useQ (term_c (s := s) hs) (by (try simp only [Ty.w, simprocAttr, ]); try rfl) ?_; simp only [Ty.w, simprocAttr, ]
 repeat' (first | (refine a_ret ?_; simp only [Ty.w, simprocAttr]) | (refine hK _ _ ?_; clear hK; try simp only [pst0, simprocAttr]))
theorem fclosure2_c {h : Heap} {s : ByteArray} (hs : s.size ≤ bigN) : PCall Try.prog 105 [sPV s] h fun r h' => r = .sc (.bool (!termB s)) ∧ h' = h := by
 refine pcall_body (ow := fun _ => false) (wf := fun _ => false) Ty.mixed Try.func105 rfl Ty.hb_105 (by rw [Try.ntmps105]; simp) ?_
 rw [Try.ntmps105, Try.results105]
 repeat' (first | refine a_seq fun K hK => ?_ | (refine a_regionS ?_; simp only [Ty.w, simprocAttr]) | (refine hK _ _ ?_; clear hK; try simp only [pst0, simprocAttr]))
 refine owp_useQ (term_c (s := s) hs) (by (try simp only [Ty.w, simprocAttr, ]); try rfl) ?_; simp only [Ty.w, simprocAttr, ]
 repeat' (first | (refine a_ret ?_; simp only [Ty.w, simprocAttr]) | (refine hK _ _ ?_; clear hK; try simp only [pst0, simprocAttr]))
def idxT (l : List ByteArray) : Int := match l.findIdx? (fun s => !termB s) with
 | some i => i
 | none => -1
theorem idxT_any (l : List ByteArray) : decide (idxT l ≥ 0) = !l.all termB := by
 unfold idxT
 cases h : l.findIdx? (fun s => !termB s) with
 | none =>
  rw [List.findIdx?_eq_none_iff] at h
  have : l.all termB = true := by
   rw [List.all_eq_true]
   intro s hs
   simpa using h s hs
  rw [this]; try rfl
 | some i =>
  rw [List.findIdx?_eq_some_iff_getElem] at h
  obtain ⟨hi, h1, _⟩ := h
  have : l.all termB = false := by
   rw [List.all_eq_false]
   exact ⟨l[i], List.getElem_mem hi, by simpa using h1⟩
  rw [this]; simp
theorem indexFunc_c {h : Heap} {g : FuncId} {l : List ByteArray} (hl : l.length ≤ bigN) (hf : ∀ s ∈ l, ∀ h : Heap, PCall Try.prog g [sPV s] h fun r h' => r = .sc (.bool (!termB s)) ∧ h' = h) :
  PCall Try.prog 135 [.imm 1 (strRows l), .sc (.func (.func g) #[] #[])] h fun r h' => r = .sc (.int .i64 (idxT l)) ∧ h' = h := by
 unfold bigN at hl
 have hlen := strRows_len l
 refine pcall_body (ow := fun _ => false) (wf := fun _ => false) Ty.mixed Try.func135 rfl Ty.hb_135 (by rw [Try.ntmps135]; simp) ?_
 rw [Try.ntmps135, Try.results135]
 repeat' (first | refine a_seq fun K hK => ?_ | (refine a_block ?_) | (refine a_regionS ?_; simp only [Ty.w, simprocAttr, hlen]) | (refine hK _ _ ?_; clear hK; try simp only [pst0, simprocAttr]))
 refine a_loop (fun m S h' => h' = h ∧ S 0 = .imm 1 (strRows l) ∧ S 1 = .sc (.func (.func g) #[] #[]) ∧ S 7 = .sc (.int .i64 l.length) ∧ ∃ k : Nat, S 8 = .sc (.int .i64 k) ∧ k ≤ l.length ∧ m = l.length - k ∧ ∀ (i : Nat) (w : ByteArray), i < k → l[i]? = some w → termB w = true) l.length ?_ ?_
 ·simp only [Ty.w, simprocAttr]
  exact ⟨0, rfl, by omega, rfl, by omega⟩
 ·rintro m S h' ⟨rfl, g0, g1, g7, k, g8, hk, rfl, hall⟩
  by_cases hlt : k < l.length
  ·have hd : decide ((k : Int) < (l.length : Int)) = true := by simp; omega
   have w7 : IntKind.i64.wrap ((k : Int) + 1) = k + 1 := by rw [wrap64 (by omega) (by omega)]
   obtain ⟨w, hx⟩ : ∃ w, l[k]? = some w := ⟨l[k], List.getElem?_eq_getElem hlt⟩
   have hr := strRows_get hx
   have hc := hf w (List.mem_of_getElem? hx)
   cases he : termB w with
   | false =>
    rw [he] at hc
    repeat' (first | refine a_seq fun K hK => ?_ | (refine a_regionS ?_; simp only [Ty.w, simprocAttr, g0, g1, g7, g8, hd, hr]) | (refine a_skip ?_; try simp only [pst0, simprocAttr]) | (refine a_cond _ (by (try simp only [Ty.w, simprocAttr, g0, g1, g7, g8, hd, hr]); rfl) (fun hb => ?_) (fun hb => ?_) <;> (try simp only [hb0, decide_eq_true_eq, decide_eq_false_iff_not, simprocAttr] at hb) <;> (try (exfalso; omega))) | (refine hK _ _ ?_; clear hK; try simp only [pst0, simprocAttr]))
    refine owp_useV (by simp only [Ty.w, simprocAttr, g1]) (hc _) (by simp only [Ty.w, simprocAttr, g0, g1, g7, g8]; try rfl) ?_
    simp only [Ty.w, simprocAttr, Ty.all]
    repeat' (first | refine a_seq fun K hK => ?_ | ((first | refine a_regionS ?_ | refine a_ret ?_); simp only [Ty.w, simprocAttr, g0, g1, g7, g8, Bool.not_false]) | (refine hK _ _ ?_; clear hK; try simp only [pst0, simprocAttr]))
    have : l.findIdx? (fun s => !termB s) = some k := by
     rw [List.findIdx?_eq_some_iff_getElem]
     refine ⟨hlt, ?_, fun j hj => ?_⟩
     ·rw [List.getElem?_eq_getElem hlt] at hx
      simp only [Option.some.injEq] at hx
      rw [hx, he]; try rfl
     ·rw [hall j l[j] hj (List.getElem?_eq_getElem (by omega))]; simp
    simp only [idxT, this]
   | true =>
    rw [he] at hc
    repeat' (first | refine a_seq fun K hK => ?_ | (refine a_regionS ?_; simp only [Ty.w, simprocAttr, g0, g1, g7, g8, hd, hr]) | (refine a_skip ?_; try simp only [pst0, simprocAttr]) | (refine a_cond _ (by (try simp only [Ty.w, simprocAttr, g0, g1, g7, g8, hd, hr]); rfl) (fun hb => ?_) (fun hb => ?_) <;> (try simp only [hb0, decide_eq_true_eq, decide_eq_false_iff_not, simprocAttr] at hb) <;> (try (exfalso; omega))) | (refine hK _ _ ?_; clear hK; try simp only [pst0, simprocAttr]))
    refine owp_useV (by simp only [Ty.w, simprocAttr, g1]) (hc _) (by simp only [Ty.w, simprocAttr, g0, g1, g7, g8]; try rfl) ?_
    simp only [Ty.w, simprocAttr, Ty.all]
    repeat' (first | (refine a_block ?_) | (refine a_regionS ?_; simp only [Ty.w, simprocAttr, g0, g1, g7, g8, w7, Bool.not_true]) | (refine a_skip ?_; try simp only [pst0, simprocAttr]) | (refine hK _ _ ?_; clear hK; try simp only [pst0, simprocAttr]))
    refine ⟨l.length - (k + 1), by omega, k + 1, by simp, by omega, rfl, fun i w2 hi hw => ?_⟩
    by_cases hik : i = k
    ·subst hik; rw [hx] at hw; simp at hw; rw [← hw]; exact he
    ·exact hall i w2 (by omega) hw
  ·have hd : decide ((k : Int) < (l.length : Int)) = false := by simp; omega
   repeat' (first | refine a_seq fun K hK => ?_ | ((first | refine a_regionS ?_ | refine a_ret ?_); simp only [Ty.w, simprocAttr, g0, g1, g7, g8, hd]) | (refine a_exit ?_; try simp only [pst0, simprocAttr]) | (refine a_cond _ (by (try simp only [Ty.w, simprocAttr, g0, g1, g7, g8, hd]); rfl) (fun hb => ?_) (fun hb => ?_) <;> (try simp only [hb0, decide_eq_true_eq, decide_eq_false_iff_not, simprocAttr] at hb) <;> (try (exfalso; omega))) | ((first | refine hK _ _ ?_ | (clear hK; refine hK _ _ ?_)); clear hK; try simp only [pst0, simprocAttr]))
   have : l.findIdx? (fun s => !termB s) = none := by
    rw [List.findIdx?_eq_none_iff]
    intro w hw
    obtain ⟨i, hi⟩ := List.getElem?_of_mem hw
    have : i < l.length := (List.getElem?_eq_some_iff.1 hi).1
    rw [hall i w (by omega) hi]; try rfl
   simp only [idxT, this]
theorem containsFunc_c {h : Heap} {g : FuncId} {l : List ByteArray} (hl : l.length ≤ bigN) (hf : ∀ s ∈ l, ∀ h : Heap, PCall Try.prog g [sPV s] h fun r h' => r = .sc (.bool (!termB s)) ∧ h' = h) :
  PCall Try.prog 104 [.imm 1 (strRows l), .sc (.func (.func g) #[] #[])] h fun r h' => r = .sc (.bool (!l.all termB)) ∧ h' = h := by
 refine pcall_body (ow := fun _ => false) (wf := fun _ => false) Ty.mixed Try.func104 rfl Ty.hb_104 (by rw [Try.ntmps104]; simp) ?_
 rw [Try.ntmps104, Try.results104]
 repeat' (first | refine a_seq fun K hK => ?_ | (refine a_regionS ?_; simp only [Ty.w, simprocAttr]) | (refine hK _ _ ?_; clear hK; try simp only [pst0, simprocAttr]))
 refine owp_useQ (indexFunc_c (l := l) (g := g) hl hf) (by (try simp only [Ty.w, simprocAttr, ]); try rfl) ?_; simp only [Ty.w, simprocAttr, ]
 repeat' (first | (refine a_ret ?_; simp only [Ty.w, simprocAttr]) | (refine hK _ _ ?_; clear hK; try simp only [pst0, simprocAttr]))
 rw [← idxT_any]
theorem take_c {h : Heap} {id d n : Nat} {b : Bool} (hd : d ≤ 100) (hn : n ≤ 4096) (ho : h.obj id = some (cntO n)) (hb : decide (n + 1 ≤ 4096 ∧ d ≤ 32) = b) : PCall Try.prog 103 [.ptr id 0 0, .sc (.int .i64 d)] h fun r h' => r = .sc (.bool b) ∧ h' = h.set id (cntO (n + 1)) := by
 have ho' := ho
 simp only [cntO] at ho'
 rw [cntO_c]
 have wn : IntKind.i64.wrap ((n : Int) + 1) = (n : Int) + 1 := by rw [wrap64 (by omega) (by omega)]
 cases b0 : decide ((n : Int) + 1 ≤ 4096) with
 | false =>
  have : b = false := by rw [← hb]; simp only [decide_eq_false_iff_not] at b0 ⊢; omega
  subst this
  clear hb
  refine pcall_body (ow := fun _ => false) (wf := fun _ => false) Ty.mixed Try.func103 rfl Ty.hb_103 (by rw [Try.ntmps103]; simp) ?_
  rw [Try.ntmps103, Try.results103]
  repeat' (first | refine a_seq fun K hK => ?_ | ((first | refine a_regionS ?_ | refine a_ret ?_); simp only [Ty.w, simprocAttr, ho', wn, b0]) | (refine hK _ _ ?_; clear hK; try simp only [pst0, simprocAttr]))
 | true =>
  have : b = decide ((d : Int) ≤ 32) := by rw [← hb]; simp only [decide_eq_true_eq] at b0; exact decide_eq_decide.2 (by omega)
  subst this
  clear hb
  refine pcall_body (ow := fun _ => false) (wf := fun _ => false) Ty.mixed Try.func103 rfl Ty.hb_103 (by rw [Try.ntmps103]; simp) ?_
  rw [Try.ntmps103, Try.results103]
  repeat' (first | refine a_seq fun K hK => ?_ | ((first | refine a_regionS ?_ | refine a_ret ?_); simp only [Ty.w, simprocAttr, ho', wn, b0]) | (refine hK _ _ ?_; clear hK; try simp only [pst0, simprocAttr]))
theorem formedM_le : ∀ (e : Ex) (d n : Nat), (formedM e d n).1 = true → (formedM e d n).2 ≤ 4096 := by
 refine Ex.ind ?_
 intro op name nn args kids ih d n
 unfold formedM
 split
 ·rename_i hc
  split
  ·intro _; simp only; omega
  ·split
   ·intro _; simp only; omega
   ·split
    ·split
     ·split
      ·rename_i a b
       have ha := ih a (by simp) (d + 1) (n + 1)
       split
       ·rename_i c' he
        exact ih b (by simp) (d + 1) c'
       ·simp
      ·simp
     ·simp
    ·simp
 ·simp
theorem formed_c : ∀ e : Ex, e.ok → ∀ (d n : Nat), d ≤ 33 → n ≤ 4096 → ∀ (id : Nat) (h : Heap), h.obj id = some (cntO n) →
  PCall Try.prog 79 [.agg e.cells, .sc (.int .i64 d), .ptr id 0 0] h fun r h' => r = .sc (.bool (formedM e d n).1) ∧ h' = h.set id (cntO (formedM e d n).2) := by
 refine Ex.ind ?_
 intro op name v args kids ih hok d n hd hn id h ho
 simp only [Ex.ok] at hok
 obtain ⟨_, hnm, _, ⟨hal, hargs⟩, hkl, hks⟩ := hok
 rw [Ex.oks_iff] at hks
 have hnm' : name.size ≤ 9223372036854775807 := by unfold bigN at hnm; omega
 have hlA := strRows_len args
 have hlK := Ex.rows_len kids
 have e1 := emp_len args
 have e2 := emp_len kids
 generalize hF : formedM (.mk op name v args kids) d n = F
 unfold formedM at hF
 by_cases hc : n + 1 ≤ 4096 ∧ d ≤ 32
 rotate_left
 ·rw [if_neg hc] at hF
  subst hF
  have hT := take_c (by omega) hn ho (decide_eq_false hc)
  simp only [Ex.cells]
  refine pcall_body (ow := fun _ => false) (wf := fun _ => false) Ty.mixed Try.func79 rfl Ty.hb_79 (by rw [Try.ntmps79]; simp) ?_
  rw [Try.ntmps79, Try.results79]
  repeat' (first | refine a_seq fun K hK => ?_ | (refine a_regionS ?_; simp only [Ty.w, simprocAttr]) | (refine hK _ _ ?_; clear hK; try simp only [pst0, simprocAttr]))
  refine owp_useH (hT) (by (try simp only [Ty.w, simprocAttr, Bool.not_false]); try rfl) ?_; simp only [Ty.w, simprocAttr, Bool.not_false]
  repeat' (first | refine a_seq fun K hK => ?_ | ((first | refine a_regionS ?_ | refine a_ret ?_); simp only [Ty.w, simprocAttr, Bool.not_false]) | (refine hK _ _ ?_; clear hK; try simp only [pst0, simprocAttr]))
 ·rw [if_pos hc] at hF
  have hT := take_c (by omega) hn ho (decide_eq_true hc)
  have wd : IntKind.i64.wrap ((d : Int) + 1) = (d : Int) + 1 := by rw [wrap64 (by omega) (by omega)]
  simp only [Ex.cells]
  have n1 : bEq op opNum = (op.data.toList == (#[110, 117, 109, 98, 101, 114] : Array UInt8).toList) := rfl
  have n2 : bEq op opFlu = (op.data.toList == (#[102, 108, 117, 101, 110, 116] : Array UInt8).toList) := rfl
  have n3 : bEq op opPls = (op.data.toList == (#[43] : Array UInt8).toList) := rfl
  have n4 : bEq op opMin = (op.data.toList == (#[45] : Array UInt8).toList) := rfl
  have n5 : bEq op opTim = (op.data.toList == (#[42] : Array UInt8).toList) := rfl
  have n6 : emptyB name = (name.data.toList == (#[] : Array UInt8).toList) := rfl
  have n7 : decide (v = 0) = (v == 0) := by by_cases h0 : v = 0 <;> simp [h0]
  have n8 : inNum v = (decide (v ≥ -1099511627776) && decide (v ≤ 1099511627776)) := rfl
  rw [n1, n2, n3, n4, n5, n6, n7, n8, ← e1, ← e2] at hF
  clear n1 n2 n3 n4 n5 n6 n7 n8 e1 e2
  cases k1 : (op.data.toList == (#[110, 117, 109, 98, 101, 114] : Array UInt8).toList) with
  | true =>
   rw [k1] at hF
   simp only [if_true] at hF
   cases q1 : (name.data.toList == (#[] : Array UInt8).toList) with
   | false =>
    rw [q1] at hF
    simp only [Bool.false_and, Bool.and_false] at hF
    subst hF
    refine pcall_body (ow := fun _ => false) (wf := fun _ => false) Ty.mixed Try.func79 rfl Ty.hb_79 (by rw [Try.ntmps79]; simp) ?_
    rw [Try.ntmps79, Try.results79]
    repeat' (first | refine a_seq fun K hK => ?_ | (refine a_regionS ?_; simp only [Ty.w, simprocAttr, k1, q1]) | (refine hK _ _ ?_; clear hK; try simp only [pst0, simprocAttr]))
    refine owp_useH (hT) (by (try simp only [Ty.w, simprocAttr, k1, q1, Bool.not_true]); try rfl) ?_; simp only [Ty.w, simprocAttr, k1, q1, Bool.not_true]
    repeat' (first | refine a_seq fun K hK => ?_ | ((first | refine a_regionS ?_ | refine a_ret ?_); simp only [Ty.w, simprocAttr, k1, q1, hlA, hlK, Bool.not_true]) | (refine a_skip ?_; try simp only [pst0, simprocAttr]) | (refine a_cond _ (by (try simp only [Ty.w, simprocAttr, k1, q1, hlA, hlK, Bool.not_true]); rfl) (fun hb => ?_) (fun hb => ?_) <;> (try simp only [hb0, decide_eq_true_eq, decide_eq_false_iff_not, simprocAttr] at hb) <;> (try (exfalso; omega))) | (refine hK _ _ ?_; clear hK; try simp only [pst0, simprocAttr]))
   | true =>
    rw [q1] at hF
    cases q2 : ((args.length : Int) == 0) with
    | false =>
     rw [q2] at hF
     simp only [Bool.false_and, Bool.and_false] at hF
     subst hF
     refine pcall_body (ow := fun _ => false) (wf := fun _ => false) Ty.mixed Try.func79 rfl Ty.hb_79 (by rw [Try.ntmps79]; simp) ?_
     rw [Try.ntmps79, Try.results79]
     repeat' (first | refine a_seq fun K hK => ?_ | (refine a_regionS ?_; simp only [Ty.w, simprocAttr, k1, q1, q2]) | (refine hK _ _ ?_; clear hK; try simp only [pst0, simprocAttr]))
     refine owp_useH (hT) (by (try simp only [Ty.w, simprocAttr, k1, q1, q2, Bool.not_true]); try rfl) ?_; simp only [Ty.w, simprocAttr, k1, q1, q2, Bool.not_true]
     repeat' (first | refine a_seq fun K hK => ?_ | ((first | refine a_regionS ?_ | refine a_ret ?_); simp only [Ty.w, simprocAttr, k1, q1, q2, hlA, hlK, Bool.not_true]) | (refine a_skip ?_; try simp only [pst0, simprocAttr]) | (refine a_cond _ (by (try simp only [Ty.w, simprocAttr, k1, q1, q2, hlA, hlK, Bool.not_true]); rfl) (fun hb => ?_) (fun hb => ?_) <;> (try simp only [hb0, decide_eq_true_eq, decide_eq_false_iff_not, simprocAttr] at hb) <;> (try (exfalso; omega))) | (refine hK _ _ ?_; clear hK; try simp only [pst0, simprocAttr]))
    | true =>
     rw [q2] at hF
     cases q3 : ((kids.length : Int) == 0) with
     | false =>
      rw [q3] at hF
      simp only [Bool.false_and, Bool.and_false] at hF
      subst hF
      refine pcall_body (ow := fun _ => false) (wf := fun _ => false) Ty.mixed Try.func79 rfl Ty.hb_79 (by rw [Try.ntmps79]; simp) ?_
      rw [Try.ntmps79, Try.results79]
      repeat' (first | refine a_seq fun K hK => ?_ | (refine a_regionS ?_; simp only [Ty.w, simprocAttr, k1, q1, q2, q3]) | (refine hK _ _ ?_; clear hK; try simp only [pst0, simprocAttr]))
      refine owp_useH (hT) (by (try simp only [Ty.w, simprocAttr, k1, q1, q2, q3, Bool.not_true]); try rfl) ?_; simp only [Ty.w, simprocAttr, k1, q1, q2, q3, Bool.not_true]
      repeat' (first | refine a_seq fun K hK => ?_ | ((first | refine a_regionS ?_ | refine a_ret ?_); simp only [Ty.w, simprocAttr, k1, q1, q2, q3, hlA, hlK, Bool.not_true]) | (refine a_skip ?_; try simp only [pst0, simprocAttr]) | (refine a_cond _ (by (try simp only [Ty.w, simprocAttr, k1, q1, q2, q3, hlA, hlK, Bool.not_true]); rfl) (fun hb => ?_) (fun hb => ?_) <;> (try simp only [hb0, decide_eq_true_eq, decide_eq_false_iff_not, simprocAttr] at hb) <;> (try (exfalso; omega))) | (refine hK _ _ ?_; clear hK; try simp only [pst0, simprocAttr]))
     | true =>
      rw [q3] at hF
      cases q4 : decide (v ≥ -1099511627776) with
      | false =>
       rw [q4] at hF
       simp only [Bool.false_and, Bool.and_false] at hF
       subst hF
       refine pcall_body (ow := fun _ => false) (wf := fun _ => false) Ty.mixed Try.func79 rfl Ty.hb_79 (by rw [Try.ntmps79]; simp) ?_
       rw [Try.ntmps79, Try.results79]
       repeat' (first | refine a_seq fun K hK => ?_ | (refine a_regionS ?_; simp only [Ty.w, simprocAttr, k1, q1, q2, q3, q4]) | (refine hK _ _ ?_; clear hK; try simp only [pst0, simprocAttr]))
       refine owp_useH (hT) (by (try simp only [Ty.w, simprocAttr, k1, q1, q2, q3, q4, Bool.not_true]); try rfl) ?_; simp only [Ty.w, simprocAttr, k1, q1, q2, q3, q4, Bool.not_true]
       repeat' (first | refine a_seq fun K hK => ?_ | ((first | refine a_regionS ?_ | refine a_ret ?_); simp only [Ty.w, simprocAttr, k1, q1, q2, q3, q4, hlA, hlK, Bool.not_true]) | (refine a_skip ?_; try simp only [pst0, simprocAttr]) | (refine a_cond _ (by (try simp only [Ty.w, simprocAttr, k1, q1, q2, q3, q4, hlA, hlK, Bool.not_true]); rfl) (fun hb => ?_) (fun hb => ?_) <;> (try simp only [hb0, decide_eq_true_eq, decide_eq_false_iff_not, simprocAttr] at hb) <;> (try (exfalso; omega))) | (refine hK _ _ ?_; clear hK; try simp only [pst0, simprocAttr]))
      | true =>
       rw [q4] at hF
       simp only [Bool.true_and] at hF
       subst hF
       refine pcall_body (ow := fun _ => false) (wf := fun _ => false) Ty.mixed Try.func79 rfl Ty.hb_79 (by rw [Try.ntmps79]; simp) ?_
       rw [Try.ntmps79, Try.results79]
       repeat' (first | refine a_seq fun K hK => ?_ | (refine a_regionS ?_; simp only [Ty.w, simprocAttr, k1, q1, q2, q3, q4]) | (refine hK _ _ ?_; clear hK; try simp only [pst0, simprocAttr]))
       refine owp_useH (hT) (by (try simp only [Ty.w, simprocAttr, k1, q1, q2, q3, q4, Bool.not_true]); try rfl) ?_; simp only [Ty.w, simprocAttr, k1, q1, q2, q3, q4, Bool.not_true]
       repeat' (first | refine a_seq fun K hK => ?_ | ((first | refine a_regionS ?_ | refine a_ret ?_); simp only [Ty.w, simprocAttr, k1, q1, q2, q3, q4, hlA, hlK, Bool.not_true]) | (refine a_skip ?_; try simp only [pst0, simprocAttr]) | (refine a_cond _ (by (try simp only [Ty.w, simprocAttr, k1, q1, q2, q3, q4, hlA, hlK, Bool.not_true]); rfl) (fun hb => ?_) (fun hb => ?_) <;> (try simp only [hb0, decide_eq_true_eq, decide_eq_false_iff_not, simprocAttr] at hb) <;> (try (exfalso; omega))) | (refine hK _ _ ?_; clear hK; try simp only [pst0, simprocAttr]))
  | false =>
   rw [k1] at hF
   simp only [Bool.false_eq_true, if_false] at hF
   cases k2 : (op.data.toList == (#[102, 108, 117, 101, 110, 116] : Array UInt8).toList) with
   | true =>
    rw [k2] at hF
    simp only [if_true] at hF
    have hfc : ∀ s ∈ args, ∀ h : Heap, PCall Try.prog 124 [sPV s] h fun r h' => r = .sc (.bool (!termB s)) ∧ h' = h := fun s hs h => fclosure1_c (hargs s hs)
    cases q1 : (v == 0) with
    | false =>
     rw [q1] at hF
     simp only [Bool.false_and, Bool.and_false] at hF
     subst hF
     refine pcall_body (ow := fun _ => false) (wf := fun _ => false) Ty.mixed Try.func79 rfl Ty.hb_79 (by rw [Try.ntmps79]; simp) ?_
     rw [Try.ntmps79, Try.results79]
     repeat' (first | refine a_seq fun K hK => ?_ | (refine a_regionS ?_; simp only [Ty.w, simprocAttr, k1, k2, q1]) | (refine hK _ _ ?_; clear hK; try simp only [pst0, simprocAttr]))
     refine owp_useH (hT) (by (try simp only [Ty.w, simprocAttr, k1, k2, q1, Bool.not_true]); try rfl) ?_; simp only [Ty.w, simprocAttr, k1, k2, q1, Bool.not_true]
     repeat' (first | refine a_seq fun K hK => ?_ | ((first | refine a_regionS ?_ | refine a_ret ?_); simp only [Ty.w, simprocAttr, k1, k2, q1, hlA, hlK, Bool.not_true]) | (refine a_skip ?_; try simp only [pst0, simprocAttr]) | (refine a_cond _ (by (try simp only [Ty.w, simprocAttr, k1, k2, q1, hlA, hlK, Bool.not_true]); rfl) (fun hb => ?_) (fun hb => ?_) <;> (try simp only [hb0, decide_eq_true_eq, decide_eq_false_iff_not, simprocAttr] at hb) <;> (try (exfalso; omega))) | (refine hK _ _ ?_; clear hK; try simp only [pst0, simprocAttr]))
    | true =>
     rw [q1] at hF
     cases q2 : ((kids.length : Int) == 0) with
     | false =>
      rw [q2] at hF
      simp only [Bool.false_and, Bool.and_false] at hF
      subst hF
      refine pcall_body (ow := fun _ => false) (wf := fun _ => false) Ty.mixed Try.func79 rfl Ty.hb_79 (by rw [Try.ntmps79]; simp) ?_
      rw [Try.ntmps79, Try.results79]
      repeat' (first | refine a_seq fun K hK => ?_ | (refine a_regionS ?_; simp only [Ty.w, simprocAttr, k1, k2, q1, q2]) | (refine hK _ _ ?_; clear hK; try simp only [pst0, simprocAttr]))
      refine owp_useH (hT) (by (try simp only [Ty.w, simprocAttr, k1, k2, q1, q2, Bool.not_true]); try rfl) ?_; simp only [Ty.w, simprocAttr, k1, k2, q1, q2, Bool.not_true]
      repeat' (first | refine a_seq fun K hK => ?_ | ((first | refine a_regionS ?_ | refine a_ret ?_); simp only [Ty.w, simprocAttr, k1, k2, q1, q2, hlA, hlK, Bool.not_true]) | (refine a_skip ?_; try simp only [pst0, simprocAttr]) | (refine a_cond _ (by (try simp only [Ty.w, simprocAttr, k1, k2, q1, q2, hlA, hlK, Bool.not_true]); rfl) (fun hb => ?_) (fun hb => ?_) <;> (try simp only [hb0, decide_eq_true_eq, decide_eq_false_iff_not, simprocAttr] at hb) <;> (try (exfalso; omega))) | (refine hK _ _ ?_; clear hK; try simp only [pst0, simprocAttr]))
     | true =>
      rw [q2] at hF
      cases q3 : nameB name with
      | false =>
       rw [q3] at hF
       simp only [Bool.false_and, Bool.and_false] at hF
       subst hF
       refine pcall_body (ow := fun _ => false) (wf := fun _ => false) Ty.mixed Try.func79 rfl Ty.hb_79 (by rw [Try.ntmps79]; simp) ?_
       rw [Try.ntmps79, Try.results79]
       have W := And.intro k1 (And.intro k2 (And.intro q1 (And.intro q2 (And.intro q3 hlK))))
       repeat' (first | refine a_seq fun K hK => ?_ | (refine a_regionS ?_; simp only [Ty.w, simprocAttr, W]) | (refine hK _ _ ?_; clear hK; try simp only [pst0, simprocAttr]))
       refine owp_useH (hT) (by (try simp only [Ty.w, simprocAttr, W, Bool.not_true]); try rfl) ?_; simp only [Ty.w, simprocAttr, W, Bool.not_true]
       repeat' (first | refine a_seq fun K hK => ?_ | (refine a_regionS ?_; simp only [Ty.w, simprocAttr, W, hlA, Bool.not_true]) | (refine a_skip ?_; try simp only [pst0, simprocAttr]) | (refine a_cond _ (by (try simp only [Ty.w, simprocAttr, W, hlA, Bool.not_true]); rfl) (fun hb => ?_) (fun hb => ?_) <;> (try simp only [hb0, decide_eq_true_eq, decide_eq_false_iff_not, simprocAttr] at hb) <;> (try (exfalso; omega))) | (refine hK _ _ ?_; clear hK; try simp only [pst0, simprocAttr]))
       refine owp_useQ (fname_c (s := name) hnm') (by (try simp only [Ty.w, simprocAttr, W]); try rfl) ?_; simp only [Ty.w, simprocAttr, W]
       repeat' (first | (refine a_ret ?_; simp only [Ty.w, simprocAttr, W]) | (refine hK _ _ ?_; clear hK; try simp only [pst0, simprocAttr]))
      | true =>
       rw [q3] at hF
       simp only [Bool.true_and] at hF
       subst hF
       refine pcall_body (ow := fun _ => false) (wf := fun _ => false) Ty.mixed Try.func79 rfl Ty.hb_79 (by rw [Try.ntmps79]; simp) ?_
       rw [Try.ntmps79, Try.results79]
       have W := And.intro k1 (And.intro k2 (And.intro q1 (And.intro q2 (And.intro q3 hlK))))
       repeat' (first | refine a_seq fun K hK => ?_ | (refine a_regionS ?_; simp only [Ty.w, simprocAttr, W]) | (refine hK _ _ ?_; clear hK; try simp only [pst0, simprocAttr]))
       refine owp_useH (hT) (by (try simp only [Ty.w, simprocAttr, W, Bool.not_true]); try rfl) ?_; simp only [Ty.w, simprocAttr, W, Bool.not_true]
       repeat' (first | refine a_seq fun K hK => ?_ | (refine a_regionS ?_; simp only [Ty.w, simprocAttr, W, hlA, Bool.not_true]) | (refine a_skip ?_; try simp only [pst0, simprocAttr]) | (refine a_cond _ (by (try simp only [Ty.w, simprocAttr, W, hlA, Bool.not_true]); rfl) (fun hb => ?_) (fun hb => ?_) <;> (try simp only [hb0, decide_eq_true_eq, decide_eq_false_iff_not, simprocAttr] at hb) <;> (try (exfalso; omega))) | (refine hK _ _ ?_; clear hK; try simp only [pst0, simprocAttr]))
       refine owp_useQ (fname_c (s := name) hnm') (by (try simp only [Ty.w, simprocAttr, W]); try rfl) ?_; simp only [Ty.w, simprocAttr, W]
       skip
       refine owp_useQ (containsFunc_c hal hfc) (by (try simp only [Ty.w, simprocAttr, W]); try rfl) ?_; simp only [Ty.w, simprocAttr, W]
       repeat' (first | (refine a_ret ?_; simp only [Ty.w, simprocAttr, W, Bool.not_not]) | (refine hK _ _ ?_; clear hK; try simp only [pst0, simprocAttr]))
   | false =>
    rw [k2] at hF
    simp only [Bool.false_eq_true, if_false] at hF
    generalize hk3 : (op.data.toList == (#[43] : Array UInt8).toList) = b3 at hF
    generalize hk4 : (op.data.toList == (#[45] : Array UInt8).toList) = b4 at hF
    generalize hk5 : (op.data.toList == (#[42] : Array UInt8).toList) = b5 at hF
    refine pcall_body (ow := fun _ => false) (wf := fun _ => false) Ty.mixed Try.func79 rfl Ty.hb_79 (by rw [Try.ntmps79]; simp) ?_
    rw [Try.ntmps79, Try.results79]
    repeat' (first | refine a_seq fun K hK => ?_ | (refine a_regionS ?_; simp only [Ty.w, simprocAttr, k1, k2]) | (refine hK _ _ ?_; clear hK; try simp only [pst0, simprocAttr]))
    refine owp_useH (hT) (by (try simp only [Ty.w, simprocAttr, k1, k2, Bool.not_true]); try rfl) ?_; simp only [Ty.w, simprocAttr, k1, k2, Bool.not_true]
    iterate 15 (first | refine a_seq fun K hK => ?_ | (refine a_regionS ?_; simp only [Ty.w, simprocAttr, k1, k2, Bool.not_true]) | (refine a_skip ?_; try simp only [pst0, simprocAttr]) | (refine a_cond _ (by (try simp only [Ty.w, simprocAttr, k1, k2, Bool.not_true]); rfl) (fun hb => ?_) (fun hb => ?_) <;> (try simp only [hb0, decide_eq_true_eq, decide_eq_false_iff_not, simprocAttr] at hb) <;> (try (exfalso; omega))) | (refine hK _ _ ?_; clear hK; try simp only [pst0, simprocAttr]))
    refine a_cutK (fun S h' => h' = h.set id (cntO (n + 1)) ∧ S 1 = .sc (.int .i64 d) ∧ S 2 = .ptr id 0 0 ∧ S 3 = .cptr (Ex.mk op name v args kids).cells ∧ S 62 = .sc (.bool (b3 || b4 || b5))) ?_ ?_
    ·clear hF
     cases b3 with
     | true =>
      repeat' (first | refine a_seq fun K hK => ?_ | (refine a_regionS ?_; simp only [Ty.w, simprocAttr, hk3]) | (refine a_skip ?_; try simp only [pst0, simprocAttr]) | (refine a_cond _ (by (try simp only [Ty.w, simprocAttr, hk3]); rfl) (fun hb => ?_) (fun hb => ?_) <;> (try simp only [hb0, decide_eq_true_eq, decide_eq_false_iff_not, simprocAttr] at hb) <;> (try (exfalso; omega))) | (refine hK _ _ ?_; clear hK; try simp only [pst0, simprocAttr]))
      all_goals (simp only [Ty.w, simprocAttr, Ex.cells, Bool.true_or, Bool.false_or, and_self])
     | false =>
      cases b4 with
      | true =>
       repeat' (first | refine a_seq fun K hK => ?_ | (refine a_regionS ?_; simp only [Ty.w, simprocAttr, hk3, hk4]) | (refine a_skip ?_; try simp only [pst0, simprocAttr]) | (refine a_cond _ (by (try simp only [Ty.w, simprocAttr, hk3, hk4]); rfl) (fun hb => ?_) (fun hb => ?_) <;> (try simp only [hb0, decide_eq_true_eq, decide_eq_false_iff_not, simprocAttr] at hb) <;> (try (exfalso; omega))) | (refine hK _ _ ?_; clear hK; try simp only [pst0, simprocAttr]))
       all_goals (simp only [Ty.w, simprocAttr, Ex.cells, Bool.true_or, Bool.false_or, and_self])
      | false =>
       repeat' (first | refine a_seq fun K hK => ?_ | (refine a_regionS ?_; simp only [Ty.w, simprocAttr, hk3, hk4, hk5]) | (refine a_cond _ (by (try simp only [Ty.w, simprocAttr, hk3, hk4, hk5]); rfl) (fun hb => ?_) (fun hb => ?_) <;> (try simp only [hb0, decide_eq_true_eq, decide_eq_false_iff_not, simprocAttr] at hb) <;> (try (exfalso; omega))) | (refine hK _ _ ?_; clear hK; try simp only [pst0, simprocAttr]))
       all_goals (simp only [Ty.w, simprocAttr, Ex.cells, Bool.true_or, Bool.false_or, and_self])
    ·generalize (b3 || b4 || b5) = bb at hF ⊢
     rintro S h' ⟨rfl, g1, g2, g3, g62⟩
     refine hK _ _ ?_
     clear hK
     simp only [Ex.cells] at g3
     clear hT
     cases bb with
     | false =>
      simp only [Bool.false_eq_true, if_false] at hF
      subst hF
      repeat' (first | refine a_seq fun K hK => ?_ | ((first | refine a_regionS ?_ | refine a_ret ?_); simp only [Ty.w, simprocAttr, g1, g2, g3, g62]) | (refine a_skip ?_; try simp only [pst0, simprocAttr]) | (refine a_cond _ (by (try simp only [Ty.w, simprocAttr, g1, g2, g3, g62]); rfl) (fun hb => ?_) (fun hb => ?_) <;> (try simp only [hb0, decide_eq_true_eq, decide_eq_false_iff_not, simprocAttr] at hb) <;> (try (exfalso; omega))) | (refine hK _ _ ?_; clear hK; try simp only [pst0, simprocAttr]))
     | true =>
      simp only [if_true] at hF
      cases q1 : (v == 0) with
      | false =>
       rw [q1] at hF
       simp only [Bool.false_and, Bool.and_false, Bool.false_eq_true, if_false] at hF
       subst hF
       repeat' (first | refine a_seq fun K hK => ?_ | ((first | refine a_regionS ?_ | refine a_ret ?_); simp only [Ty.w, simprocAttr, g1, g2, g3, g62, q1, hlA]) | (refine a_cond _ (by (try simp only [Ty.w, simprocAttr, g1, g2, g3, g62, q1, hlA]); rfl) (fun hb => ?_) (fun hb => ?_) <;> (try simp only [hb0, decide_eq_true_eq, decide_eq_false_iff_not, simprocAttr] at hb) <;> (try (exfalso; omega))) | (refine hK _ _ ?_; clear hK; try simp only [pst0, simprocAttr]))
      | true =>
       rw [q1] at hF
       cases q2 : (name.data.toList == (#[] : Array UInt8).toList) with
       | false =>
        rw [q2] at hF
        simp only [Bool.false_and, Bool.and_false, Bool.false_eq_true, if_false] at hF
        subst hF
        repeat' (first | refine a_seq fun K hK => ?_ | ((first | refine a_regionS ?_ | refine a_ret ?_); simp only [Ty.w, simprocAttr, g1, g2, g3, g62, q1, q2, hlA]) | (refine a_cond _ (by (try simp only [Ty.w, simprocAttr, g1, g2, g3, g62, q1, q2, hlA]); rfl) (fun hb => ?_) (fun hb => ?_) <;> (try simp only [hb0, decide_eq_true_eq, decide_eq_false_iff_not, simprocAttr] at hb) <;> (try (exfalso; omega))) | (refine hK _ _ ?_; clear hK; try simp only [pst0, simprocAttr]))
       | true =>
        rw [q2] at hF
        cases q3 : ((args.length : Int) == 0) with
        | false =>
         rw [q3] at hF
         simp only [Bool.false_and, Bool.and_false, Bool.false_eq_true, if_false] at hF
         subst hF
         repeat' (first | refine a_seq fun K hK => ?_ | ((first | refine a_regionS ?_ | refine a_ret ?_); simp only [Ty.w, simprocAttr, g1, g2, g3, g62, q1, q2, q3, hlA]) | (refine a_cond _ (by (try simp only [Ty.w, simprocAttr, g1, g2, g3, g62, q1, q2, q3, hlA]); rfl) (fun hb => ?_) (fun hb => ?_) <;> (try simp only [hb0, decide_eq_true_eq, decide_eq_false_iff_not, simprocAttr] at hb) <;> (try (exfalso; omega))) | (refine hK _ _ ?_; clear hK; try simp only [pst0, simprocAttr]))
        | true =>
         rw [q3] at hF
         simp only [Bool.true_and, if_true] at hF
         cases q4 : ((kids.length : Int) == 2) with
         | false =>
          have hF2 : F = (false, n + 1) := by
           rw [← hF]
           split
           ·simp at q4
           ·rfl
          clear hF
          subst hF2
          repeat' (first | refine a_seq fun K hK => ?_ | ((first | refine a_regionS ?_ | refine a_ret ?_); simp only [Ty.w, simprocAttr, g1, g2, g3, g62, q1, q2, q3, q4, hlA, hlK]) | (refine a_cond _ (by (try simp only [Ty.w, simprocAttr, g1, g2, g3, g62, q1, q2, q3, q4, hlA, hlK]); rfl) (fun hb => ?_) (fun hb => ?_) <;> (try simp only [hb0, decide_eq_true_eq, decide_eq_false_iff_not, simprocAttr] at hb) <;> (try (exfalso; omega))) | (refine hK _ _ ?_; clear hK; try simp only [pst0, simprocAttr]))
         | true =>
          obtain ⟨a, b, rfl⟩ : ∃ a b, kids = [a, b] := by
           match kids, q4 with
           | [], q => simp at q
           | [a], q => simp at q
           | [a, b], _ => exact ⟨a, b, rfl⟩
           | _ :: _ :: _ :: _, q => simp at q; omega
          have ca := ih a (by simp) (hks a (by simp)) (d + 1) (n + 1) (by omega) (by omega) id (h.set id (cntO (n + 1))) (by simp [Heap.set])
          have cb0 := ih b (by simp) (hks b (by simp)) (d + 1)
          have hle := formedM_le a (d + 1) (n + 1)
          have hF3 : F = (match formedM a (d + 1) (n + 1) with | (true, c') => formedM b (d + 1) c' | (false, c') => (false, c')) := hF.symm
          clear hF
          have r0 := Ex.rows_get (l := [a, b]) (i := 0) rfl
          have r1 := Ex.rows_get (l := [a, b]) (i := 1) rfl
          have q5 : (((Ex.rows [a, b]).length : Int) == 2) = true := by rw [Ex.rows_len]; exact q4
          generalize Ex.rows [a, b] = RR at r0 r1 q5 g3
          clear q4
          generalize formedM a (d + 1) (n + 1) = W at ca hle hF3
          obtain ⟨b1, c1⟩ := W
          simp only [set_set, natc] at ca hle hF3
          clear ih hks hlK
          cases b1 with
          | false =>
           simp only at hF3
           subst hF3
           clear cb0
           obtain ⟨aop, aname, an, aargs, akids⟩ := a
           obtain ⟨bop, bname, bn, bargs, bkids⟩ := b
           simp only [Ex.cells] at ca r0 r1
           have W := And.intro g1 (And.intro g2 (And.intro g3 (And.intro g62 (And.intro q1 (And.intro q2 (And.intro q3 (And.intro q5 (And.intro r0 (And.intro r1 (And.intro hlA wd))))))))))
           repeat' (first | refine a_seq fun K hK => ?_ | (refine a_regionS ?_; simp only [Ty.w, simprocAttr, W]) | (refine a_cond _ (by (try simp only [Ty.w, simprocAttr, W]); rfl) (fun hb => ?_) (fun hb => ?_) <;> (try simp only [hb0, decide_eq_true_eq, decide_eq_false_iff_not, simprocAttr] at hb) <;> (try (exfalso; omega))))
           refine owp_useH (ca) (by (try simp only [Ty.w, simprocAttr, W]); try rfl) ?_; simp only [Ty.w, simprocAttr, W]
           repeat' (first | (refine a_ret ?_; simp only [Ty.w, simprocAttr, W]) | (refine hK _ _ ?_; clear hK; try simp only [pst0, simprocAttr]))
          | true =>
           have cb := cb0 c1 (by omega) (hle rfl) id (h.set id (cntO c1)) (by simp [Heap.set])
           simp only at hF3
           rw [← hF3] at cb
           obtain ⟨b2, c2⟩ := F
           simp only [set_set, natc] at cb ⊢
           clear cb0 hF3
           obtain ⟨aop, aname, an, aargs, akids⟩ := a
           obtain ⟨bop, bname, bn, bargs, bkids⟩ := b
           simp only [Ex.cells] at ca cb r0 r1
           have W := And.intro g1 (And.intro g2 (And.intro g3 (And.intro g62 (And.intro q1 (And.intro q2 (And.intro q3 (And.intro q5 (And.intro r0 (And.intro r1 (And.intro hlA wd))))))))))
           repeat' (first | refine a_seq fun K hK => ?_ | (refine a_regionS ?_; simp only [Ty.w, simprocAttr, W]) | (refine a_cond _ (by (try simp only [Ty.w, simprocAttr, W]); rfl) (fun hb => ?_) (fun hb => ?_) <;> (try simp only [hb0, decide_eq_true_eq, decide_eq_false_iff_not, simprocAttr] at hb) <;> (try (exfalso; omega))))
           refine owp_useH (ca) (by (try simp only [Ty.w, simprocAttr, W]); try rfl) ?_; simp only [Ty.w, simprocAttr, W]
           skip
           refine owp_useH (cb) (by (try simp only [Ty.w, simprocAttr, W]); try rfl) ?_; simp only [Ty.w, simprocAttr, W]
           repeat' (first | (refine a_ret ?_; simp only [Ty.w, simprocAttr, W]) | (refine hK _ _ ?_; clear hK; try simp only [pst0, simprocAttr]))
theorem formedM_shaped : ∀ (e : Ex) (d n : Nat), (formedM e d n).1 = true → shapedE e = true := by
 refine Ex.ind ?_
 intro op name v args kids ih d n
 unfold formedM shapedE
 split
 ·split
  ·exact id
  ·split
   ·exact id
   ·split
    ·split
     ·rename_i h0
      rw [h0]
      split
      ·rename_i a b
       have ha := ih a (by simp) (d + 1) (n + 1)
       split
       ·rename_i c' he
        rw [he] at ha
        intro hb
        have := ih b (by simp) (d + 1) c' hb
        simp [ha rfl, this]
       ·simp
      ·simp
     ·simp
    ·simp
 ·simp
end Go.Proofs.Ytjlkapgpjamnkaa
namespace Go.Proofs.Ytjlkapgpjamnkaa
open Go.AM
set_option maxHeartbeats 2000000
set_option maxRecDepth 20000
theorem wordM_ok {s : ByteArray} (h : s.size ≤ bigN) : (wordM s).ok := by
 simp only [wordM, Sx.ok, Sx.oks, List.length_nil]
 exact ⟨by omega, by omega, h, Nat.zero_le _, trivial⟩
theorem listM_ok {l : List Sx} (hl : l.length ≤ bigN) (h : Sx.oks l) : (listM l).ok := by
 simp only [listM, Sx.ok]
 refine ⟨by omega, by omega, by simp [bigN, ByteArray.size], hl, h⟩
theorem wordsM_ok {first : ByteArray} {l : List ByteArray} (h0 : first.size ≤ bigN) (hl : l.length ≤ 1048576) (h : ∀ s ∈ l, s.size ≤ bigN) : (wordsM first l).ok := by
 refine listM_ok (by simp [bigN]; omega) (Sx.oks_iff.2 ?_)
 intro k hk
 simp only [List.map_cons, List.mem_cons, List.mem_map] at hk
 rcases hk with rfl | ⟨s, hs, rfl⟩
 ·exact wordM_ok h0
 ·exact wordM_ok (h s hs)
theorem exW_ok : ∀ e : Ex, e.ok → e.small → (exW e).ok := by
 refine Ex.ind ?_
 intro op name n args kids ih hok hsm
 simp only [Ex.ok] at hok
 simp only [Ex.small] at hsm
 obtain ⟨hop, hname, hn, hargs, hkl, hks⟩ := hok
 rw [Ex.oks_iff] at hks
 have hsk := Ex.smalls_iff.1 hsm.2
 unfold exW
 split
 ·simp only [Sx.ok, Sx.oks, List.length_nil]
  refine ⟨by omega, hn, by simp [bigN, ByteArray.size], by simp, trivial⟩
 ·split
  ·exact wordsM_ok hname hsm.1 hargs.2
  ·split
   ·rename_i a b
    refine listM_ok (by simp [bigN]) ?_
    simp only [Sx.oks]
    exact ⟨wordM_ok hop, ih a (by simp) (hks a (by simp)) (hsk a (by simp)), ih b (by simp) (hks b (by simp)) (hsk b (by simp)), trivial⟩
   ·refine listM_ok (by simp [bigN]) ?_
    simp only [Sx.oks]
    exact ⟨wordM_ok hop, trivial⟩
def errV (n : Int) : PV := .sc (.iface 47 (.int .i64 n))
def zeroSx : Sx := .mk 0 0 0 0 ⟨#[]⟩ []
end Go.Proofs.Ytjlkapgpjamnkaa
namespace Go.AM
mutual
def Sx.nodes : Sx → Nat
 | .mk _ _ _ _ _ kids => Sx.nodess kids + 1
def Sx.nodess : List Sx → Nat
 | [] => 0
 | k :: ks => k.nodes + Sx.nodess ks
end
mutual
theorem Sx.count_eq : ∀ (x : Sx), x.nodes ≤ bigN → x.count = x.nodes
 | .mk _ _ _ _ _ kids, h => by
  simp only [Sx.nodes] at h
  simp only [Sx.count, Sx.nodes]
  have := Sx.counts_eq kids 1 (by omega)
  simp only [Int.natCast_one] at this
  rw [this]; congr 1; omega
theorem Sx.counts_eq : ∀ (l : List Sx) (n : Nat), n + Sx.nodess l ≤ bigN → Sx.counts n l = (n + Sx.nodess l : Nat)
 | [], n, h => by simp [Sx.counts, Sx.nodess]
 | k :: ks, n, h => by
  simp only [Sx.nodess] at h
  simp only [Sx.counts, Sx.nodess]
  rw [Sx.count_eq k (by omega)]
  have hw : IntKind.i64.wrap ((n : Int) + (k.nodes : Int)) = ((n + k.nodes : Nat) : Int) := by unfold bigN at h; rw [wrap64 (by omega) (by omega)]; omega
  rw [hw, Sx.counts_eq ks (n + k.nodes) (by omega)]
  congr 1; omega
end
end Go.AM
namespace Go.Proofs.Ytjlkapgpjamnkaa
open Go.AM
theorem lowB_self (c : UInt8) : lowB c = some c ↔ wB c = true := by
 unfold lowB
 cases hu : upB c with
 | true =>
  have h1 : 65 ≤ c.toNat ∧ c.toNat ≤ 90 := by simpa [upB] using hu
  have hw : wB c = false := by
   have h2 : letB c = false := by simp [letB]; omega
   have h3 : digB c = false := by simp [digB]; omega
   have h4 : signs.contains c = false := by
    rw [signs_c]
    have : ∀ v : Int, v = 45 ∨ v = 95 ∨ v = 63 ∨ v = 58 ∨ v = 60 ∨ v = 62 ∨ v = 61 ∨ v = 43 ∨ v = 42 → ((c.toNat : Int) == v) = false := by
     intro v hv
     rw [beq_eq_false_iff_ne]
     omega
    simp [this]
   simp only [wB, h2, h3, h4, Bool.or_false]
  rw [hw]
  simp only [if_true, Option.some.injEq, Bool.false_eq_true, iff_false]
  intro e
  have := congrArg UInt8.toNat e
  rw [UInt8.toNat_add] at this
  simp at this
  omega
 | false =>
  simp only [Bool.false_eq_true, if_false]
  cases wB c <;> simp
theorem lowL_self : ∀ l : List UInt8, lowL l = some l ↔ l.all wB = true
 | [] => by simp [lowL]
 | c :: l => by
  have h1 := lowB_self c
  have h2 := lowL_self l
  simp only [lowL, List.all_cons, Bool.and_eq_true]
  cases hc : lowB c with
  | none => rw [hc] at h1; simp at h1 ⊢; intro hw; rw [h1] at hw; simp at hw
  | some d =>
   rw [hc] at h1
   cases hl : lowL l with
   | none => rw [hl] at h2; simp at h2 ⊢; intro _; simpa using h2
   | some p =>
    rw [hl] at h2
    simp only [Option.map_some, Option.some.injEq, List.cons.injEq]
    rw [← h1, ← h2]
    simp
theorem word_same (s : ByteArray) : wordB s = wordR s := by
 have hsl : s.data.toList.length = s.size := by rw [Array.length_toList]; try rfl
 have hself := lowL_self s.data.toList
 unfold wordB wordR lowS
 by_cases hc : 0 < s.size ∧ s.size ≤ 32
 ·rw [if_pos hc]
  have d1 : decide (1 ≤ s.size) = true := by simp; omega
  have d2 : decide (s.size ≤ 32) = true := by simp; omega
  rw [d1, d2]
  cases hl : lowL s.data.toList with
  | none =>
   rw [hl] at hself
   have : s.data.toList.all wB = false := by
    cases h : s.data.toList.all wB with
    | false => rfl
    | true => rw [h] at hself; simp at hself
   simp only [this, Bool.false_and]
  | some p =>
   rw [hl] at hself
   cases h : s.data.toList.all wB with
   | true =>
    rw [h] at hself
    have hp : p = s.data.toList := by simpa using hself
    subst hp
    have : (⟨s.data.toList.toArray⟩ : ByteArray) = s := ba_ext rfl
    simp only [this, bEq, beq_self_eq_true, Bool.true_and]
   | false =>
    rw [h] at hself
    have hp : ¬ p = s.data.toList := by simpa using hself
    have : bEq (⟨p.toArray⟩ : ByteArray) s = false := by simp only [bEq, beq_eq_false_iff_ne]; exact hp
    simp only [this, Bool.and_false, Bool.false_and]
 ·rw [if_neg hc]
  have : (decide (1 ≤ s.size) && decide (s.size ≤ 32)) = false := by
   cases h : (decide (1 ≤ s.size) && decide (s.size ≤ 32)) with
   | false => rfl
   | true =>
    simp only [Bool.and_eq_true, decide_eq_true_eq] at h
    exact absurd ⟨by omega, h.2⟩ hc
  simp only [Bool.false_and]
  rw [Bool.and_assoc (s.data.toList.all wB), this]; simp
mutual
theorem svalid_iff : ∀ (x : Sx) (d n : Nat), d ≤ 32 → n ≤ 4096 → ((svalid x d n).1 = true ↔ shapedS x = true ∧ d + x.depth ≤ 32 ∧ n + x.nodes ≤ 4096) ∧ ((svalid x d n).1 = true → (svalid x d n).2 = n + x.nodes)
 | .mk kind value line col text kids, d, n, hd, hn => by
  have e1 : (kids.isEmpty = true) ↔ kids = [] := List.isEmpty_iff
  unfold svalid shapedS
  simp only [Sx.depth, Sx.nodes]
  by_cases h0 : n + 1 > 4096
  ·rw [if_pos h0]
   refine ⟨⟨by simp, fun ⟨_, _, h⟩ => by omega⟩, by simp⟩
  ·rw [if_neg h0]
   by_cases k1 : kind = 1
   ·rw [if_pos k1, if_pos k1, word_same]
    have k3 : ¬ kind = 3 := by omega
    rw [if_neg k3]
    simp only [Bool.and_eq_true, e1, decide_eq_true_eq, beq_iff_eq]
    constructor
    ·constructor
     ·rintro ⟨⟨h1, h2⟩, rfl⟩
      exact ⟨⟨⟨h2, rfl⟩, h1⟩, by simp only [Sx.depths]; omega, by simp only [Sx.nodess]; omega⟩
     ·rintro ⟨⟨⟨h1, h2⟩, h3⟩, _⟩
      exact ⟨⟨h3, h1⟩, h2⟩
    ·rintro ⟨_, rfl⟩; simp [Sx.nodess]
   ·rw [if_neg k1, if_neg k1]
    by_cases k2 : kind = 2
    ·rw [if_pos k2, if_pos k2]
     have k3 : ¬ kind = 3 := by omega
     rw [if_neg k3]
     simp only [Bool.and_eq_true, e1, decide_eq_true_eq, bEq, ge_iff_le]
     constructor
     ·constructor
      ·rintro ⟨⟨⟨h1, rfl⟩, h3⟩, h4⟩
       exact ⟨⟨⟨⟨h1, rfl⟩, h3⟩, h4⟩, by simp only [Sx.depths]; omega, by simp only [Sx.nodess]; omega⟩
      ·rintro ⟨⟨⟨⟨h1, h2⟩, h3⟩, h4⟩, _⟩
       exact ⟨⟨⟨h1, h2⟩, h3⟩, h4⟩
     ·rintro ⟨⟨⟨_, rfl⟩, _⟩, _⟩; simp [Sx.nodess]
    ·rw [if_neg k2, if_neg k2]
     by_cases k3 : kind = 3
     ·rw [if_pos k3, if_pos k3, if_pos k3]
      simp only [Bool.and_eq_true, beq_iff_eq]
      by_cases hc : bEq text ⟨#[]⟩ = true ∧ value = 0 ∧ d ≠ 32
      ·rw [if_pos hc]
       obtain ⟨g1, g2⟩ := svalids_iff kids (d + 1) (n + 1) (by omega) (by omega)
       rw [g1]
       refine ⟨⟨fun ⟨h1, h2, h3⟩ => ⟨⟨h1, by simpa [bEq] using hc.1, hc.2.1⟩, by omega, by omega⟩, fun ⟨⟨h1, _, _⟩, h2, h3⟩ => ⟨h1, by omega, by omega⟩⟩, fun h => ?_⟩
       rw [g2 (g1.2 h)]; omega
      ·rw [if_neg hc]
       refine ⟨⟨by simp, fun ⟨⟨h1, h4, h5⟩, h2, h3⟩ => ?_⟩, by simp⟩
       exact absurd ⟨by simp only [bEq, beq_iff_eq]; exact h4, h5, by omega⟩ hc
     ·rw [if_neg k3, if_neg k3]
      simp
theorem svalids_iff : ∀ (l : List Sx) (d n : Nat), d ≤ 32 → n ≤ 4096 → ((svalids l d n).1 = true ↔ shapedSs l = true ∧ d + Sx.depths 0 l ≤ 32 ∧ n + Sx.nodess l ≤ 4096) ∧ ((svalids l d n).1 = true → (svalids l d n).2 = n + Sx.nodess l)
 | [], d, n, hd, hn => by simp [svalids, shapedSs, Sx.depths, Sx.nodess, hd, hn]
 | k :: ks, d, n, hd, hn => by
  obtain ⟨g1, g2⟩ := svalid_iff k d n hd hn
  have hdm : ∀ (m : Nat) (l : List Sx), Sx.depths m l = max m (Sx.depths 0 l) := by
   intro m l
   induction l generalizing m with
   | nil => simp [Sx.depths]
   | cons k l ih => simp only [Sx.depths]; rw [ih (max m k.depth), ih (max 0 k.depth)]; omega
  simp only [svalids, shapedSs, Sx.depths, Sx.nodess, Bool.and_eq_true]
  rw [hdm]
  cases hb : svalid k d n with
  | mk b n' =>
   rw [hb] at g1 g2
   cases b with
   | false =>
    simp only at g1 ⊢
    refine ⟨⟨by simp, fun ⟨⟨h1, _⟩, h2, h3⟩ => ?_⟩, by simp⟩
    exact absurd (g1.2 ⟨h1, by omega, by omega⟩) (by simp)
   | true =>
    simp only at g1 g2 ⊢
    obtain ⟨a1, a2, a3⟩ := g1.1 trivial
    have e := g2 trivial
    obtain ⟨f1, f2⟩ := svalids_iff ks d n' hd (by omega)
    rw [f1]
    refine ⟨⟨fun ⟨h1, h2, h3⟩ => ⟨⟨a1, h1⟩, by omega, by omega⟩, fun ⟨⟨_, h1⟩, h2, h3⟩ => ⟨h1, by omega, by omega⟩⟩, fun h => ?_⟩
    rw [f2 (f1.2 h)]; omega
end
def rvalidB (x : Sx) : Bool := shapedS x && decide ((x.depth : Int) ≤ 32) && decide (x.count ≤ 4096)
theorem valid_same {x : Sx} (h : x.nodes ≤ bigN) : (svalid x 0 0).1 = rvalidB x := by
 have h1 := (svalid_iff x 0 0 (by omega) (by omega)).1
 unfold rvalidB
 rw [Sx.count_eq x h]
 rw [Bool.eq_iff_iff, h1]
 simp only [Bool.and_eq_true, decide_eq_true_eq]
 constructor
 ·rintro ⟨a, b, c⟩; exact ⟨⟨a, by omega⟩, by omega⟩
 ·rintro ⟨⟨a, b⟩, c⟩; exact ⟨a, by omega, by omega⟩
end Go.Proofs.Ytjlkapgpjamnkaa
namespace Go.Proofs.Ytjlkapgpjamnkaa
open Go.AM
set_option maxHeartbeats 2000000
set_option maxRecDepth 20000
theorem rterm_c {h : Heap} {s : ByteArray} (hs : s.size ≤ bigN) : PCall Try.prog 125 [sPV s] h fun r h' => r = .sc (.bool (termB s)) ∧ h' = h := by
 have hs' : s.size ≤ 9223372036854775807 := by unfold bigN at hs; omega
 cases c1 : nameB s with
 | true =>
  have : termB s = true := by simp [termB, c1]
  refine pcall_body (ow := fun _ => false) (wf := fun _ => false) Ty.mixed Try.func125 rfl Ty.hb_125 (by rw [Try.ntmps125]; simp) ?_
  rw [Try.ntmps125, Try.results125]
  repeat' (first | refine a_seq fun K hK => ?_ | (refine a_block ?_) | ((first | refine a_regionS ?_ | refine a_region (fun K hK => ?_) | refine a_ret ?_); simp only [Ty.w, simprocAttr]) | ((first | refine a_skip ?_ | refine a_exit ?_); try simp only [pst0, simprocAttr]) | (refine a_cond _ (by (try simp only [Ty.w, simprocAttr]); rfl) (fun hb => ?_) (fun hb => ?_) <;> (try simp only [hb0, decide_eq_true_eq, decide_eq_false_iff_not, simprocAttr] at hb) <;> (try (exfalso; omega))) | (with_reducible refine ite_in (fun hb => ?_) (fun hb => ?_) <;> (try simp only [Decidable.not_not] at hb) <;> (try simp only [hb, if_true, if_false, not_false_eq_true, not_true_eq_false, ↓reduceIte]) <;> (try simp only [hb0, decide_eq_true_eq, decide_eq_false_iff_not, simprocAttr] at hb) <;> (try (exfalso; omega))) | ((first | refine hK _ _ ?_ | (clear hK; refine hK _ _ ?_) | (clear hK; clear hK; refine hK _ _ ?_) | (clear hK; clear hK; clear hK; refine hK _ _ ?_)); clear hK; try simp only [pst0, simprocAttr]) | (rw [if_pos]; rotate_left 1; omega; simp only [Ty.w, simprocAttr]))
  refine owp_useQ (rname_c (s := s) hs') (by (try simp only [Ty.w, simprocAttr, c1]); try rfl) ?_; simp only [Ty.w, simprocAttr, c1]
  repeat' (first | refine a_seq fun K hK => ?_ | (refine a_block ?_) | ((first | refine a_regionS ?_ | refine a_region (fun K hK => ?_) | refine a_ret ?_); simp only [Ty.w, simprocAttr, c1]) | ((first | refine a_skip ?_ | refine a_exit ?_); try simp only [pst0, simprocAttr]) | (refine a_cond _ (by (try simp only [Ty.w, simprocAttr, c1]); rfl) (fun hb => ?_) (fun hb => ?_) <;> (try simp only [hb0, decide_eq_true_eq, decide_eq_false_iff_not, simprocAttr] at hb) <;> (try (exfalso; omega))) | (with_reducible refine ite_in (fun hb => ?_) (fun hb => ?_) <;> (try simp only [Decidable.not_not] at hb) <;> (try simp only [hb, if_true, if_false, not_false_eq_true, not_true_eq_false, ↓reduceIte]) <;> (try simp only [hb0, decide_eq_true_eq, decide_eq_false_iff_not, simprocAttr] at hb) <;> (try (exfalso; omega))) | ((first | refine hK _ _ ?_ | (clear hK; refine hK _ _ ?_) | (clear hK; clear hK; refine hK _ _ ?_) | (clear hK; clear hK; clear hK; refine hK _ _ ?_)); clear hK; try simp only [pst0, simprocAttr]) | (rw [if_pos]; rotate_left 1; omega; simp only [Ty.w, simprocAttr, c1]))
  rw [this]
 | false =>
  have : termB s = varB s := by simp [termB, c1]
  refine pcall_body (ow := fun _ => false) (wf := fun _ => false) Ty.mixed Try.func125 rfl Ty.hb_125 (by rw [Try.ntmps125]; simp) ?_
  rw [Try.ntmps125, Try.results125]
  repeat' (first | refine a_seq fun K hK => ?_ | (refine a_block ?_) | ((first | refine a_regionS ?_ | refine a_region (fun K hK => ?_) | refine a_ret ?_); simp only [Ty.w, simprocAttr]) | ((first | refine a_skip ?_ | refine a_exit ?_); try simp only [pst0, simprocAttr]) | (refine a_cond _ (by (try simp only [Ty.w, simprocAttr]); rfl) (fun hb => ?_) (fun hb => ?_) <;> (try simp only [hb0, decide_eq_true_eq, decide_eq_false_iff_not, simprocAttr] at hb) <;> (try (exfalso; omega))) | (with_reducible refine ite_in (fun hb => ?_) (fun hb => ?_) <;> (try simp only [Decidable.not_not] at hb) <;> (try simp only [hb, if_true, if_false, not_false_eq_true, not_true_eq_false, ↓reduceIte]) <;> (try simp only [hb0, decide_eq_true_eq, decide_eq_false_iff_not, simprocAttr] at hb) <;> (try (exfalso; omega))) | ((first | refine hK _ _ ?_ | (clear hK; refine hK _ _ ?_) | (clear hK; clear hK; refine hK _ _ ?_) | (clear hK; clear hK; clear hK; refine hK _ _ ?_)); clear hK; try simp only [pst0, simprocAttr]) | (rw [if_pos]; rotate_left 1; omega; simp only [Ty.w, simprocAttr]))
  refine owp_useQ (rname_c (s := s) hs') (by (try simp only [Ty.w, simprocAttr, c1]); try rfl) ?_; simp only [Ty.w, simprocAttr, c1]
  repeat' (first | refine a_seq fun K hK => ?_ | (refine a_block ?_) | ((first | refine a_regionS ?_ | refine a_region (fun K hK => ?_) | refine a_ret ?_); simp only [Ty.w, simprocAttr, c1]) | ((first | refine a_skip ?_ | refine a_exit ?_); try simp only [pst0, simprocAttr]) | (refine a_cond _ (by (try simp only [Ty.w, simprocAttr, c1]); rfl) (fun hb => ?_) (fun hb => ?_) <;> (try simp only [hb0, decide_eq_true_eq, decide_eq_false_iff_not, simprocAttr] at hb) <;> (try (exfalso; omega))) | (with_reducible refine ite_in (fun hb => ?_) (fun hb => ?_) <;> (try simp only [Decidable.not_not] at hb) <;> (try simp only [hb, if_true, if_false, not_false_eq_true, not_true_eq_false, ↓reduceIte]) <;> (try simp only [hb0, decide_eq_true_eq, decide_eq_false_iff_not, simprocAttr] at hb) <;> (try (exfalso; omega))) | ((first | refine hK _ _ ?_ | (clear hK; refine hK _ _ ?_) | (clear hK; clear hK; refine hK _ _ ?_) | (clear hK; clear hK; clear hK; refine hK _ _ ?_)); clear hK; try simp only [pst0, simprocAttr]) | (rw [if_pos]; rotate_left 1; omega; simp only [Ty.w, simprocAttr, c1]))
  refine owp_useQ (rvariable_c (s := s) hs') (by (try simp only [Ty.w, simprocAttr, c1]); try rfl) ?_; simp only [Ty.w, simprocAttr, c1]
  repeat' (first | refine a_seq fun K hK => ?_ | (refine a_block ?_) | ((first | refine a_regionS ?_ | refine a_region (fun K hK => ?_) | refine a_ret ?_); simp only [Ty.w, simprocAttr, c1]) | ((first | refine a_skip ?_ | refine a_exit ?_); try simp only [pst0, simprocAttr]) | (refine a_cond _ (by (try simp only [Ty.w, simprocAttr, c1]); rfl) (fun hb => ?_) (fun hb => ?_) <;> (try simp only [hb0, decide_eq_true_eq, decide_eq_false_iff_not, simprocAttr] at hb) <;> (try (exfalso; omega))) | (with_reducible refine ite_in (fun hb => ?_) (fun hb => ?_) <;> (try simp only [Decidable.not_not] at hb) <;> (try simp only [hb, if_true, if_false, not_false_eq_true, not_true_eq_false, ↓reduceIte]) <;> (try simp only [hb0, decide_eq_true_eq, decide_eq_false_iff_not, simprocAttr] at hb) <;> (try (exfalso; omega))) | ((first | refine hK _ _ ?_ | (clear hK; refine hK _ _ ?_) | (clear hK; clear hK; refine hK _ _ ?_) | (clear hK; clear hK; clear hK; refine hK _ _ ?_)); clear hK; try simp only [pst0, simprocAttr]) | (rw [if_pos]; rotate_left 1; omega; simp only [Ty.w, simprocAttr, c1]))
  rw [this]
theorem rall_c {h : Heap} {l : List ByteArray} (hl : l.length ≤ bigN) (hs : ∀ s ∈ l, s.size ≤ bigN) : PCall Try.prog 80 [.imm 1 (strRows l)] h fun r h' => r = .sc (.bool (l.all termB)) ∧ h' = h := by
 unfold bigN at hl
 have hlen := strRows_len l
 refine pcall_body (ow := fun _ => false) (wf := fun _ => false) Ty.mixed Try.func80 rfl Ty.hb_80 (by rw [Try.ntmps80]; simp) ?_
 rw [Try.ntmps80, Try.results80]
 repeat' (first | refine a_seq fun K hK => ?_ | (refine a_block ?_) | ((first | refine a_regionS ?_ | refine a_region (fun K hK => ?_) | refine a_ret ?_); simp only [Ty.w, simprocAttr, hlen]) | ((first | refine a_skip ?_ | refine a_exit ?_); try simp only [pst0, simprocAttr]) | (refine a_cond _ (by (try simp only [Ty.w, simprocAttr, hlen]); rfl) (fun hb => ?_) (fun hb => ?_) <;> (try simp only [hb0, decide_eq_true_eq, decide_eq_false_iff_not, simprocAttr] at hb) <;> (try (exfalso; omega))) | (with_reducible refine ite_in (fun hb => ?_) (fun hb => ?_) <;> (try simp only [Decidable.not_not] at hb) <;> (try simp only [hb, if_true, if_false, not_false_eq_true, not_true_eq_false, ↓reduceIte]) <;> (try simp only [hb0, decide_eq_true_eq, decide_eq_false_iff_not, simprocAttr] at hb) <;> (try (exfalso; omega))) | ((first | refine hK _ _ ?_ | (clear hK; refine hK _ _ ?_) | (clear hK; clear hK; refine hK _ _ ?_) | (clear hK; clear hK; clear hK; refine hK _ _ ?_)); clear hK; try simp only [pst0, simprocAttr]) | (rw [if_pos]; rotate_left 1; omega; simp only [Ty.w, simprocAttr, hlen]))
 refine a_loop (fun m S h' => h' = h ∧ S 0 = .imm 1 (strRows l) ∧ ∃ k : Nat, S 3 = .sc (.int .i64 k) ∧ k ≤ l.length ∧ m = l.length - k ∧ l.all termB = (l.drop k).all termB) l.length ?_ ?_
 ·simp only [Ty.w, simprocAttr]
  exact ⟨0, rfl, by omega, rfl, by simp⟩
 ·rintro m S h' ⟨rfl, g0, k, g3, hk, rfl, hinv⟩
  by_cases hlt : k < l.length
  ·have hd : decide ((k : Int) < (l.length : Int)) = true := by simp; omega
   have w7 : IntKind.i64.wrap ((k : Int) + 1) = k + 1 := by rw [wrap64 (by omega) (by omega)]
   obtain ⟨w, hx⟩ : ∃ w, l[k]? = some w := ⟨l[k], List.getElem?_eq_getElem hlt⟩
   have hr := strRows_get hx
   have hc := fun h : Heap => rterm_c (h := h) (hs w (List.mem_of_getElem? hx))
   rw [drop_of_get hx, List.all_cons] at hinv
   generalize termB w = b at hc hinv
   cases b with
   | false =>
    rw [Bool.false_and] at hinv
    repeat' (first | refine a_seq fun K hK => ?_ | (refine a_block ?_) | ((first | refine a_regionS ?_ | refine a_region (fun K hK => ?_) | refine a_ret ?_); simp only [Ty.w, simprocAttr, g0, g3, hd, hr]) | ((first | refine a_skip ?_ | refine a_exit ?_); try simp only [pst0, simprocAttr]) | (refine a_cond _ (by (try simp only [Ty.w, simprocAttr, g0, g3, hd, hr]); rfl) (fun hb => ?_) (fun hb => ?_) <;> (try simp only [hb0, decide_eq_true_eq, decide_eq_false_iff_not, simprocAttr] at hb) <;> (try (exfalso; omega))) | (with_reducible refine ite_in (fun hb => ?_) (fun hb => ?_) <;> (try simp only [Decidable.not_not] at hb) <;> (try simp only [hb, if_true, if_false, not_false_eq_true, not_true_eq_false, ↓reduceIte]) <;> (try simp only [hb0, decide_eq_true_eq, decide_eq_false_iff_not, simprocAttr] at hb) <;> (try (exfalso; omega))) | ((first | refine hK _ _ ?_ | (clear hK; refine hK _ _ ?_) | (clear hK; clear hK; refine hK _ _ ?_) | (clear hK; clear hK; clear hK; refine hK _ _ ?_)); clear hK; try simp only [pst0, simprocAttr]) | (rw [if_pos]; rotate_left 1; omega; simp only [Ty.w, simprocAttr, g0, g3, hd, hr]))
    refine owp_useQ (hc _) (by (try simp only [Ty.w, simprocAttr, g0, g3, hd, hr, Bool.not_false]); try rfl) ?_; simp only [Ty.w, simprocAttr, g0, g3, hd, hr, Bool.not_false]
    repeat' (first | refine a_seq fun K hK => ?_ | (refine a_block ?_) | ((first | refine a_regionS ?_ | refine a_region (fun K hK => ?_) | refine a_ret ?_); simp only [Ty.w, simprocAttr, g0, g3, Bool.not_false]) | ((first | refine a_skip ?_ | refine a_exit ?_); try simp only [pst0, simprocAttr]) | (refine a_cond _ (by (try simp only [Ty.w, simprocAttr, g0, g3, Bool.not_false]); rfl) (fun hb => ?_) (fun hb => ?_) <;> (try simp only [hb0, decide_eq_true_eq, decide_eq_false_iff_not, simprocAttr] at hb) <;> (try (exfalso; omega))) | (with_reducible refine ite_in (fun hb => ?_) (fun hb => ?_) <;> (try simp only [Decidable.not_not] at hb) <;> (try simp only [hb, if_true, if_false, not_false_eq_true, not_true_eq_false, ↓reduceIte]) <;> (try simp only [hb0, decide_eq_true_eq, decide_eq_false_iff_not, simprocAttr] at hb) <;> (try (exfalso; omega))) | ((first | refine hK _ _ ?_ | (clear hK; refine hK _ _ ?_) | (clear hK; clear hK; refine hK _ _ ?_) | (clear hK; clear hK; clear hK; refine hK _ _ ?_)); clear hK; try simp only [pst0, simprocAttr]) | (rw [if_pos]; rotate_left 1; omega; simp only [Ty.w, simprocAttr, g0, g3, Bool.not_false]))
    rw [hinv]
   | true =>
    rw [Bool.true_and] at hinv
    repeat' (first | refine a_seq fun K hK => ?_ | (refine a_block ?_) | ((first | refine a_regionS ?_ | refine a_region (fun K hK => ?_) | refine a_ret ?_); simp only [Ty.w, simprocAttr, g0, g3, hd, hr]) | ((first | refine a_skip ?_ | refine a_exit ?_); try simp only [pst0, simprocAttr]) | (refine a_cond _ (by (try simp only [Ty.w, simprocAttr, g0, g3, hd, hr]); rfl) (fun hb => ?_) (fun hb => ?_) <;> (try simp only [hb0, decide_eq_true_eq, decide_eq_false_iff_not, simprocAttr] at hb) <;> (try (exfalso; omega))) | (with_reducible refine ite_in (fun hb => ?_) (fun hb => ?_) <;> (try simp only [Decidable.not_not] at hb) <;> (try simp only [hb, if_true, if_false, not_false_eq_true, not_true_eq_false, ↓reduceIte]) <;> (try simp only [hb0, decide_eq_true_eq, decide_eq_false_iff_not, simprocAttr] at hb) <;> (try (exfalso; omega))) | ((first | refine hK _ _ ?_ | (clear hK; refine hK _ _ ?_) | (clear hK; clear hK; refine hK _ _ ?_) | (clear hK; clear hK; clear hK; refine hK _ _ ?_)); clear hK; try simp only [pst0, simprocAttr]) | (rw [if_pos]; rotate_left 1; omega; simp only [Ty.w, simprocAttr, g0, g3, hd, hr]))
    refine owp_useQ (hc _) (by (try simp only [Ty.w, simprocAttr, g0, g3, hd, hr, Bool.not_true]); try rfl) ?_; simp only [Ty.w, simprocAttr, g0, g3, hd, hr, Bool.not_true]
    repeat' (first | refine a_seq fun K hK => ?_ | (refine a_block ?_) | ((first | refine a_regionS ?_ | refine a_region (fun K hK => ?_) | refine a_ret ?_); simp only [Ty.w, simprocAttr, g0, g3, w7, Bool.not_true]) | ((first | refine a_skip ?_ | refine a_exit ?_); try simp only [pst0, simprocAttr]) | (refine a_cond _ (by (try simp only [Ty.w, simprocAttr, g0, g3, w7, Bool.not_true]); rfl) (fun hb => ?_) (fun hb => ?_) <;> (try simp only [hb0, decide_eq_true_eq, decide_eq_false_iff_not, simprocAttr] at hb) <;> (try (exfalso; omega))) | (with_reducible refine ite_in (fun hb => ?_) (fun hb => ?_) <;> (try simp only [Decidable.not_not] at hb) <;> (try simp only [hb, if_true, if_false, not_false_eq_true, not_true_eq_false, ↓reduceIte]) <;> (try simp only [hb0, decide_eq_true_eq, decide_eq_false_iff_not, simprocAttr] at hb) <;> (try (exfalso; omega))) | ((first | refine hK _ _ ?_ | (clear hK; refine hK _ _ ?_) | (clear hK; clear hK; refine hK _ _ ?_) | (clear hK; clear hK; clear hK; refine hK _ _ ?_)); clear hK; try simp only [pst0, simprocAttr]) | (rw [if_pos]; rotate_left 1; omega; simp only [Ty.w, simprocAttr, g0, g3, w7, Bool.not_true]))
    exact ⟨l.length - (k + 1), by omega, k + 1, by simp, by omega, rfl, hinv⟩
  ·have hd : decide ((k : Int) < (l.length : Int)) = false := by simp; omega
   rw [List.drop_eq_nil_of_le (by omega)] at hinv
   repeat' (first | refine a_seq fun K hK => ?_ | (refine a_block ?_) | ((first | refine a_regionS ?_ | refine a_region (fun K hK => ?_) | refine a_ret ?_); simp only [Ty.w, simprocAttr, g0, g3, hlen, hd]) | ((first | refine a_skip ?_ | refine a_exit ?_); try simp only [pst0, simprocAttr]) | (refine a_cond _ (by (try simp only [Ty.w, simprocAttr, g0, g3, hlen, hd]); rfl) (fun hb => ?_) (fun hb => ?_) <;> (try simp only [hb0, decide_eq_true_eq, decide_eq_false_iff_not, simprocAttr] at hb) <;> (try (exfalso; omega))) | (with_reducible refine ite_in (fun hb => ?_) (fun hb => ?_) <;> (try simp only [Decidable.not_not] at hb) <;> (try simp only [hb, if_true, if_false, not_false_eq_true, not_true_eq_false, ↓reduceIte]) <;> (try simp only [hb0, decide_eq_true_eq, decide_eq_false_iff_not, simprocAttr] at hb) <;> (try (exfalso; omega))) | ((first | refine hK _ _ ?_ | (clear hK; refine hK _ _ ?_) | (clear hK; clear hK; refine hK _ _ ?_) | (clear hK; clear hK; clear hK; refine hK _ _ ?_)); clear hK; try simp only [pst0, simprocAttr]) | (rw [if_pos]; rotate_left 1; omega; simp only [Ty.w, simprocAttr, g0, g3, hlen, hd]))
   rw [hinv]; try rfl
theorem rwd_c {h : Heap} {s : ByteArray} : PCall Try.prog 71 [sPV s] h fun r h' => r = .agg (wordM s).cells ∧ h' = h := by
 refine PCall.frz Ty.hb_71 ?_
 refine pcall_body (ow := fun _ => false) (wf := fun _ => false) Ty.mixed Try.func71 rfl Ty.hb_71 (by rw [Try.ntmps71]; simp) ?_
 rw [Try.ntmps71, Try.results71]
 repeat' (first | refine a_seq fun K hK => ?_ | (refine a_block ?_) | ((first | refine a_regionS ?_ | refine a_region (fun K hK => ?_) | refine a_ret ?_); simp only [Ty.w, simprocAttr]) | ((first | refine a_skip ?_ | refine a_exit ?_); try simp only [pst0, simprocAttr]) | (refine a_cond _ (by (try simp only [Ty.w, simprocAttr]); rfl) (fun hb => ?_) (fun hb => ?_) <;> (try simp only [hb0, decide_eq_true_eq, decide_eq_false_iff_not, simprocAttr] at hb) <;> (try (exfalso; omega))) | (with_reducible refine ite_in (fun hb => ?_) (fun hb => ?_) <;> (try simp only [Decidable.not_not] at hb) <;> (try simp only [hb, if_true, if_false, not_false_eq_true, not_true_eq_false, ↓reduceIte]) <;> (try simp only [hb0, decide_eq_true_eq, decide_eq_false_iff_not, simprocAttr] at hb) <;> (try (exfalso; omega))) | ((first | refine hK _ _ ?_ | (clear hK; refine hK _ _ ?_) | (clear hK; clear hK; refine hK _ _ ?_) | (clear hK; clear hK; clear hK; refine hK _ _ ?_)); clear hK; try simp only [pst0, simprocAttr]) | (rw [if_pos]; rotate_left 1; omega; simp only [Ty.w, simprocAttr]))
 refine ⟨?_, ((Grow.refl h).new _).set (Nat.le_refl _) _⟩
 simp only [wordM, Sx.cells, Sx.rows, FrzTo, FrzL]
 exact ⟨_, rfl, rfl, rfl, rfl, rfl, rfl, .inr (.inl ⟨rfl, .inr rfl⟩), trivial⟩
theorem rlist_c {h : Heap} {first : ByteArray} {l : List ByteArray} (hl : l.length ≤ 1048576) : PCall Try.prog 70 [sPV first, .imm 1 (strRows l)] h fun r h' => r = .agg (wordsM first l).cells ∧ h' = h := by
 refine PCall.frz Ty.hb_70 ?_
 have hll := strRows_len l
 have hw : ∀ (s : ByteArray) (h : Heap), PCall Try.prog 71 [sPV s] h fun r h' => r = .agg (wordM s).cells ∧ h' = h := fun s h => rwd_c
 simp only [wordM, Sx.cells, Sx.rows] at hw
 refine pcall_body (ow := fun t => t == 9) (wf := fun _ => false) Ty.mixed Try.func70 rfl Ty.hb_70 (by rw [Try.ntmps70]; simp) ?_
 rw [Try.ntmps70, Try.results70]
 repeat' (first | refine a_seq fun K hK => ?_ | (refine a_block ?_) | ((first | refine a_regionS ?_ | refine a_region (fun K hK => ?_) | refine a_ret ?_); simp only [Ty.w, simprocAttr]) | ((first | refine a_skip ?_ | refine a_exit ?_); try simp only [pst0, simprocAttr]) | (refine a_cond _ (by (try simp only [Ty.w, simprocAttr]); rfl) (fun hb => ?_) (fun hb => ?_) <;> (try simp only [hb0, decide_eq_true_eq, decide_eq_false_iff_not, simprocAttr] at hb) <;> (try (exfalso; omega))) | (with_reducible refine ite_in (fun hb => ?_) (fun hb => ?_) <;> (try simp only [Decidable.not_not] at hb) <;> (try simp only [hb, if_true, if_false, not_false_eq_true, not_true_eq_false, ↓reduceIte]) <;> (try simp only [hb0, decide_eq_true_eq, decide_eq_false_iff_not, simprocAttr] at hb) <;> (try (exfalso; omega))) | ((first | refine hK _ _ ?_ | (clear hK; refine hK _ _ ?_) | (clear hK; clear hK; refine hK _ _ ?_) | (clear hK; clear hK; clear hK; refine hK _ _ ?_)); clear hK; try simp only [pst0, simprocAttr]) | (rw [if_pos]; rotate_left 1; omega; simp only [Ty.w, simprocAttr]))
 refine owp_useQ (hw first _) (by (try simp only [Ty.w, simprocAttr, ]); try rfl) ?_; simp only [Ty.w, simprocAttr, ]
 repeat' (first | refine a_seq fun K hK => ?_ | (refine a_block ?_) | ((first | refine a_regionS ?_ | refine a_region (fun K hK => ?_) | refine a_ret ?_); simp only [Ty.w, simprocAttr, hll]) | ((first | refine a_skip ?_ | refine a_exit ?_); try simp only [pst0, simprocAttr]) | (refine a_cond _ (by (try simp only [Ty.w, simprocAttr, hll]); rfl) (fun hb => ?_) (fun hb => ?_) <;> (try simp only [hb0, decide_eq_true_eq, decide_eq_false_iff_not, simprocAttr] at hb) <;> (try (exfalso; omega))) | (with_reducible refine ite_in (fun hb => ?_) (fun hb => ?_) <;> (try simp only [Decidable.not_not] at hb) <;> (try simp only [hb, if_true, if_false, not_false_eq_true, not_true_eq_false, ↓reduceIte]) <;> (try simp only [hb0, decide_eq_true_eq, decide_eq_false_iff_not, simprocAttr] at hb) <;> (try (exfalso; omega))) | ((first | refine hK _ _ ?_ | (clear hK; refine hK _ _ ?_) | (clear hK; clear hK; refine hK _ _ ?_) | (clear hK; clear hK; clear hK; refine hK _ _ ?_)); clear hK; try simp only [pst0, simprocAttr]) | (rw [if_pos]; rotate_left 1; omega; simp only [Ty.w, simprocAttr, hll]))
 refine a_loop (fun m S h' => S 1 = .imm 1 (strRows l) ∧ S 4 = .ptr h.next 0 0 ∧ ∃ k id : Nat, S 6 = .sc (.int .i64 k) ∧ S 5 = .own id 0 (k + 1) ∧ k ≤ l.length ∧ m = l.length - k ∧ Grow h h' ∧ h.next < id ∧ id < h'.next ∧
  h'.obj h.next = some (.arr 6 [[.sc (.int .i64 0), .sc (.int .i64 0), .sc (.int .i64 0), .sc (.int .i64 0), .sc (.string ⟨#[]⟩), .sc (.slice none 0 0)]]) ∧ h'.obj id = some (.arr 6 (Sx.rows ((first :: l.take k).map wordM)))) l.length ?_ ?_
 ·simp only [Ty.w, simprocAttr]
  have e1 : ¬ h.next = h.next + 1 := by omega
  refine ⟨0, h.next + 1, rfl, rfl, by omega, rfl, ((Grow.refl h).new _).new _, by omega, by simp [Heap.new], ?_, ?_⟩
  ·simp [Heap.new]
  ·simp [Heap.new, wordM, Sx.rows, Sx.cells]
 ·rintro m S h' ⟨g1, g4, k, id, g6, g5, hk, rfl, hg, hlo, hhi, o1, o3⟩
  by_cases hlt : k < l.length
  ·have hd : decide ((k : Int) < (l.length : Int)) = true := by simp; omega
   have w7 : IntKind.i64.wrap ((k : Int) + 1) = k + 1 := by rw [wrap64 (by omega) (by omega)]
   obtain ⟨s, hx⟩ : ∃ s, l[k]? = some s := ⟨_, List.getElem?_eq_getElem hlt⟩
   have hr := strRows_get hx
   have hrl : (Sx.rows ((first :: l.take k).map wordM)).length = k + 1 := by rw [Sx.rows_len]; simp; omega
   generalize hR : Sx.rows ((first :: l.take k).map wordM) = R at o3 hrl
   have htk : List.take (k + 1) R = R := List.take_of_length_le (by omega)
   have hb : (k + 1 + 1) * 72 ≤ 140737488355328 := by omega
   have W := And.intro g1 (And.intro g4 (And.intro g5 (And.intro g6 (And.intro hll (And.intro hd (And.intro hr (And.intro w7 (And.intro o3 (And.intro hrl (And.intro htk hb))))))))))
   repeat' (first | refine a_seq fun K hK => ?_ | (refine a_block ?_) | ((first | refine a_regionS ?_ | refine a_region (fun K hK => ?_) | refine a_ret ?_); simp only [Ty.w, simprocAttr, W]) | ((first | refine a_skip ?_ | refine a_exit ?_); try simp only [pst0, simprocAttr]) | (refine a_cond _ (by (try simp only [Ty.w, simprocAttr, W]); rfl) (fun hb => ?_) (fun hb => ?_) <;> (try simp only [hb0, decide_eq_true_eq, decide_eq_false_iff_not, simprocAttr] at hb) <;> (try (exfalso; omega))) | (with_reducible refine ite_in (fun hb => ?_) (fun hb => ?_) <;> (try simp only [Decidable.not_not] at hb) <;> (try simp only [hb, if_true, if_false, not_false_eq_true, not_true_eq_false, ↓reduceIte]) <;> (try simp only [hb0, decide_eq_true_eq, decide_eq_false_iff_not, simprocAttr] at hb) <;> (try (exfalso; omega))) | ((first | refine hK _ _ ?_ | (clear hK; refine hK _ _ ?_) | (clear hK; clear hK; refine hK _ _ ?_) | (clear hK; clear hK; clear hK; refine hK _ _ ?_)); clear hK; try simp only [pst0, simprocAttr]) | (rw [if_pos]; rotate_left 1; omega; simp only [Ty.w, simprocAttr, W]))
   refine owp_useQ (hw s _) (by (try simp only [Ty.w, simprocAttr, W]); try rfl) ?_; simp only [Ty.w, simprocAttr, W]
   repeat' (first | refine a_seq fun K hK => ?_ | (refine a_block ?_) | ((first | refine a_regionS ?_ | refine a_region (fun K hK => ?_) | refine a_ret ?_); simp only [Ty.w, simprocAttr, W]) | ((first | refine a_skip ?_ | refine a_exit ?_); try simp only [pst0, simprocAttr]) | (refine a_cond _ (by (try simp only [Ty.w, simprocAttr, W]); rfl) (fun hb => ?_) (fun hb => ?_) <;> (try simp only [hb0, decide_eq_true_eq, decide_eq_false_iff_not, simprocAttr] at hb) <;> (try (exfalso; omega))) | (with_reducible refine ite_in (fun hb => ?_) (fun hb => ?_) <;> (try simp only [Decidable.not_not] at hb) <;> (try simp only [hb, if_true, if_false, not_false_eq_true, not_true_eq_false, ↓reduceIte]) <;> (try simp only [hb0, decide_eq_true_eq, decide_eq_false_iff_not, simprocAttr] at hb) <;> (try (exfalso; omega))) | ((first | refine hK _ _ ?_ | (clear hK; refine hK _ _ ?_) | (clear hK; clear hK; refine hK _ _ ?_) | (clear hK; clear hK; clear hK; refine hK _ _ ?_)); clear hK; try simp only [pst0, simprocAttr]) | (rw [if_pos]; rotate_left 1; omega; simp only [Ty.w, simprocAttr, W]))
   refine ⟨l.length - (k + 1), by omega, k + 1, h'.next, by simp, rfl, by omega, rfl, (hg.kill (by omega)).new _, by omega, by simp [Heap.new, Heap.kill], ?_, ?_⟩
   ·have a2 : ¬ h.next = h'.next := by omega
    have a3 : ¬ h.next = id := by omega
    simp only [Heap.new, Heap.kill, a2, a3, if_false]
    exact o1
   ·simp only [Heap.new, Heap.kill, if_true]
    rw [List.take_add_one, hx, ← hR]
    simp only [Sx.rows_map, List.map_cons, List.map_append, List.map_nil, Option.toList_some, List.cons_append, wordM, Sx.cells]
  ·have hd : decide ((k : Int) < (l.length : Int)) = false := by simp; omega
   have hke : k = l.length := by omega
   subst hke
   rw [List.take_length] at o3
   repeat' (first | refine a_seq fun K hK => ?_ | (refine a_block ?_) | ((first | refine a_regionS ?_ | refine a_region (fun K hK => ?_) | refine a_ret ?_); simp only [Ty.w, simprocAttr, g1, g4, g5, g6, hll, hd, o1, o3]) | ((first | refine a_skip ?_ | refine a_exit ?_); try simp only [pst0, simprocAttr]) | (refine a_cond _ (by (try simp only [Ty.w, simprocAttr, g1, g4, g5, g6, hll, hd, o1, o3]); rfl) (fun hb => ?_) (fun hb => ?_) <;> (try simp only [hb0, decide_eq_true_eq, decide_eq_false_iff_not, simprocAttr] at hb) <;> (try (exfalso; omega))) | (with_reducible refine ite_in (fun hb => ?_) (fun hb => ?_) <;> (try simp only [Decidable.not_not] at hb) <;> (try simp only [hb, if_true, if_false, not_false_eq_true, not_true_eq_false, ↓reduceIte]) <;> (try simp only [hb0, decide_eq_true_eq, decide_eq_false_iff_not, simprocAttr] at hb) <;> (try (exfalso; omega))) | ((first | refine hK _ _ ?_ | (clear hK; refine hK _ _ ?_) | (clear hK; clear hK; refine hK _ _ ?_) | (clear hK; clear hK; clear hK; refine hK _ _ ?_)); clear hK; try simp only [pst0, simprocAttr]) | (rw [if_pos]; rotate_left 1; omega; simp only [Ty.w, simprocAttr, g1, g4, g5, g6, hll, hd, o1, o3]))
   refine ⟨?_, hg.set (Nat.le_refl _) _⟩
   simp only [wordsM, listM, Sx.cells, FrzTo, FrzL]
   refine ⟨_, rfl, rfl, rfl, rfl, rfl, rfl, .inr (.inr ⟨id, 0, l.length + 1, Sx.rows ((first :: l).map wordM), rfl, by omega, ?_, ?_, ?_⟩), trivial⟩
   ·simp only [Heap.set]; rw [if_neg (by omega)]; exact o3
   ·rw [Sx.rows_len]; simp
   ·rw [List.drop_zero, List.take_of_length_le (by rw [Sx.rows_len]; simp)]
    exact sxs_frz _ _ _
theorem rwriteE_c : ∀ e : Ex, e.small → shapedE e = true → ∀ h : Heap, PCall Try.prog 43 [.agg e.cells] h fun r h' => r = .agg (exW e).cells ∧ h' = h := by
 refine Ex.ind ?_
 intro op name n args kids ih hsm hsh h
 simp only [Ex.small] at hsm
 obtain ⟨hal, hks⟩ := hsm
 rw [Ex.smalls_iff] at hks
 unfold shapedE at hsh
 unfold exW
 refine PCall.frz Ty.hb_43 ?_
 cases c1 : bEq op opNum with
 | true =>
  have c1' : (op.data.toList == (#[110, 117, 109, 98, 101, 114] : Array UInt8).toList) = true := c1
  simp only [if_true, Ex.cells]
  refine pcall_body (ow := fun _ => false) (wf := fun _ => false) Ty.mixed Try.func43 rfl Ty.hb_43 (by rw [Try.ntmps43]; simp) ?_
  rw [Try.ntmps43, Try.results43]
  repeat' (first | refine a_seq fun K hK => ?_ | (refine a_block ?_) | ((first | refine a_regionS ?_ | refine a_region (fun K hK => ?_) | refine a_ret ?_); simp only [Ty.w, simprocAttr, c1']) | ((first | refine a_skip ?_ | refine a_exit ?_); try simp only [pst0, simprocAttr]) | (refine a_cond _ (by (try simp only [Ty.w, simprocAttr, c1']); rfl) (fun hb => ?_) (fun hb => ?_) <;> (try simp only [hb0, decide_eq_true_eq, decide_eq_false_iff_not, simprocAttr] at hb) <;> (try (exfalso; omega))) | (with_reducible refine ite_in (fun hb => ?_) (fun hb => ?_) <;> (try simp only [Decidable.not_not] at hb) <;> (try simp only [hb, if_true, if_false, not_false_eq_true, not_true_eq_false, ↓reduceIte]) <;> (try simp only [hb0, decide_eq_true_eq, decide_eq_false_iff_not, simprocAttr] at hb) <;> (try (exfalso; omega))) | ((first | refine hK _ _ ?_ | (clear hK; refine hK _ _ ?_) | (clear hK; clear hK; refine hK _ _ ?_) | (clear hK; clear hK; clear hK; refine hK _ _ ?_)); clear hK; try simp only [pst0, simprocAttr]) | (rw [if_pos]; rotate_left 1; omega; simp only [Ty.w, simprocAttr, c1']))
  refine ⟨?_, ((Grow.refl h).new _).set (Nat.le_refl _) _⟩
  simp only [Sx.cells, Sx.rows, FrzTo, FrzL]
  exact ⟨_, rfl, rfl, rfl, rfl, rfl, rfl, .inr (.inl ⟨rfl, .inr rfl⟩), trivial⟩
 | false =>
  have c1' : (op.data.toList == (#[110, 117, 109, 98, 101, 114] : Array UInt8).toList) = false := c1
  rw [c1] at hsh
  simp only [Bool.false_eq_true, if_false] at hsh ⊢
  cases c2 : bEq op opFlu with
  | true =>
   have c2' : (op.data.toList == (#[102, 108, 117, 101, 110, 116] : Array UInt8).toList) = true := c2
   have hw := fun h : Heap => rlist_c (h := h) (first := name) hal
   have hfz := fun (n : Nat) (h : Heap) => sx_frz n h (wordsM name args)
   simp only [if_true, Ex.cells]
   generalize wordsM name args = X at hw hfz
   obtain ⟨ki, va, li, co, te, ks⟩ := X
   simp only [Sx.cells] at hw hfz ⊢
   refine pcall_body (ow := fun _ => false) (wf := fun _ => false) Ty.mixed Try.func43 rfl Ty.hb_43 (by rw [Try.ntmps43]; simp) ?_
   rw [Try.ntmps43, Try.results43]
   repeat' (first | refine a_seq fun K hK => ?_ | (refine a_block ?_) | ((first | refine a_regionS ?_ | refine a_region (fun K hK => ?_) | refine a_ret ?_); simp only [Ty.w, simprocAttr, c1', c2']) | ((first | refine a_skip ?_ | refine a_exit ?_); try simp only [pst0, simprocAttr]) | (refine a_cond _ (by (try simp only [Ty.w, simprocAttr, c1', c2']); rfl) (fun hb => ?_) (fun hb => ?_) <;> (try simp only [hb0, decide_eq_true_eq, decide_eq_false_iff_not, simprocAttr] at hb) <;> (try (exfalso; omega))) | (with_reducible refine ite_in (fun hb => ?_) (fun hb => ?_) <;> (try simp only [Decidable.not_not] at hb) <;> (try simp only [hb, if_true, if_false, not_false_eq_true, not_true_eq_false, ↓reduceIte]) <;> (try simp only [hb0, decide_eq_true_eq, decide_eq_false_iff_not, simprocAttr] at hb) <;> (try (exfalso; omega))) | ((first | refine hK _ _ ?_ | (clear hK; refine hK _ _ ?_) | (clear hK; clear hK; refine hK _ _ ?_) | (clear hK; clear hK; clear hK; refine hK _ _ ?_)); clear hK; try simp only [pst0, simprocAttr]) | (rw [if_pos]; rotate_left 1; omega; simp only [Ty.w, simprocAttr, c1', c2']))
   refine owp_useQ (hw _) (by (try simp only [Ty.w, simprocAttr, c1', c2']); try rfl) ?_; simp only [Ty.w, simprocAttr, c1', c2']
   repeat' (first | refine a_seq fun K hK => ?_ | (refine a_block ?_) | ((first | refine a_regionS ?_ | refine a_region (fun K hK => ?_) | refine a_ret ?_); simp only [Ty.w, simprocAttr]) | ((first | refine a_skip ?_ | refine a_exit ?_); try simp only [pst0, simprocAttr]) | (refine a_cond _ (by (try simp only [Ty.w, simprocAttr]); rfl) (fun hb => ?_) (fun hb => ?_) <;> (try simp only [hb0, decide_eq_true_eq, decide_eq_false_iff_not, simprocAttr] at hb) <;> (try (exfalso; omega))) | (with_reducible refine ite_in (fun hb => ?_) (fun hb => ?_) <;> (try simp only [Decidable.not_not] at hb) <;> (try simp only [hb, if_true, if_false, not_false_eq_true, not_true_eq_false, ↓reduceIte]) <;> (try simp only [hb0, decide_eq_true_eq, decide_eq_false_iff_not, simprocAttr] at hb) <;> (try (exfalso; omega))) | ((first | refine hK _ _ ?_ | (clear hK; refine hK _ _ ?_) | (clear hK; clear hK; refine hK _ _ ?_) | (clear hK; clear hK; clear hK; refine hK _ _ ?_)); clear hK; try simp only [pst0, simprocAttr]) | (rw [if_pos]; rotate_left 1; omega; simp only [Ty.w, simprocAttr]))
   refine ⟨?_, ((Grow.refl h).new _).set (Nat.le_refl _) _⟩
   simp only [FrzTo]
   exact ⟨_, rfl, hfz _ _⟩
  | false =>
   have c2' : (op.data.toList == (#[102, 108, 117, 101, 110, 116] : Array UInt8).toList) = false := c2
   rw [c2] at hsh
   simp only [Bool.false_eq_true, if_false] at hsh ⊢
   split at hsh
   case isFalse => simp at hsh
   simp only [Bool.and_eq_true] at hsh
   obtain ⟨⟨⟨_, _⟩, _⟩, hsh⟩ := hsh
   split at hsh
   case h_2 => simp at hsh
   rename_i a b
   simp only [Bool.and_eq_true] at hsh
   have ca := ih a (by simp) (hks a (by simp)) hsh.1
   have cb := ih b (by simp) (hks b (by simp)) hsh.2
   have hw := fun h : Heap => rwd_c (h := h) (s := op)
   have hfz := fun (n : Nat) (h : Heap) => sx_frz n h (listM [wordM op, exW a, exW b])
   generalize exW a = xa at ca hfz ⊢
   generalize exW b = xb at cb hfz ⊢
   clear ih hks hsh
   obtain ⟨aop, aname, an, aargs, akids⟩ := a
   obtain ⟨bop, bname, bn, bargs, bkids⟩ := b
   obtain ⟨ki, va, li, co, te, ks⟩ := xa
   obtain ⟨ki2, va2, li2, co2, te2, ks2⟩ := xb
   simp only [Ex.cells, Ex.rows, listM, Sx.cells, Sx.rows, wordM] at ca cb hw hfz ⊢
   refine pcall_body (ow := fun _ => false) (wf := fun _ => false) Ty.mixed Try.func43 rfl Ty.hb_43 (by rw [Try.ntmps43]; simp) ?_
   rw [Try.ntmps43, Try.results43]
   repeat' (first | refine a_seq fun K hK => ?_ | (refine a_block ?_) | ((first | refine a_regionS ?_ | refine a_drawS (by decide +kernel) ?_ | refine a_region (fun K hK => ?_) | refine a_draw (by decide +kernel) (fun K hK => ?_) | refine a_ret ?_); simp only [Ty.w, simprocAttr, c1', c2']) | ((first | refine a_skip ?_ | refine a_exit ?_); try simp only [pst0, simprocAttr]) | (refine a_cond _ (by (try simp only [Ty.w, simprocAttr, c1', c2']); rfl) (fun hb => ?_) (fun hb => ?_) <;> (try simp only [hb0, decide_eq_true_eq, decide_eq_false_iff_not, simprocAttr] at hb) <;> (try (exfalso; omega))) | (with_reducible refine ite_in (fun hb => ?_) (fun hb => ?_) <;> (try simp only [Decidable.not_not] at hb) <;> (try simp only [hb, if_true, if_false, not_false_eq_true, not_true_eq_false, ↓reduceIte]) <;> (try simp only [hb0, decide_eq_true_eq, decide_eq_false_iff_not, simprocAttr] at hb) <;> (try (exfalso; omega))) | ((first | refine hK _ _ ?_ | (clear hK; refine hK _ _ ?_) | (clear hK; clear hK; refine hK _ _ ?_) | (clear hK; clear hK; clear hK; refine hK _ _ ?_)); clear hK; try simp only [pst0, simprocAttr]) | ((first | with_reducible refine a_past _ rfl (by decide +kernel) ?_ | (with_reducible refine a_past2 (by simp only [List.forall_mem_cons, Ty.w, simprocAttr, c1', c2']; (repeat' apply And.intro) <;> first | trivial | exact .inl (by decide +kernel)) ?_)); try simp only [Ty.w, simprocAttr, c1', c2']) | (rw [if_pos]; rotate_left 1; omega; simp only [Ty.w, simprocAttr, c1', c2']))
   (first | refine a_dcall0 (hw _) (by (try simp only [Ty.w, simprocAttr, ]); try rfl) ?_ | refine a_dcallA (hw _) (by (try simp only [Ty.w, simprocAttr, ]); try rfl) (by simp only [Ty.w, simprocAttr, ]; try trivial) ?_); simp only [Ty.w, simprocAttr, Option.getD_some, ]
   repeat' (first | refine a_seq fun K hK => ?_ | (refine a_block ?_) | ((first | refine a_regionS ?_ | refine a_drawS (by decide +kernel) ?_ | refine a_region (fun K hK => ?_) | refine a_draw (by decide +kernel) (fun K hK => ?_) | refine a_ret ?_); simp only [Ty.w, simprocAttr]) | ((first | refine a_skip ?_ | refine a_exit ?_); try simp only [pst0, simprocAttr]) | (refine a_cond _ (by (try simp only [Ty.w, simprocAttr]); rfl) (fun hb => ?_) (fun hb => ?_) <;> (try simp only [hb0, decide_eq_true_eq, decide_eq_false_iff_not, simprocAttr] at hb) <;> (try (exfalso; omega))) | (with_reducible refine ite_in (fun hb => ?_) (fun hb => ?_) <;> (try simp only [Decidable.not_not] at hb) <;> (try simp only [hb, if_true, if_false, not_false_eq_true, not_true_eq_false, ↓reduceIte]) <;> (try simp only [hb0, decide_eq_true_eq, decide_eq_false_iff_not, simprocAttr] at hb) <;> (try (exfalso; omega))) | ((first | refine hK _ _ ?_ | (clear hK; refine hK _ _ ?_) | (clear hK; clear hK; refine hK _ _ ?_) | (clear hK; clear hK; clear hK; refine hK _ _ ?_)); clear hK; try simp only [pst0, simprocAttr]) | ((first | with_reducible refine a_past _ rfl (by decide +kernel) ?_ | (with_reducible refine a_past2 (by simp only [List.forall_mem_cons, Ty.w, simprocAttr]; (repeat' apply And.intro) <;> first | trivial | exact .inl (by decide +kernel)) ?_)); try simp only [Ty.w, simprocAttr]) | (rw [if_pos]; rotate_left 1; omega; simp only [Ty.w, simprocAttr]))
   (first | refine a_dcall0 (ca _) (by (try simp only [Ty.w, simprocAttr, ]); try rfl) ?_ | refine a_dcallA (ca _) (by (try simp only [Ty.w, simprocAttr, ]); try rfl) (by simp only [Ty.w, simprocAttr, ]; try trivial) ?_); simp only [Ty.w, simprocAttr, Option.getD_some, ]
   repeat' (first | refine a_seq fun K hK => ?_ | (refine a_block ?_) | ((first | refine a_regionS ?_ | refine a_drawS (by decide +kernel) ?_ | refine a_region (fun K hK => ?_) | refine a_draw (by decide +kernel) (fun K hK => ?_) | refine a_ret ?_); simp only [Ty.w, simprocAttr]) | ((first | refine a_skip ?_ | refine a_exit ?_); try simp only [pst0, simprocAttr]) | (refine a_cond _ (by (try simp only [Ty.w, simprocAttr]); rfl) (fun hb => ?_) (fun hb => ?_) <;> (try simp only [hb0, decide_eq_true_eq, decide_eq_false_iff_not, simprocAttr] at hb) <;> (try (exfalso; omega))) | (with_reducible refine ite_in (fun hb => ?_) (fun hb => ?_) <;> (try simp only [Decidable.not_not] at hb) <;> (try simp only [hb, if_true, if_false, not_false_eq_true, not_true_eq_false, ↓reduceIte]) <;> (try simp only [hb0, decide_eq_true_eq, decide_eq_false_iff_not, simprocAttr] at hb) <;> (try (exfalso; omega))) | ((first | refine hK _ _ ?_ | (clear hK; refine hK _ _ ?_) | (clear hK; clear hK; refine hK _ _ ?_) | (clear hK; clear hK; clear hK; refine hK _ _ ?_)); clear hK; try simp only [pst0, simprocAttr]) | ((first | with_reducible refine a_past _ rfl (by decide +kernel) ?_ | (with_reducible refine a_past2 (by simp only [List.forall_mem_cons, Ty.w, simprocAttr]; (repeat' apply And.intro) <;> first | trivial | exact .inl (by decide +kernel)) ?_)); try simp only [Ty.w, simprocAttr]) | (rw [if_pos]; rotate_left 1; omega; simp only [Ty.w, simprocAttr]))
   (first | refine a_dcall0 (cb _) (by (try simp only [Ty.w, simprocAttr, ]); try rfl) ?_ | refine a_dcallA (cb _) (by (try simp only [Ty.w, simprocAttr, ]); try rfl) (by simp only [Ty.w, simprocAttr, ]; try trivial) ?_); simp only [Ty.w, simprocAttr, Option.getD_some, ]
   repeat' (first | refine a_seq fun K hK => ?_ | (refine a_block ?_) | ((first | refine a_regionS ?_ | refine a_drawS (by decide +kernel) ?_ | refine a_region (fun K hK => ?_) | refine a_draw (by decide +kernel) (fun K hK => ?_) | refine a_ret ?_); simp only [Ty.w, simprocAttr]) | ((first | refine a_skip ?_ | refine a_exit ?_); try simp only [pst0, simprocAttr]) | (refine a_cond _ (by (try simp only [Ty.w, simprocAttr]); rfl) (fun hb => ?_) (fun hb => ?_) <;> (try simp only [hb0, decide_eq_true_eq, decide_eq_false_iff_not, simprocAttr] at hb) <;> (try (exfalso; omega))) | (with_reducible refine ite_in (fun hb => ?_) (fun hb => ?_) <;> (try simp only [Decidable.not_not] at hb) <;> (try simp only [hb, if_true, if_false, not_false_eq_true, not_true_eq_false, ↓reduceIte]) <;> (try simp only [hb0, decide_eq_true_eq, decide_eq_false_iff_not, simprocAttr] at hb) <;> (try (exfalso; omega))) | ((first | refine hK _ _ ?_ | (clear hK; refine hK _ _ ?_) | (clear hK; clear hK; refine hK _ _ ?_) | (clear hK; clear hK; clear hK; refine hK _ _ ?_)); clear hK; try simp only [pst0, simprocAttr]) | ((first | with_reducible refine a_past _ rfl (by decide +kernel) ?_ | (with_reducible refine a_past2 (by simp only [List.forall_mem_cons, Ty.w, simprocAttr]; (repeat' apply And.intro) <;> first | trivial | exact .inl (by decide +kernel)) ?_)); try simp only [Ty.w, simprocAttr]) | (rw [if_pos]; rotate_left 1; omega; simp only [Ty.w, simprocAttr]))
   refine ⟨?_, ((Grow.refl h).new _).set (Nat.le_refl _) _⟩
   simp only [FrzTo]
   exact ⟨_, rfl, hfz _ _⟩
end Go.Proofs.Ytjlkapgpjamnkaa
namespace Go.Proofs.Ytjlkapgpjamnkaa
open Go.AM
set_option maxHeartbeats 8000000
set_option maxRecDepth 20000
def opB (op name : ByteArray) (v : Int) (args : List ByteArray) (kids : List Ex) : Bool :=
 if (op.data.toList == (#[110, 117, 109, 98, 101, 114] : Array UInt8).toList) then decide (v ≥ -1099511627776) && (decide (v ≤ 1099511627776) && ((name.data.toList == (#[] : Array UInt8).toList) && (((args.length : Int) == 0) && ((kids.length : Int) == 0))))
 else if (op.data.toList == (#[102, 108, 117, 101, 110, 116] : Array UInt8).toList) then (v == 0) && (nameB name && (args.all termB && ((kids.length : Int) == 0)))
 else if ((op.data.toList == (#[43] : Array UInt8).toList) || ((op.data.toList == (#[45] : Array UInt8).toList) || (op.data.toList == (#[42] : Array UInt8).toList))) then (v == 0) && ((name.data.toList == (#[] : Array UInt8).toList) && (((args.length : Int) == 0) && ((kids.length : Int) == 2)))
 else false
theorem shapedE_kid {op name : ByteArray} {v : Int} {args : List ByteArray} {kids : List Ex} (h : shapedE (.mk op name v args kids) = true) : ∀ k ∈ kids, shapedE k = true := by
 unfold shapedE at h
 intro k hk
 split at h
 ·simp only [Bool.and_eq_true, List.isEmpty_iff] at h
  rw [h.1.2] at hk; simp at hk
 ·split at h
  ·simp only [Bool.and_eq_true, List.isEmpty_iff] at h
   rw [h.1.1.2] at hk; simp at hk
  ·split at h
   ·simp only [Bool.and_eq_true] at h
    obtain ⟨_, h⟩ := h
    split at h
    ·simp only [Bool.and_eq_true] at h
     simp only [List.mem_cons, List.not_mem_nil, or_false] at hk
     rcases hk with rfl | rfl
     ·exact h.1
     ·exact h.2
    ·simp at h
   ·simp at h
theorem shapedE_op {op name : ByteArray} {v : Int} {args : List ByteArray} {kids : List Ex} (h : ∀ k ∈ kids, shapedE k = true) : shapedE (.mk op name v args kids) = opB op name v args kids := by
 have n1 : bEq op opNum = (op.data.toList == (#[110, 117, 109, 98, 101, 114] : Array UInt8).toList) := rfl
 have n2 : bEq op opFlu = (op.data.toList == (#[102, 108, 117, 101, 110, 116] : Array UInt8).toList) := rfl
 have n3 : bEq op opPls = (op.data.toList == (#[43] : Array UInt8).toList) := rfl
 have n4 : bEq op opMin = (op.data.toList == (#[45] : Array UInt8).toList) := rfl
 have n5 : bEq op opTim = (op.data.toList == (#[42] : Array UInt8).toList) := rfl
 have n6 : emptyB name = (name.data.toList == (#[] : Array UInt8).toList) := rfl
 have n7 : decide (v = 0) = (v == 0) := by by_cases h0 : v = 0 <;> simp [h0]
 have n8 : inNum v = (decide (v ≥ -1099511627776) && decide (v ≤ 1099511627776)) := rfl
 unfold shapedE opB
 rw [n1, n2, n3, n4, n5, n6, n7, n8, ← emp_len args, ← emp_len kids]
 split
 ·generalize decide (v ≥ -1099511627776) = a
  generalize decide (v ≤ 1099511627776) = b
  generalize (name.data.toList == (#[] : Array UInt8).toList) = c
  generalize ((args.length : Int) == 0) = d
  generalize ((kids.length : Int) == 0) = e
  cases a <;> cases b <;> cases c <;> cases d <;> cases e <;> rfl
 ·split
  ·generalize (v == 0) = a
   generalize nameB name = b
   generalize args.all termB = c
   generalize ((kids.length : Int) == 0) = e
   cases a <;> cases b <;> cases c <;> cases e <;> rfl
  ·rw [Bool.or_assoc]
   split
   ·rw [Bool.and_assoc, Bool.and_assoc]
    congr 1
    congr 1
    congr 1
    match kids, h with
    | [], _ => rfl
    | [_], _ => rfl
    | [a, b], h => simp only [h a (by simp), h b (by simp)]; rfl
    | _ :: _ :: _ :: l, _ => simp; omega
   ·rfl
theorem rshapedE_c : ∀ e : Ex, e.ok → ∀ h : Heap, PCall Try.prog 78 [.agg e.cells] h fun r h' => r = .sc (.bool (shapedE e)) ∧ h' = h := by
 refine Ex.ind ?_
 intro op name v args kids ih hok h
 simp only [Ex.ok] at hok
 obtain ⟨_, hnm, _, ⟨hal, hargs⟩, hkl, hks⟩ := hok
 rw [Ex.oks_iff] at hks
 have hnm' : name.size ≤ 9223372036854775807 := by unfold bigN at hnm; omega
 have hlA := strRows_len args
 have hlK := Ex.rows_len kids
 have hkid : ∀ k ∈ kids, shapedE k = false → shapedE (.mk op name v args kids) = false := fun k hk hf => by
  cases hh : shapedE (.mk op name v args kids) with
  | false => rfl
  | true => rw [shapedE_kid hh k hk] at hf; simp at hf
 have hop : (∀ k ∈ kids, shapedE k = true) → shapedE (.mk op name v args kids) = opB op name v args kids := shapedE_op
 generalize shapedE (.mk op name v args kids) = F at hkid hop
 simp only [Ex.cells]
 refine pcall_body (ow := fun _ => false) (wf := fun _ => false) Ty.mixed Try.func78 rfl Ty.hb_78 (by rw [Try.ntmps78]; simp) ?_
 rw [Try.ntmps78, Try.results78]
 repeat' (first | refine a_seq fun K hK => ?_ | (refine a_block ?_) | (refine a_regionS ?_; simp only [Ty.w, simprocAttr, hlK]) | (refine hK _ _ ?_; clear hK; try simp only [pst0, simprocAttr]))
 refine a_loop (fun m S h' => h' = h ∧ S 1 = .cptr (Ex.mk op name v args kids).cells ∧ ∃ k : Nat, S 3 = .sc (.int .i64 k) ∧ k ≤ kids.length ∧ m = kids.length - k ∧ ∀ (i : Nat) (e : Ex), i < k → kids[i]? = some e → shapedE e = true) kids.length ?_ ?_
 ·simp only [Ty.w, simprocAttr]
  exact ⟨rfl, 0, rfl, by omega, rfl, by omega⟩
 ·rintro m S h' ⟨rfl, g1, k, g3, hkk, rfl, hall⟩
  simp only [Ex.cells] at g1
  by_cases hlt : k < kids.length
  ·clear hop
   have hd : decide ((k : Int) < (kids.length : Int)) = true := by simp; omega
   have w7 : IntKind.i64.wrap ((k : Int) + 1) = k + 1 := by unfold bigN at hkl; rw [wrap64 (by omega) (by omega)]
   obtain ⟨e, hx⟩ : ∃ e, kids[k]? = some e := ⟨_, List.getElem?_eq_getElem hlt⟩
   have hmem := List.mem_of_getElem? hx
   have hc := ih e hmem (hks e hmem)
   have hr := Ex.rows_get hx
   have hbad := hkid e hmem
   have hgood : shapedE e = true → ∀ (i : Nat) (e : Ex), i < k + 1 → kids[i]? = some e → shapedE e = true := fun h1 i e2 hi hw => by
    by_cases hik : i = k
    ·subst hik; rw [hx] at hw; simp at hw; rw [← hw]; exact h1
    ·exact hall i e2 (by omega) hw
   generalize shapedE e = b at hc hbad hgood
   clear hkid hall
   obtain ⟨op2, name2, n2, args2, kids2⟩ := e
   simp only [Ex.cells] at hr hc
   cases b with
   | false =>
    have := hbad rfl
    subst this
    repeat' (first | refine a_seq fun K hK => ?_ | (refine a_regionS ?_; simp only [Ty.w, simprocAttr, g1, g3, hlK, hd, hr, w7]) | (refine a_skip ?_; try simp only [pst0, simprocAttr]) | (refine a_cond _ (by (try simp only [Ty.w, simprocAttr, g1, g3, hlK, hd, hr, w7]); rfl) (fun hb => ?_) (fun hb => ?_) <;> (try simp only [hb0, decide_eq_true_eq, decide_eq_false_iff_not, simprocAttr] at hb) <;> (try (exfalso; omega))) | (refine hK _ _ ?_; clear hK; try simp only [pst0, simprocAttr]))
    refine owp_useQ (hc _) (by (try simp only [Ty.w, simprocAttr, g1, g3, hlK, hd, hr, Bool.not_false]); try rfl) ?_; simp only [Ty.w, simprocAttr, g1, g3, hlK, hd, hr, Bool.not_false]
    repeat' (first | refine a_seq fun K hK => ?_ | ((first | refine a_regionS ?_ | refine a_ret ?_); simp only [Ty.w, simprocAttr, g1, g3, w7, Bool.not_false]) | (refine hK _ _ ?_; clear hK; try simp only [pst0, simprocAttr]))
   | true =>
    repeat' (first | refine a_seq fun K hK => ?_ | (refine a_regionS ?_; simp only [Ty.w, simprocAttr, g1, g3, hlK, hd, hr, w7]) | (refine a_skip ?_; try simp only [pst0, simprocAttr]) | (refine a_cond _ (by (try simp only [Ty.w, simprocAttr, g1, g3, hlK, hd, hr, w7]); rfl) (fun hb => ?_) (fun hb => ?_) <;> (try simp only [hb0, decide_eq_true_eq, decide_eq_false_iff_not, simprocAttr] at hb) <;> (try (exfalso; omega))) | (refine hK _ _ ?_; clear hK; try simp only [pst0, simprocAttr]))
    refine owp_useQ (hc _) (by (try simp only [Ty.w, simprocAttr, g1, g3, hlK, hd, hr, Bool.not_true]); try rfl) ?_; simp only [Ty.w, simprocAttr, g1, g3, hlK, hd, hr, Bool.not_true]
    repeat' (first | (refine a_block ?_) | (refine a_regionS ?_; simp only [Ty.w, simprocAttr, g1, g3, w7, Bool.not_true]) | (refine a_skip ?_; try simp only [pst0, simprocAttr]) | (refine hK _ _ ?_; clear hK; try simp only [pst0, simprocAttr]))
    exact ⟨kids.length - (k + 1), by omega, rfl, k + 1, by simp, by omega, rfl, hgood rfl⟩
  ·have hd : decide ((k : Int) < (kids.length : Int)) = false := by simp; omega
   have hF := hop fun e he => by
    obtain ⟨i, hi⟩ := List.getElem?_of_mem he
    exact hall i e (by have := (List.getElem?_eq_some_iff.1 hi).1; omega) hi
   clear hop hall hkid ih
   have hn := fun h : Heap => rname_c (h := h) (s := name) hnm'
   have hA := fun h : Heap => rall_c (h := h) hal hargs
   unfold opB at hF
   cases k1 : (op.data.toList == (#[110, 117, 109, 98, 101, 114] : Array UInt8).toList) with
   | true =>
    rw [k1] at hF
    simp only [if_true] at hF
    cases q1 : decide (v ≥ -1099511627776) with
    | false =>
     rw [q1] at hF
     simp only [Bool.false_and] at hF
     subst hF
     repeat' (first | refine a_seq fun K hK => ?_ | ((first | refine a_regionS ?_ | refine a_ret ?_); simp only [Ty.w, simprocAttr, g1, g3, hd, hlA, hlK, k1, q1]) | (refine a_exit ?_; try simp only [pst0, simprocAttr]) | (refine a_cond _ (by (try simp only [Ty.w, simprocAttr, g1, g3, hd, hlA, hlK, k1, q1]); rfl) (fun hb => ?_) (fun hb => ?_) <;> (try simp only [hb0, decide_eq_true_eq, decide_eq_false_iff_not, simprocAttr] at hb) <;> (try (exfalso; omega))) | ((first | refine hK _ _ ?_ | (clear hK; refine hK _ _ ?_)); clear hK; try simp only [pst0, simprocAttr]))
    | true =>
     rw [q1, Bool.true_and] at hF
     cases q2 : decide (v ≤ 1099511627776) with
     | false =>
      rw [q2] at hF
      simp only [Bool.false_and] at hF
      subst hF
      repeat' (first | refine a_seq fun K hK => ?_ | ((first | refine a_regionS ?_ | refine a_ret ?_); simp only [Ty.w, simprocAttr, g1, g3, hd, hlA, hlK, k1, q1, q2]) | (refine a_exit ?_; try simp only [pst0, simprocAttr]) | (refine a_cond _ (by (try simp only [Ty.w, simprocAttr, g1, g3, hd, hlA, hlK, k1, q1, q2]); rfl) (fun hb => ?_) (fun hb => ?_) <;> (try simp only [hb0, decide_eq_true_eq, decide_eq_false_iff_not, simprocAttr] at hb) <;> (try (exfalso; omega))) | ((first | refine hK _ _ ?_ | (clear hK; refine hK _ _ ?_)); clear hK; try simp only [pst0, simprocAttr]))
     | true =>
      rw [q2, Bool.true_and] at hF
      cases q3 : (name.data.toList == (#[] : Array UInt8).toList) with
      | false =>
       rw [q3] at hF
       simp only [Bool.false_and] at hF
       subst hF
       repeat' (first | refine a_seq fun K hK => ?_ | ((first | refine a_regionS ?_ | refine a_ret ?_); simp only [Ty.w, simprocAttr, g1, g3, hd, hlA, hlK, k1, q1, q2, q3]) | (refine a_exit ?_; try simp only [pst0, simprocAttr]) | (refine a_cond _ (by (try simp only [Ty.w, simprocAttr, g1, g3, hd, hlA, hlK, k1, q1, q2, q3]); rfl) (fun hb => ?_) (fun hb => ?_) <;> (try simp only [hb0, decide_eq_true_eq, decide_eq_false_iff_not, simprocAttr] at hb) <;> (try (exfalso; omega))) | ((first | refine hK _ _ ?_ | (clear hK; refine hK _ _ ?_)); clear hK; try simp only [pst0, simprocAttr]))
      | true =>
       rw [q3, Bool.true_and] at hF
       cases q4 : ((args.length : Int) == 0) with
       | false =>
        rw [q4] at hF
        simp only [Bool.false_and] at hF
        subst hF
        repeat' (first | refine a_seq fun K hK => ?_ | ((first | refine a_regionS ?_ | refine a_ret ?_); simp only [Ty.w, simprocAttr, g1, g3, hd, hlA, hlK, k1, q1, q2, q3, q4]) | (refine a_exit ?_; try simp only [pst0, simprocAttr]) | (refine a_cond _ (by (try simp only [Ty.w, simprocAttr, g1, g3, hd, hlA, hlK, k1, q1, q2, q3, q4]); rfl) (fun hb => ?_) (fun hb => ?_) <;> (try simp only [hb0, decide_eq_true_eq, decide_eq_false_iff_not, simprocAttr] at hb) <;> (try (exfalso; omega))) | ((first | refine hK _ _ ?_ | (clear hK; refine hK _ _ ?_)); clear hK; try simp only [pst0, simprocAttr]))
       | true =>
        rw [q4, Bool.true_and] at hF
        subst hF
        repeat' (first | refine a_seq fun K hK => ?_ | ((first | refine a_regionS ?_ | refine a_ret ?_); simp only [Ty.w, simprocAttr, g1, g3, hd, hlA, hlK, k1, q1, q2, q3, q4]) | (refine a_exit ?_; try simp only [pst0, simprocAttr]) | (refine a_cond _ (by (try simp only [Ty.w, simprocAttr, g1, g3, hd, hlA, hlK, k1, q1, q2, q3, q4]); rfl) (fun hb => ?_) (fun hb => ?_) <;> (try simp only [hb0, decide_eq_true_eq, decide_eq_false_iff_not, simprocAttr] at hb) <;> (try (exfalso; omega))) | ((first | refine hK _ _ ?_ | (clear hK; refine hK _ _ ?_)); clear hK; try simp only [pst0, simprocAttr]))
   | false =>
    rw [k1] at hF
    simp only [Bool.false_eq_true, if_false] at hF
    cases k2 : (op.data.toList == (#[102, 108, 117, 101, 110, 116] : Array UInt8).toList) with
    | true =>
     rw [k2] at hF
     simp only [if_true] at hF
     cases q1 : (v == 0) with
     | false =>
      rw [q1] at hF
      simp only [Bool.false_and] at hF
      subst hF
      repeat' (first | refine a_seq fun K hK => ?_ | ((first | refine a_regionS ?_ | refine a_ret ?_); simp only [Ty.w, simprocAttr, g1, g3, hd, hlA, hlK, k1, k2, q1]) | (refine a_exit ?_; try simp only [pst0, simprocAttr]) | (refine a_cond _ (by (try simp only [Ty.w, simprocAttr, g1, g3, hd, hlA, hlK, k1, k2, q1]); rfl) (fun hb => ?_) (fun hb => ?_) <;> (try simp only [hb0, decide_eq_true_eq, decide_eq_false_iff_not, simprocAttr] at hb) <;> (try (exfalso; omega))) | ((first | refine hK _ _ ?_ | (clear hK; refine hK _ _ ?_)); clear hK; try simp only [pst0, simprocAttr]))
     | true =>
      rw [q1, Bool.true_and] at hF
      generalize nameB name = bn at hn hF
      cases bn with
      | false =>
       simp only [Bool.false_and] at hF
       subst hF
       repeat' (first | refine a_seq fun K hK => ?_ | (refine a_regionS ?_; simp only [Ty.w, simprocAttr, g1, g3, hd, hlA, hlK, k1, k2, q1]) | (refine a_exit ?_; try simp only [pst0, simprocAttr]) | (refine a_cond _ (by (try simp only [Ty.w, simprocAttr, g1, g3, hd, hlA, hlK, k1, k2, q1]); rfl) (fun hb => ?_) (fun hb => ?_) <;> (try simp only [hb0, decide_eq_true_eq, decide_eq_false_iff_not, simprocAttr] at hb) <;> (try (exfalso; omega))) | ((first | refine hK _ _ ?_ | (clear hK; refine hK _ _ ?_)); clear hK; try simp only [pst0, simprocAttr]))
       refine owp_useQ (hn _) (by (try simp only [Ty.w, simprocAttr, g1, g3, hd, hlA, hlK, k1, k2, q1]); try rfl) ?_; simp only [Ty.w, simprocAttr, g1, g3, hd, hlA, hlK, k1, k2, q1]
       repeat' (first | (refine a_ret ?_; simp only [Ty.w, simprocAttr, g1, g3, hd, hlA, hlK, k1, k2, q1]) | (refine hK _ _ ?_; clear hK; try simp only [pst0, simprocAttr]))
      | true =>
       rw [Bool.true_and] at hF
       generalize args.all termB = ba at hA hF
       cases ba with
       | false =>
        simp only [Bool.false_and] at hF
        subst hF
        have W := And.intro g1 (And.intro g3 (And.intro hd (And.intro hlA (And.intro hlK (And.intro k1 (And.intro k2 q1))))))
        repeat' (first | refine a_seq fun K hK => ?_ | (refine a_regionS ?_; simp only [Ty.w, simprocAttr, W]) | (refine a_exit ?_; try simp only [pst0, simprocAttr]) | (refine a_cond _ (by (try simp only [Ty.w, simprocAttr, W]); rfl) (fun hb => ?_) (fun hb => ?_) <;> (try simp only [hb0, decide_eq_true_eq, decide_eq_false_iff_not, simprocAttr] at hb) <;> (try (exfalso; omega))) | ((first | refine hK _ _ ?_ | (clear hK; refine hK _ _ ?_)); clear hK; try simp only [pst0, simprocAttr]))
        refine owp_useQ (hn _) (by (try simp only [Ty.w, simprocAttr, W]); try rfl) ?_; simp only [Ty.w, simprocAttr, W]
        skip
        refine owp_useQ (hA _) (by (try simp only [Ty.w, simprocAttr, W]); try rfl) ?_; simp only [Ty.w, simprocAttr, W]
        repeat' (first | (refine a_ret ?_; simp only [Ty.w, simprocAttr, W]) | (refine hK _ _ ?_; clear hK; try simp only [pst0, simprocAttr]))
       | true =>
        rw [Bool.true_and] at hF
        subst hF
        have W := And.intro g1 (And.intro g3 (And.intro hd (And.intro hlA (And.intro hlK (And.intro k1 (And.intro k2 q1))))))
        repeat' (first | refine a_seq fun K hK => ?_ | (refine a_regionS ?_; simp only [Ty.w, simprocAttr, W]) | (refine a_exit ?_; try simp only [pst0, simprocAttr]) | (refine a_cond _ (by (try simp only [Ty.w, simprocAttr, W]); rfl) (fun hb => ?_) (fun hb => ?_) <;> (try simp only [hb0, decide_eq_true_eq, decide_eq_false_iff_not, simprocAttr] at hb) <;> (try (exfalso; omega))) | ((first | refine hK _ _ ?_ | (clear hK; refine hK _ _ ?_)); clear hK; try simp only [pst0, simprocAttr]))
        refine owp_useQ (hn _) (by (try simp only [Ty.w, simprocAttr, W]); try rfl) ?_; simp only [Ty.w, simprocAttr, W]
        skip
        refine owp_useQ (hA _) (by (try simp only [Ty.w, simprocAttr, W]); try rfl) ?_; simp only [Ty.w, simprocAttr, W]
        repeat' (first | (refine a_ret ?_; simp only [Ty.w, simprocAttr, W]) | (refine hK _ _ ?_; clear hK; try simp only [pst0, simprocAttr]))
    | false =>
     rw [k2] at hF
     simp only [Bool.false_eq_true, if_false] at hF
     clear hn hA
     cases k3 : (op.data.toList == (#[43] : Array UInt8).toList) with
     | true =>
      rw [k3] at hF
      simp only [Bool.true_or, if_true] at hF
      cases q1 : (v == 0) with
      | false =>
       rw [q1] at hF
       simp only [Bool.false_and] at hF
       subst hF
       repeat' (first | refine a_seq fun K hK => ?_ | ((first | refine a_regionS ?_ | refine a_ret ?_); simp only [Ty.w, simprocAttr, g1, g3, hd, hlA, hlK, k1, k2, k3, q1]) | ((first | refine a_skip ?_ | refine a_exit ?_); try simp only [pst0, simprocAttr]) | (refine a_cond _ (by (try simp only [Ty.w, simprocAttr, g1, g3, hd, hlA, hlK, k1, k2, k3, q1]); rfl) (fun hb => ?_) (fun hb => ?_) <;> (try simp only [hb0, decide_eq_true_eq, decide_eq_false_iff_not, simprocAttr] at hb) <;> (try (exfalso; omega))) | ((first | refine hK _ _ ?_ | (clear hK; refine hK _ _ ?_)); clear hK; try simp only [pst0, simprocAttr]))
      | true =>
       rw [q1, Bool.true_and] at hF
       cases q2 : (name.data.toList == (#[] : Array UInt8).toList) with
       | false =>
        rw [q2] at hF
        simp only [Bool.false_and] at hF
        subst hF
        repeat' (first | refine a_seq fun K hK => ?_ | ((first | refine a_regionS ?_ | refine a_ret ?_); simp only [Ty.w, simprocAttr, g1, g3, hd, hlA, hlK, k1, k2, k3, q1, q2]) | ((first | refine a_skip ?_ | refine a_exit ?_); try simp only [pst0, simprocAttr]) | (refine a_cond _ (by (try simp only [Ty.w, simprocAttr, g1, g3, hd, hlA, hlK, k1, k2, k3, q1, q2]); rfl) (fun hb => ?_) (fun hb => ?_) <;> (try simp only [hb0, decide_eq_true_eq, decide_eq_false_iff_not, simprocAttr] at hb) <;> (try (exfalso; omega))) | ((first | refine hK _ _ ?_ | (clear hK; refine hK _ _ ?_)); clear hK; try simp only [pst0, simprocAttr]))
       | true =>
        rw [q2, Bool.true_and] at hF
        cases q3 : ((args.length : Int) == 0) with
        | false =>
         rw [q3] at hF
         simp only [Bool.false_and] at hF
         subst hF
         repeat' (first | refine a_seq fun K hK => ?_ | ((first | refine a_regionS ?_ | refine a_ret ?_); simp only [Ty.w, simprocAttr, g1, g3, hd, hlA, hlK, k1, k2, k3, q1, q2, q3]) | ((first | refine a_skip ?_ | refine a_exit ?_); try simp only [pst0, simprocAttr]) | (refine a_cond _ (by (try simp only [Ty.w, simprocAttr, g1, g3, hd, hlA, hlK, k1, k2, k3, q1, q2, q3]); rfl) (fun hb => ?_) (fun hb => ?_) <;> (try simp only [hb0, decide_eq_true_eq, decide_eq_false_iff_not, simprocAttr] at hb) <;> (try (exfalso; omega))) | ((first | refine hK _ _ ?_ | (clear hK; refine hK _ _ ?_)); clear hK; try simp only [pst0, simprocAttr]))
        | true =>
         rw [q3, Bool.true_and] at hF
         subst hF
         repeat' (first | refine a_seq fun K hK => ?_ | ((first | refine a_regionS ?_ | refine a_ret ?_); simp only [Ty.w, simprocAttr, g1, g3, hd, hlA, hlK, k1, k2, k3, q1, q2, q3]) | ((first | refine a_skip ?_ | refine a_exit ?_); try simp only [pst0, simprocAttr]) | (refine a_cond _ (by (try simp only [Ty.w, simprocAttr, g1, g3, hd, hlA, hlK, k1, k2, k3, q1, q2, q3]); rfl) (fun hb => ?_) (fun hb => ?_) <;> (try simp only [hb0, decide_eq_true_eq, decide_eq_false_iff_not, simprocAttr] at hb) <;> (try (exfalso; omega))) | ((first | refine hK _ _ ?_ | (clear hK; refine hK _ _ ?_)); clear hK; try simp only [pst0, simprocAttr]))
     | false =>
      rw [k3] at hF
      simp only [Bool.false_or] at hF
      cases k4 : (op.data.toList == (#[45] : Array UInt8).toList) with
      | true =>
       rw [k4] at hF
       simp only [Bool.true_or, if_true] at hF
       cases q1 : (v == 0) with
       | false =>
        rw [q1] at hF
        simp only [Bool.false_and] at hF
        subst hF
        repeat' (first | refine a_seq fun K hK => ?_ | ((first | refine a_regionS ?_ | refine a_ret ?_); simp only [Ty.w, simprocAttr, g1, g3, hd, hlA, hlK, k1, k2, k3, k4, q1]) | ((first | refine a_skip ?_ | refine a_exit ?_); try simp only [pst0, simprocAttr]) | (refine a_cond _ (by (try simp only [Ty.w, simprocAttr, g1, g3, hd, hlA, hlK, k1, k2, k3, k4, q1]); rfl) (fun hb => ?_) (fun hb => ?_) <;> (try simp only [hb0, decide_eq_true_eq, decide_eq_false_iff_not, simprocAttr] at hb) <;> (try (exfalso; omega))) | ((first | refine hK _ _ ?_ | (clear hK; refine hK _ _ ?_)); clear hK; try simp only [pst0, simprocAttr]))
       | true =>
        rw [q1, Bool.true_and] at hF
        cases q2 : (name.data.toList == (#[] : Array UInt8).toList) with
        | false =>
         rw [q2] at hF
         simp only [Bool.false_and] at hF
         subst hF
         repeat' (first | refine a_seq fun K hK => ?_ | ((first | refine a_regionS ?_ | refine a_ret ?_); simp only [Ty.w, simprocAttr, g1, g3, hd, hlA, hlK, k1, k2, k3, k4, q1, q2]) | ((first | refine a_skip ?_ | refine a_exit ?_); try simp only [pst0, simprocAttr]) | (refine a_cond _ (by (try simp only [Ty.w, simprocAttr, g1, g3, hd, hlA, hlK, k1, k2, k3, k4, q1, q2]); rfl) (fun hb => ?_) (fun hb => ?_) <;> (try simp only [hb0, decide_eq_true_eq, decide_eq_false_iff_not, simprocAttr] at hb) <;> (try (exfalso; omega))) | ((first | refine hK _ _ ?_ | (clear hK; refine hK _ _ ?_)); clear hK; try simp only [pst0, simprocAttr]))
        | true =>
         rw [q2, Bool.true_and] at hF
         cases q3 : ((args.length : Int) == 0) with
         | false =>
          rw [q3] at hF
          simp only [Bool.false_and] at hF
          subst hF
          repeat' (first | refine a_seq fun K hK => ?_ | ((first | refine a_regionS ?_ | refine a_ret ?_); simp only [Ty.w, simprocAttr, g1, g3, hd, hlA, hlK, k1, k2, k3, k4, q1, q2, q3]) | ((first | refine a_skip ?_ | refine a_exit ?_); try simp only [pst0, simprocAttr]) | (refine a_cond _ (by (try simp only [Ty.w, simprocAttr, g1, g3, hd, hlA, hlK, k1, k2, k3, k4, q1, q2, q3]); rfl) (fun hb => ?_) (fun hb => ?_) <;> (try simp only [hb0, decide_eq_true_eq, decide_eq_false_iff_not, simprocAttr] at hb) <;> (try (exfalso; omega))) | ((first | refine hK _ _ ?_ | (clear hK; refine hK _ _ ?_)); clear hK; try simp only [pst0, simprocAttr]))
         | true =>
          rw [q3, Bool.true_and] at hF
          subst hF
          repeat' (first | refine a_seq fun K hK => ?_ | ((first | refine a_regionS ?_ | refine a_ret ?_); simp only [Ty.w, simprocAttr, g1, g3, hd, hlA, hlK, k1, k2, k3, k4, q1, q2, q3]) | ((first | refine a_skip ?_ | refine a_exit ?_); try simp only [pst0, simprocAttr]) | (refine a_cond _ (by (try simp only [Ty.w, simprocAttr, g1, g3, hd, hlA, hlK, k1, k2, k3, k4, q1, q2, q3]); rfl) (fun hb => ?_) (fun hb => ?_) <;> (try simp only [hb0, decide_eq_true_eq, decide_eq_false_iff_not, simprocAttr] at hb) <;> (try (exfalso; omega))) | ((first | refine hK _ _ ?_ | (clear hK; refine hK _ _ ?_)); clear hK; try simp only [pst0, simprocAttr]))
      | false =>
       rw [k4] at hF
       simp only [Bool.false_or] at hF
       cases k5 : (op.data.toList == (#[42] : Array UInt8).toList) with
       | true =>
        rw [k5] at hF
        simp only [if_true] at hF
        cases q1 : (v == 0) with
        | false =>
         rw [q1] at hF
         simp only [Bool.false_and] at hF
         subst hF
         repeat' (first | refine a_seq fun K hK => ?_ | ((first | refine a_regionS ?_ | refine a_ret ?_); simp only [Ty.w, simprocAttr, g1, g3, hd, hlA, hlK, k1, k2, k3, k4, k5, q1]) | (refine a_exit ?_; try simp only [pst0, simprocAttr]) | (refine a_cond _ (by (try simp only [Ty.w, simprocAttr, g1, g3, hd, hlA, hlK, k1, k2, k3, k4, k5, q1]); rfl) (fun hb => ?_) (fun hb => ?_) <;> (try simp only [hb0, decide_eq_true_eq, decide_eq_false_iff_not, simprocAttr] at hb) <;> (try (exfalso; omega))) | ((first | refine hK _ _ ?_ | (clear hK; refine hK _ _ ?_)); clear hK; try simp only [pst0, simprocAttr]))
        | true =>
         rw [q1, Bool.true_and] at hF
         cases q2 : (name.data.toList == (#[] : Array UInt8).toList) with
         | false =>
          rw [q2] at hF
          simp only [Bool.false_and] at hF
          subst hF
          repeat' (first | refine a_seq fun K hK => ?_ | ((first | refine a_regionS ?_ | refine a_ret ?_); simp only [Ty.w, simprocAttr, g1, g3, hd, hlA, hlK, k1, k2, k3, k4, k5, q1, q2]) | (refine a_exit ?_; try simp only [pst0, simprocAttr]) | (refine a_cond _ (by (try simp only [Ty.w, simprocAttr, g1, g3, hd, hlA, hlK, k1, k2, k3, k4, k5, q1, q2]); rfl) (fun hb => ?_) (fun hb => ?_) <;> (try simp only [hb0, decide_eq_true_eq, decide_eq_false_iff_not, simprocAttr] at hb) <;> (try (exfalso; omega))) | ((first | refine hK _ _ ?_ | (clear hK; refine hK _ _ ?_)); clear hK; try simp only [pst0, simprocAttr]))
         | true =>
          rw [q2, Bool.true_and] at hF
          cases q3 : ((args.length : Int) == 0) with
          | false =>
           rw [q3] at hF
           simp only [Bool.false_and] at hF
           subst hF
           repeat' (first | refine a_seq fun K hK => ?_ | ((first | refine a_regionS ?_ | refine a_ret ?_); simp only [Ty.w, simprocAttr, g1, g3, hd, hlA, hlK, k1, k2, k3, k4, k5, q1, q2, q3]) | (refine a_exit ?_; try simp only [pst0, simprocAttr]) | (refine a_cond _ (by (try simp only [Ty.w, simprocAttr, g1, g3, hd, hlA, hlK, k1, k2, k3, k4, k5, q1, q2, q3]); rfl) (fun hb => ?_) (fun hb => ?_) <;> (try simp only [hb0, decide_eq_true_eq, decide_eq_false_iff_not, simprocAttr] at hb) <;> (try (exfalso; omega))) | ((first | refine hK _ _ ?_ | (clear hK; refine hK _ _ ?_)); clear hK; try simp only [pst0, simprocAttr]))
          | true =>
           rw [q3, Bool.true_and] at hF
           subst hF
           repeat' (first | refine a_seq fun K hK => ?_ | ((first | refine a_regionS ?_ | refine a_ret ?_); simp only [Ty.w, simprocAttr, g1, g3, hd, hlA, hlK, k1, k2, k3, k4, k5, q1, q2, q3]) | (refine a_exit ?_; try simp only [pst0, simprocAttr]) | (refine a_cond _ (by (try simp only [Ty.w, simprocAttr, g1, g3, hd, hlA, hlK, k1, k2, k3, k4, k5, q1, q2, q3]); rfl) (fun hb => ?_) (fun hb => ?_) <;> (try simp only [hb0, decide_eq_true_eq, decide_eq_false_iff_not, simprocAttr] at hb) <;> (try (exfalso; omega))) | ((first | refine hK _ _ ?_ | (clear hK; refine hK _ _ ?_)); clear hK; try simp only [pst0, simprocAttr]))
       | false =>
        rw [k5] at hF
        simp only [Bool.false_eq_true, if_false] at hF
        subst hF
        repeat' (first | refine a_seq fun K hK => ?_ | (refine a_block ?_) | ((first | refine a_regionS ?_ | refine a_ret ?_); simp only [Ty.w, simprocAttr, g1, g3, hd, hlA, hlK, k1, k2, k3, k4, k5]) | ((first | refine a_skip ?_ | refine a_exit ?_); try simp only [pst0, simprocAttr]) | (refine a_cond _ (by (try simp only [Ty.w, simprocAttr, g1, g3, hd, hlA, hlK, k1, k2, k3, k4, k5]); rfl) (fun hb => ?_) (fun hb => ?_) <;> (try simp only [hb0, decide_eq_true_eq, decide_eq_false_iff_not, simprocAttr] at hb) <;> (try (exfalso; omega))) | ((first | refine hK _ _ ?_ | (clear hK; refine hK _ _ ?_)); clear hK; try simp only [pst0, simprocAttr]))
end Go.Proofs.Ytjlkapgpjamnkaa
namespace Go.Proofs.Ytjlkapgpjamnkaa
open Go.AM
set_option maxHeartbeats 2000000
set_option maxRecDepth 20000
def opObj : ByteArray := ⟨#[111, 98, 106, 101, 99, 116]⟩
def typedB (s : ByteArray) : Bool := nameB s || bEq s opObj
theorem typed_c {h : Heap} {s : ByteArray} (hs : s.size ≤ bigN) : PCall Try.prog 107 [sPV s] h fun r h' => r = .sc (.bool (typedB s)) ∧ h' = h := by
 have hs' : s.size ≤ 9223372036854775807 := by unfold bigN at hs; omega
 have hc := fun h : Heap => fname_c (h := h) hs'
 have hT : typedB s = (nameB s || (s.data.toList == (#[111, 98, 106, 101, 99, 116] : Array UInt8).toList)) := rfl
 rw [hT]
 generalize nameB s = b at hc ⊢
 cases b with
 | true =>
  refine pcall_body (ow := fun _ => false) (wf := fun _ => false) Ty.mixed Try.func107 rfl Ty.hb_107 (by rw [Try.ntmps107]; simp) ?_
  rw [Try.ntmps107, Try.results107]
  repeat' (first | refine a_seq fun K hK => ?_ | (refine a_regionS ?_; simp only [Ty.w, simprocAttr]) | (refine hK _ _ ?_; clear hK; try simp only [pst0, simprocAttr]))
  refine owp_useQ (hc _) (by (try simp only [Ty.w, simprocAttr, ]); try rfl) ?_; simp only [Ty.w, simprocAttr, ]
  repeat' (first | (refine a_ret ?_; simp only [Ty.w, simprocAttr]) | (refine hK _ _ ?_; clear hK; try simp only [pst0, simprocAttr]))
  all_goals rfl
 | false =>
  refine pcall_body (ow := fun _ => false) (wf := fun _ => false) Ty.mixed Try.func107 rfl Ty.hb_107 (by rw [Try.ntmps107]; simp) ?_
  rw [Try.ntmps107, Try.results107]
  repeat' (first | refine a_seq fun K hK => ?_ | (refine a_regionS ?_; simp only [Ty.w, simprocAttr]) | (refine hK _ _ ?_; clear hK; try simp only [pst0, simprocAttr]))
  refine owp_useQ (hc _) (by (try simp only [Ty.w, simprocAttr, ]); try rfl) ?_; simp only [Ty.w, simprocAttr, ]
  repeat' (first | (refine a_ret ?_; simp only [Ty.w, simprocAttr]) | (refine hK _ _ ?_; clear hK; try simp only [pst0, simprocAttr]))
  all_goals rfl
def paramsW : List Pm → List Sx
 | [] => []
 | p :: l => wordM p.name :: wordM ⟨#[45]⟩ :: wordM p.type :: paramsW l
theorem paramsW_append : ∀ l m : List Pm, paramsW (l ++ m) = paramsW l ++ paramsW m
 | [], m => rfl
 | p :: l, m => by simp only [List.cons_append, paramsW, paramsW_append l m]
theorem paramsW_len : ∀ l : List Pm, (paramsW l).length = 3 * l.length
 | [] => rfl
 | p :: l => by simp only [paramsW, List.length_cons, paramsW_len l]; omega
theorem tl_frzX {h : Heap} {id0 : Nat} {p : PV} {l : List Sx} (t : Tl h id0 6 p (Sx.rows l)) : FrzTo id0 h (.imm 6 (Sx.rows l)) p := by
 simp only [FrzTo]
 rcases t with ⟨h1, h2⟩ | ⟨id, h1, h2, rfl, ho⟩
 ·exact .inr (.inl ⟨h1, h2.symm⟩)
 ·refine .inr (.inr ⟨id, 0, _, _, rfl, h1, ho, by omega, ?_⟩)
  rw [List.drop_zero, List.take_of_length_le (by omega)]
  exact sxs_frz _ _ _
theorem writeParams_c {l : List Pm} (hl : l.length ≤ 1048576) (h : Heap) : PCall Try.prog 112 [.imm 2 (pmRows l)] h fun r h' => r = .imm 6 (Sx.rows (paramsW l)) ∧ h' = h := by
 refine PCall.frz Ty.hb_112 ?_
 have hll := pmRows_len l
 have hw : ∀ (s : ByteArray) (h : Heap), PCall Try.prog 111 [sPV s] h fun r h' => r = .agg (wordM s).cells ∧ h' = h := fun s h => word_c
 simp only [wordM, Sx.cells, Sx.rows] at hw
 refine pcall_body (ow := fun _ => false) (wf := fun _ => false) Ty.mixed Try.func112 rfl Ty.hb_112 (by rw [Try.ntmps112]; simp) ?_
 rw [Try.ntmps112, Try.results112]
 repeat' (first | refine a_seq fun K hK => ?_ | (refine a_block ?_) | (refine a_regionS ?_; simp only [Ty.w, simprocAttr, hll]) | (refine hK _ _ ?_; clear hK; try simp only [pst0, simprocAttr]))
 refine a_loop (fun m S h' => S 6 = .imm 2 (pmRows l) ∧ S 7 = .sc (.int .i64 l.length) ∧ ∃ (k : Nat) (o : PV), S 8 = .sc (.int .i64 k) ∧ S 3 = o ∧ k ≤ l.length ∧ m = l.length - k ∧ Grow h h' ∧ Tl h' h.next 6 o (Sx.rows (paramsW (l.take k)))) l.length ?_ ?_
 ·simp only [Ty.w, simprocAttr]
  exact ⟨0, _, rfl, rfl, by omega, rfl, Grow.refl _, Tl.nil⟩
 ·rintro m S h' ⟨g6, g7, k, o, g8, g3, hk, rfl, hg, tl⟩
  by_cases hlt : k < l.length
  ·have hd : decide ((k : Int) < (l.length : Int)) = true := by simp; omega
   have w7 : IntKind.i64.wrap ((k : Int) + 1) = k + 1 := by rw [wrap64 (by omega) (by omega)]
   obtain ⟨p, hx⟩ : ∃ p, l[k]? = some p := ⟨_, List.getElem?_eq_getElem hlt⟩
   have hr := pmRows_get hx
   have tl2 := tl.up (h' := (h'.new (.arr 2 [[.sc (.string ⟨#[]⟩), .sc (.string ⟨#[]⟩)]])).set h'.next (.arr 2 [[sPV p.name, sPV p.type]])) (by simp [Heap.new, Heap.set]) (fun j _ hj => by simp only [Heap.new, Heap.set]; rw [if_neg (by omega), if_neg (by omega)])
   have hg2 : Grow h ((h'.new (.arr 2 [[.sc (.string ⟨#[]⟩), .sc (.string ⟨#[]⟩)]])).set h'.next (.arr 2 [[sPV p.name, sPV p.type]])) := (hg.new _).set hg.le _
   obtain ⟨H, t1, t2, t3, t4, t5⟩ := tl2.tail
   have hpr : (Sx.rows (paramsW (l.take k))).length = 3 * k := by rw [Sx.rows_len, paramsW_len, List.length_take]; omega
   have hb : (3 * k + 3) * 72 ≤ 140737488355328 := by omega
   have hR : Sx.rows (paramsW (l.take (k + 1))) = Sx.rows (paramsW (l.take k)) ++ [[.sc (.int .i64 1), .sc (.int .i64 0), .sc (.int .i64 0), .sc (.int .i64 0), sPV p.name, .imm 6 []], [.sc (.int .i64 1), .sc (.int .i64 0), .sc (.int .i64 0), .sc (.int .i64 0), sPV ⟨#[45]⟩, .imm 6 []], [.sc (.int .i64 1), .sc (.int .i64 0), .sc (.int .i64 0), .sc (.int .i64 0), sPV p.type, .imm 6 []]] := by
    rw [List.take_add_one, hx, paramsW_append]
    simp only [Sx.rows_map, List.map_append, Option.toList_some, paramsW, List.map_cons, List.map_nil, wordM, Sx.cells]
   generalize Sx.rows (paramsW (l.take k)) = R at tl tl2 t1 t2 hpr hR
   have W := And.intro g6 (And.intro g7 (And.intro g8 (And.intro g3 (And.intro w7 (And.intro t1 (And.intro t2 (And.intro hpr hb)))))))
   repeat' (first | refine a_seq fun K hK => ?_ | ((first | refine a_regionS ?_ | refine a_draw (by decide +kernel) (fun K hK => ?_)); simp only [Ty.w, simprocAttr, W, hd, hr, hll]) | (refine a_skip ?_; try simp only [pst0, simprocAttr]) | (refine a_cond _ (by (try simp only [Ty.w, simprocAttr, W, hd, hr, hll]); rfl) (fun hb => ?_) (fun hb => ?_) <;> (try simp only [hb0, decide_eq_true_eq, decide_eq_false_iff_not, simprocAttr] at hb) <;> (try (exfalso; omega))) | (refine hK _ _ ?_; clear hK; try simp only [pst0, simprocAttr]))
   (first | refine a_dcall0 (hw p.name _) (by (try simp only [Ty.w, simprocAttr, W]); try rfl) ?_ | refine a_dcallA (hw p.name _) (by (try simp only [Ty.w, simprocAttr, W]); try rfl) (by simp only [Ty.w, simprocAttr, W]; try trivial) ?_); simp only [Ty.w, simprocAttr, W, Option.getD_some]
   skip
   (first | refine a_dcall0 (hw ⟨#[45]⟩ _) (by (try simp only [Ty.w, simprocAttr, W]); try rfl) ?_ | refine a_dcallA (hw ⟨#[45]⟩ _) (by (try simp only [Ty.w, simprocAttr, W]); try rfl) (by simp only [Ty.w, simprocAttr, W]; try trivial) ?_); simp only [Ty.w, simprocAttr, W, Option.getD_some]
   skip
   (first | refine a_dcall0 (hw p.type _) (by (try simp only [Ty.w, simprocAttr, W]); try rfl) ?_ | refine a_dcallA (hw p.type _) (by (try simp only [Ty.w, simprocAttr, W]); try rfl) (by simp only [Ty.w, simprocAttr, W]; try trivial) ?_); simp only [Ty.w, simprocAttr, W, Option.getD_some]
   repeat' (first | (refine a_regionS ?_; simp only [Ty.w, simprocAttr, W]) | (refine hK _ _ ?_; clear hK; try simp only [pst0, simprocAttr]) | (with_reducible refine a_past2 (by simp only [List.forall_mem_cons, Ty.w, simprocAttr, g6, g7, g8, g3, w7, t1, t2, hpr, hb]; (repeat' apply And.intro) <;> first | trivial | exact .inl (by decide +kernel)) ?_; try simp only [Ty.w, simprocAttr, W]) | (rw [if_pos]; rotate_left 1; omega; simp only [Ty.w, simprocAttr, W]))
   have t3' : H.next = h'.next + 1 := by rw [t3]; simp [Heap.new, Heap.set]
   have hkp := t5 h ⟨hg2.le, hg2.old⟩ (Nat.le_refl _)
   have hgH : Grow h H := ⟨hkp.1, hkp.2⟩
   rw [← hR]
   have hRl : 3 * k + 3 = (Sx.rows (paramsW (l.take (k + 1)))).length := by rw [Sx.rows_len, paramsW_len, List.length_take]; omega
   exact ⟨l.length - (k + 1), by omega, k + 1, .own H.next 0 (3 * k + 3), by simp, by rw [t3'], by omega, rfl, hgH.new _, Tl.grow hkp.1 hRl⟩
  ·have hd : decide ((k : Int) < (l.length : Int)) = false := by simp; omega
   have hke : k = l.length := by omega
   subst hke
   rw [List.take_length] at tl
   repeat' (first | refine a_seq fun K hK => ?_ | ((first | refine a_regionS ?_ | refine a_ret ?_); simp only [Ty.w, simprocAttr, g6, g7, g8, g3, hd]) | (refine a_exit ?_; try simp only [pst0, simprocAttr]) | (refine a_cond _ (by (try simp only [Ty.w, simprocAttr, g6, g7, g8, g3, hd]); rfl) (fun hb => ?_) (fun hb => ?_) <;> (try simp only [hb0, decide_eq_true_eq, decide_eq_false_iff_not, simprocAttr] at hb) <;> (try (exfalso; omega))) | ((first | refine hK _ _ ?_ | (clear hK; refine hK _ _ ?_)); clear hK; try simp only [pst0, simprocAttr]))
   exact ⟨tl_frzX tl, hg⟩
end Go.Proofs.Ytjlkapgpjamnkaa
namespace Go.Proofs.Ytjlkapgpjamnkaa
open Go.AM
def opAtom : ByteArray := ⟨#[97, 116, 111, 109]⟩
def opSame : ByteArray := ⟨#[115, 97, 109, 101]⟩
def opAnd : ByteArray := ⟨#[97, 110, 100]⟩
def opOr : ByteArray := ⟨#[111, 114]⟩
def opNot : ByteArray := ⟨#[110, 111, 116]⟩
def opImp : ByteArray := ⟨#[105, 109, 112, 108, 121]⟩
def opAll : ByteArray := ⟨#[102, 111, 114, 97, 108, 108]⟩
def opSome : ByteArray := ⟨#[101, 120, 105, 115, 116, 115]⟩
def opEq : ByteArray := ⟨#[61]⟩
def opLt : ByteArray := ⟨#[60]⟩
def opLe : ByteArray := ⟨#[60, 61]⟩
def isCmp (op : ByteArray) : Bool := bEq op opLt || bEq op opLe || bEq op opEq
def isQ (op : ByteArray) : Bool := bEq op opAll || bEq op opSome
def zeroFm : Fm := .mk ⟨#[]⟩ ⟨#[]⟩ [] [] [] []
def shapeOf (op : ByteArray) (nk : Nat) : Option (Nat × Nat × Bool) :=
 if bEq op opAtom then some (0, 0, false)
 else if bEq op opSame then some (0, 0, false)
 else if bEq op opLt then some (2, 0, false)
 else if bEq op opLe then some (2, 0, false)
 else if bEq op opEq then some (2, 0, false)
 else if bEq op opAnd then some (0, nk, false)
 else if bEq op opOr then some (0, nk, false)
 else if bEq op opNot then some (0, 1, false)
 else if bEq op opImp then some (0, 2, false)
 else if bEq op opAll then some (0, 1, true)
 else if bEq op opSome then some (0, 1, true)
 else none
def termsOk (op name : ByteArray) (args : List ByteArray) : Bool :=
 if bEq op opAtom then nameB name && args.all termB
 else if bEq op opSame then emptyB name && decide (args.length = 2) && args.all termB
 else emptyB name && args.isEmpty
def pmOk (p : Pm) : Bool := varB p.name && typedB p.type
def partsOk (op name : ByteArray) (args : List ByteArray) (params : List Pm) (ne nk : Nat) : Bool :=
 match shapeOf op nk with
 | none => false
 | some (e, m, q) => termsOk op name args && decide (ne = e) && decide (nk = m) && (params.isEmpty || q) && params.all pmOk
def formedMs : List Ex → Nat → Nat → Bool × Nat
 | [], _, c => (true, c)
 | e :: l, d, c => match formedM e d c with
  | (true, c') => formedMs l d c'
  | (false, c') => (false, c')
mutual
def shapedM : Fm → Nat → Nat → Bool × Nat
 | .mk op name args params exprs kids, d, c =>
  if c + 1 ≤ 4096 ∧ d ≤ 32 then
   (if partsOk op name args params exprs.length kids.length = true then (match formedMs exprs (d + 1) (c + 1) with
    | (true, c') => shapedMs kids (d + 1) c'
    | (false, c') => (false, c')) else (false, c + 1))
  else (false, c + 1)
def shapedMs : List Fm → Nat → Nat → Bool × Nat
 | [], _, c => (true, c)
 | k :: l, d, c => match shapedM k d c with
  | (true, c') => shapedMs l d c'
  | (false, c') => (false, c')
end
mutual
def shapedF : Fm → Bool
 | .mk op name args params exprs kids => partsOk op name args params exprs.length kids.length && exprs.all shapedE && shapedFs kids
def shapedFs : List Fm → Bool
 | [] => true
 | k :: l => shapedF k && shapedFs l
end
theorem shapedFs_iff : ∀ {l : List Fm}, (shapedFs l = true ↔ ∀ k ∈ l, shapedF k = true)
 | [] => by simp [shapedFs]
 | k :: l => by simp [shapedFs, shapedFs_iff (l := l)]
mutual
def fmW : Fm → Sx
 | .mk op name args params exprs kids =>
  if bEq op opAtom then wordsM name args
  else if bEq op opSame then wordsM opEq args
  else if isCmp op = true then listM (wordM op :: exprs.map exW)
  else listM ((if (bEq op opAnd && kids.isEmpty) = true then [] else [wordM op]) ++ (if isQ op = true then [listM (paramsW params)] else []) ++ fmWs kids)
def fmWs : List Fm → List Sx
 | [] => []
 | k :: l => fmW k :: fmWs l
end
theorem fmWs_map : ∀ l : List Fm, fmWs l = l.map fmW
 | [] => rfl
 | k :: l => by simp [fmWs, fmWs_map l]
def validF (f : Fm) : Bool := (shapedM f 0 0).1 && (svalid (fmW f) 0 0).1
end Go.Proofs.Ytjlkapgpjamnkaa
namespace Go.Proofs.Ytjlkapgpjamnkaa
open Go.AM
def opF (op name : ByteArray) (args : List ByteArray) (params : List Pm) (ne nk : Nat) : Bool :=
 if bEq op opAtom then nameB name && (args.all termB && ((((params.length : Int) + ne) + nk) == 0))
 else if bEq op opSame then bEq name ⟨#[]⟩ && (((args.length : Int) == 2) && (args.all termB && ((((params.length : Int) + ne) + nk) == 0)))
 else if (bEq op opLt || (bEq op opLe || bEq op opEq)) then bEq name ⟨#[]⟩ && (((((args.length : Int) + params.length) + nk) == 0) && ((ne : Int) == 2))
 else if (bEq op opAnd || bEq op opOr) then bEq name ⟨#[]⟩ && ((((args.length : Int) + params.length) + ne) == 0)
 else if bEq op opNot then bEq name ⟨#[]⟩ && (((((args.length : Int) + params.length) + ne) == 0) && ((nk : Int) == 1))
 else if bEq op opImp then bEq name ⟨#[]⟩ && (((((args.length : Int) + params.length) + ne) == 0) && ((nk : Int) == 2))
 else if (bEq op opAll || bEq op opSome) then bEq name ⟨#[]⟩ && ((((args.length : Int) + ne) == 0) && (((nk : Int) == 1) && params.all pmOk))
 else false
theorem partsOk_opF (op name : ByteArray) (args : List ByteArray) (params : List Pm) (ne nk : Nat) : partsOk op name args params ne nk = opF op name args params ne nk := by
 have ea : args.isEmpty = decide (args.length = 0) := by cases args <;> simp
 have ep : params.isEmpty = decide (params.length = 0) := by cases params <;> simp
 have ep2 : params.length = 0 → params.all pmOk = true := fun h => by rw [List.length_eq_zero_iff.1 h]; try rfl
 have en : emptyB name = bEq name ⟨#[]⟩ := rfl
 unfold partsOk shapeOf termsOk opF
 rw [ea, en, ep]
 generalize args.all termB = ta
 generalize params.all pmOk = pa at ep2
 generalize bEq name ⟨#[]⟩ = nm
 generalize nameB name = nn
 generalize args.length = la
 generalize params.length = lp at ep2
 cases k1 : bEq op opAtom
 ·cases k2 : bEq op opSame
  ·cases k3 : bEq op opLt
   ·cases k4 : bEq op opLe
    ·cases k5 : bEq op opEq
     ·cases k6 : bEq op opAnd
      ·cases k7 : bEq op opOr
       ·cases k8 : bEq op opNot
        ·cases k9 : bEq op opImp
         ·cases k10 : bEq op opAll
          ·cases k11 : bEq op opSome
           ·simp
           ·rw [Bool.eq_iff_iff]; simp; cases nm <;> cases pa <;> simp <;> omega
          ·rw [Bool.eq_iff_iff]; simp; cases nm <;> cases pa <;> simp <;> omega
         ·rw [Bool.eq_iff_iff]; simp; cases nm <;> cases pa <;> simp at ep2 ⊢ <;> omega
        ·rw [Bool.eq_iff_iff]; simp; cases nm <;> cases pa <;> simp at ep2 ⊢ <;> omega
       ·rw [Bool.eq_iff_iff]; simp; cases nm <;> cases pa <;> simp at ep2 ⊢ <;> omega
      ·rw [Bool.eq_iff_iff]; simp; cases nm <;> cases pa <;> simp at ep2 ⊢ <;> omega
     ·rw [Bool.eq_iff_iff]; simp; cases nm <;> cases pa <;> simp at ep2 ⊢ <;> omega
    ·rw [Bool.eq_iff_iff]; simp; cases nm <;> cases pa <;> simp at ep2 ⊢ <;> omega
   ·rw [Bool.eq_iff_iff]; simp; cases nm <;> cases pa <;> simp at ep2 ⊢ <;> omega
  ·rw [Bool.eq_iff_iff]; simp; cases nm <;> cases pa <;> cases ta <;> simp at ep2 ⊢ <;> omega
 ·rw [Bool.eq_iff_iff]; simp; cases nn <;> cases pa <;> cases ta <;> simp at ep2 ⊢ <;> omega
theorem shapedF_op {op name : ByteArray} {args : List ByteArray} {params : List Pm} {exprs : List Ex} {kids : List Fm} (hE : ∀ e ∈ exprs, shapedE e = true) (hK : ∀ k ∈ kids, shapedF k = true) :
  shapedF (.mk op name args params exprs kids) = opF op name args params exprs.length kids.length := by
 have h1 : exprs.all shapedE = true := List.all_eq_true.2 hE
 have h2 : shapedFs kids = true := shapedFs_iff.2 hK
 simp only [shapedF, h1, h2, Bool.and_true, partsOk_opF]
theorem shapedF_kid {op name : ByteArray} {args : List ByteArray} {params : List Pm} {exprs : List Ex} {kids : List Fm} (h : shapedF (.mk op name args params exprs kids) = true) : (∀ e ∈ exprs, shapedE e = true) ∧ ∀ k ∈ kids, shapedF k = true := by
 simp only [shapedF, Bool.and_eq_true] at h
 exact ⟨List.all_eq_true.1 h.1.2, shapedFs_iff.1 h.2⟩
end Go.Proofs.Ytjlkapgpjamnkaa
namespace Go.Proofs.Ytjlkapgpjamnkaa
open Go.AM
set_option maxHeartbeats 8000000
set_option maxRecDepth 20000
def pmR (v : Bool) (p : Pm) : Bool := (if v = true then varB p.name else nameB p.name) && typedB p.type
theorem pmR_ok : pmR true = pmOk := rfl
theorem a_genR {P : Program} {ow : Nat → Bool} {wf : FuncId → Bool} {n : Nat} {Q : Post} {s : Slots} {h : Heap} {c : Code} (I : Slots → Heap → Prop) (hi : I s h) (hh : ∀ s h, I s h → awp P ow wf n c Q s h) : awp P ow wf n c Q s h := hh _ _ hi
theorem rshapedPs_c {v : Bool} {l : List Pm} (hl : l.length ≤ bigN) (hp : ∀ p ∈ l, p.ok) (h : Heap) : PCall Try.prog 96 [.imm 2 (pmRows l), .sc (.bool v)] h fun r h' => r = .sc (.bool (l.all (pmR v))) ∧ h' = h := by
 unfold bigN at hl
 have hlen := pmRows_len l
 cases v with
 | true =>
  refine pcall_body (ow := fun _ => false) (wf := fun _ => false) Ty.mixed Try.func96 rfl Ty.hb_96 (by rw [Try.ntmps96]; simp) ?_
  rw [Try.ntmps96, Try.results96]
  repeat' (first | refine a_seq fun K hK => ?_ | (refine a_block ?_) | (refine a_regionS ?_; simp (maxSteps := 2000000) only [Ty.w, simprocAttr, hlen]) | (refine hK _ _ ?_; clear hK; try simp only [pst0, simprocAttr]))
  refine a_loop (fun m S h' => h' = h ∧ S 0 = .imm 2 (pmRows l) ∧ S 1 = .sc (.bool true) ∧ ∃ k : Nat, S 5 = .sc (.int .i64 k) ∧ k ≤ l.length ∧ m = l.length - k ∧ l.all (pmR true) = (l.drop k).all (pmR true)) l.length ?_ ?_
  ·simp only [Ty.w, simprocAttr]
   exact ⟨0, rfl, by omega, rfl, by simp⟩
  ·rintro m S h' ⟨rfl, g0, g1, k, g5, hk, rfl, hinv⟩
   by_cases hlt : k < l.length
   ·have hd : decide ((k : Int) < (l.length : Int)) = true := by simp; omega
    have w7 : IntKind.i64.wrap ((k : Int) + 1) = k + 1 := by rw [wrap64 (by omega) (by omega)]
    obtain ⟨p, hx⟩ : ∃ p, l[k]? = some p := ⟨l[k], List.getElem?_eq_getElem hlt⟩
    have hr := pmRows_get hx
    have hpo := hp p (List.mem_of_getElem? hx)
    have h1 : p.name.size ≤ 9223372036854775807 := by have := hpo.1; unfold bigN at this; omega
    have h2 : p.type.size ≤ 9223372036854775807 := by have := hpo.2; unfold bigN at this; omega
    have hc := fun h : Heap => rvariable_c (h := h) (s := p.name) h1
    have hc2 := fun h : Heap => rname_c (h := h) (s := p.type) h2
    rw [drop_of_get hx, List.all_cons] at hinv
    have hq : pmR true p = (varB p.name && (nameB p.type || (p.type.data.toList == (#[111, 98, 106, 101, 99, 116] : Array UInt8).toList))) := rfl
    rw [hq] at hinv
    clear hq
    generalize varB p.name = b at hc hinv
    generalize nameB p.type = b2 at hc2 hinv
    cases b with
    | false =>
     simp only [Bool.false_and] at hinv
     repeat' (first | refine a_seq fun K hK => ?_ | (refine a_regionS ?_; simp (maxSteps := 2000000) only [Ty.w, simprocAttr, g0, g1, g5, hd, hr, bne, Bool.not_true, Bool.not_false]) | (refine a_skip ?_; try simp only [pst0, simprocAttr]) | (refine a_cond _ (by (try simp (maxSteps := 2000000) only [Ty.w, simprocAttr, g0, g1, g5, hd, hr, bne, Bool.not_true, Bool.not_false]); rfl) (fun hb => ?_) (fun hb => ?_) <;> (try simp only [hb0, decide_eq_true_eq, decide_eq_false_iff_not, simprocAttr] at hb) <;> (try (exfalso; omega))) | (refine hK _ _ ?_; clear hK; try simp only [pst0, simprocAttr]))
     refine owp_useQ (hc _) (by (try simp only [Ty.w, simprocAttr, g0, g1, g5, hd, hr, bne, Bool.not_true, Bool.not_false]); try rfl) ?_; simp (maxSteps := 2000000) only [Ty.w, simprocAttr, g0, g1, g5, hd, hr, bne, Bool.not_true, Bool.not_false]
     repeat' (first | refine a_seq fun K hK => ?_ | ((first | refine a_regionS ?_ | refine a_ret ?_); simp (maxSteps := 2000000) only [Ty.w, simprocAttr, g0, g1, g5, hd, hr, bne, Bool.not_true, Bool.not_false]) | (refine hK _ _ ?_; clear hK; try simp only [pst0, simprocAttr]))
     rw [hinv]
    | true =>
     cases q : (p.type.data.toList == (#[111, 98, 106, 101, 99, 116] : Array UInt8).toList) with
     | true =>
      simp only [q, Bool.or_true, Bool.true_and] at hinv
      repeat' (first | refine a_seq fun K hK => ?_ | (refine a_regionS ?_; simp (maxSteps := 2000000) only [Ty.w, simprocAttr, g0, g1, g5, hd, hr, bne, Bool.not_true, Bool.not_false, q]) | (refine a_skip ?_; try simp only [pst0, simprocAttr]) | (refine a_cond _ (by (try simp (maxSteps := 2000000) only [Ty.w, simprocAttr, g0, g1, g5, hd, hr, bne, Bool.not_true, Bool.not_false, q]); rfl) (fun hb => ?_) (fun hb => ?_) <;> (try simp only [hb0, decide_eq_true_eq, decide_eq_false_iff_not, simprocAttr] at hb) <;> (try (exfalso; omega))) | (refine hK _ _ ?_; clear hK; try simp only [pst0, simprocAttr]))
      refine owp_useQ (hc _) (by (try simp only [Ty.w, simprocAttr, g0, g1, g5, hd, hr, bne, Bool.not_true, Bool.not_false, q]); try rfl) ?_; simp (maxSteps := 2000000) only [Ty.w, simprocAttr, g0, g1, g5, hd, hr, bne, Bool.not_true, Bool.not_false, q]
      repeat' (first | (refine a_block ?_) | (refine a_regionS ?_; simp (maxSteps := 2000000) only [Ty.w, simprocAttr, g0, g1, g5, hd, hr, bne, Bool.not_true, Bool.not_false, q, w7]) | (refine a_skip ?_; try simp only [pst0, simprocAttr]) | (refine hK _ _ ?_; clear hK; try simp only [pst0, simprocAttr]))
      exact ⟨l.length - (k + 1), by omega, k + 1, by simp, by omega, rfl, hinv⟩
     | false =>
      cases b2 with
      | false =>
       simp only [q, Bool.or_false, Bool.false_and, Bool.and_false] at hinv
       have W := And.intro g0 (And.intro g1 (And.intro g5 (And.intro hd (And.intro hr q))))
       repeat' (first | refine a_seq fun K hK => ?_ | (refine a_regionS ?_; simp (maxSteps := 2000000) only [Ty.w, simprocAttr, W, bne, Bool.not_true, Bool.not_false]) | (refine a_skip ?_; try simp only [pst0, simprocAttr]) | (refine a_cond _ (by (try simp (maxSteps := 2000000) only [Ty.w, simprocAttr, W, bne, Bool.not_true, Bool.not_false]); rfl) (fun hb => ?_) (fun hb => ?_) <;> (try simp only [hb0, decide_eq_true_eq, decide_eq_false_iff_not, simprocAttr] at hb) <;> (try (exfalso; omega))) | (refine hK _ _ ?_; clear hK; try simp only [pst0, simprocAttr]))
       refine owp_useQ (hc _) (by (try simp only [Ty.w, simprocAttr, W, bne, Bool.not_true, Bool.not_false]); try rfl) ?_; simp (maxSteps := 2000000) only [Ty.w, simprocAttr, W, bne, Bool.not_true, Bool.not_false]
       skip
       refine owp_useQ (hc2 _) (by (try simp only [Ty.w, simprocAttr, W, bne, Bool.not_true, Bool.not_false]); try rfl) ?_; simp (maxSteps := 2000000) only [Ty.w, simprocAttr, W, bne, Bool.not_true, Bool.not_false]
       repeat' (first | refine a_seq fun K hK => ?_ | ((first | refine a_regionS ?_ | refine a_ret ?_); simp (maxSteps := 2000000) only [Ty.w, simprocAttr, W, bne, Bool.not_true, Bool.not_false]) | (refine hK _ _ ?_; clear hK; try simp only [pst0, simprocAttr]))
       rw [hinv]
      | true =>
       simp only [q, Bool.or_false, Bool.true_and] at hinv
       have W := And.intro g0 (And.intro g1 (And.intro g5 (And.intro hd (And.intro hr q))))
       repeat' (first | refine a_seq fun K hK => ?_ | (refine a_regionS ?_; simp (maxSteps := 2000000) only [Ty.w, simprocAttr, W, bne, Bool.not_true, Bool.not_false]) | (refine a_skip ?_; try simp only [pst0, simprocAttr]) | (refine a_cond _ (by (try simp (maxSteps := 2000000) only [Ty.w, simprocAttr, W, bne, Bool.not_true, Bool.not_false]); rfl) (fun hb => ?_) (fun hb => ?_) <;> (try simp only [hb0, decide_eq_true_eq, decide_eq_false_iff_not, simprocAttr] at hb) <;> (try (exfalso; omega))) | (refine hK _ _ ?_; clear hK; try simp only [pst0, simprocAttr]))
       refine owp_useQ (hc _) (by (try simp only [Ty.w, simprocAttr, W, bne, Bool.not_true, Bool.not_false]); try rfl) ?_; simp (maxSteps := 2000000) only [Ty.w, simprocAttr, W, bne, Bool.not_true, Bool.not_false]
       skip
       refine owp_useQ (hc2 _) (by (try simp only [Ty.w, simprocAttr, W, bne, Bool.not_true, Bool.not_false]); try rfl) ?_; simp (maxSteps := 2000000) only [Ty.w, simprocAttr, W, bne, Bool.not_true, Bool.not_false]
       repeat' (first | (refine a_block ?_) | (refine a_regionS ?_; simp (maxSteps := 2000000) only [Ty.w, simprocAttr, W, bne, Bool.not_true, Bool.not_false, w7]) | (refine a_skip ?_; try simp only [pst0, simprocAttr]) | (refine hK _ _ ?_; clear hK; try simp only [pst0, simprocAttr]))
       exact ⟨l.length - (k + 1), by omega, k + 1, by simp, by omega, rfl, hinv⟩
   ·have hd : decide ((k : Int) < (l.length : Int)) = false := by simp; omega
    rw [List.drop_eq_nil_of_le (by omega)] at hinv
    repeat' (first | refine a_seq fun K hK => ?_ | ((first | refine a_regionS ?_ | refine a_ret ?_); simp (maxSteps := 2000000) only [Ty.w, simprocAttr, g0, g1, g5, hlen, hd]) | (refine a_exit ?_; try simp only [pst0, simprocAttr]) | (refine a_cond _ (by (try simp (maxSteps := 2000000) only [Ty.w, simprocAttr, g0, g1, g5, hlen, hd]); rfl) (fun hb => ?_) (fun hb => ?_) <;> (try simp only [hb0, decide_eq_true_eq, decide_eq_false_iff_not, simprocAttr] at hb) <;> (try (exfalso; omega))) | ((first | refine hK _ _ ?_ | (clear hK; refine hK _ _ ?_)); clear hK; try simp only [pst0, simprocAttr]))
    rw [hinv]; try rfl
 | false =>
  refine pcall_body (ow := fun _ => false) (wf := fun _ => false) Ty.mixed Try.func96 rfl Ty.hb_96 (by rw [Try.ntmps96]; simp) ?_
  rw [Try.ntmps96, Try.results96]
  repeat' (first | refine a_seq fun K hK => ?_ | (refine a_block ?_) | (refine a_regionS ?_; simp (maxSteps := 2000000) only [Ty.w, simprocAttr, hlen]) | (refine hK _ _ ?_; clear hK; try simp only [pst0, simprocAttr]))
  refine a_loop (fun m S h' => h' = h ∧ S 0 = .imm 2 (pmRows l) ∧ S 1 = .sc (.bool false) ∧ ∃ k : Nat, S 5 = .sc (.int .i64 k) ∧ k ≤ l.length ∧ m = l.length - k ∧ l.all (pmR false) = (l.drop k).all (pmR false)) l.length ?_ ?_
  ·simp only [Ty.w, simprocAttr]
   exact ⟨0, rfl, by omega, rfl, by simp⟩
  ·rintro m S h' ⟨rfl, g0, g1, k, g5, hk, rfl, hinv⟩
   by_cases hlt : k < l.length
   ·have hd : decide ((k : Int) < (l.length : Int)) = true := by simp; omega
    have w7 : IntKind.i64.wrap ((k : Int) + 1) = k + 1 := by rw [wrap64 (by omega) (by omega)]
    obtain ⟨p, hx⟩ : ∃ p, l[k]? = some p := ⟨l[k], List.getElem?_eq_getElem hlt⟩
    have hr := pmRows_get hx
    have hpo := hp p (List.mem_of_getElem? hx)
    have h1 : p.name.size ≤ 9223372036854775807 := by have := hpo.1; unfold bigN at this; omega
    have h2 : p.type.size ≤ 9223372036854775807 := by have := hpo.2; unfold bigN at this; omega
    have hc := fun h : Heap => rname_c (h := h) (s := p.name) h1
    have hc2 := fun h : Heap => rname_c (h := h) (s := p.type) h2
    rw [drop_of_get hx, List.all_cons] at hinv
    have hq : pmR false p = (nameB p.name && (nameB p.type || (p.type.data.toList == (#[111, 98, 106, 101, 99, 116] : Array UInt8).toList))) := rfl
    rw [hq] at hinv
    clear hq
    generalize nameB p.name = b at hc hinv
    generalize nameB p.type = b2 at hc2 hinv
    cases b with
    | false =>
     simp only [Bool.false_and] at hinv
     repeat' (first | refine a_seq fun K hK => ?_ | (refine a_regionS ?_; simp (maxSteps := 2000000) only [Ty.w, simprocAttr, g0, g1, g5, hd, hr, bne, Bool.not_true, Bool.not_false]) | (refine a_skip ?_; try simp only [pst0, simprocAttr]) | (refine a_cond _ (by (try simp (maxSteps := 2000000) only [Ty.w, simprocAttr, g0, g1, g5, hd, hr, bne, Bool.not_true, Bool.not_false]); rfl) (fun hb => ?_) (fun hb => ?_) <;> (try simp only [hb0, decide_eq_true_eq, decide_eq_false_iff_not, simprocAttr] at hb) <;> (try (exfalso; omega))) | (refine hK _ _ ?_; clear hK; try simp only [pst0, simprocAttr]))
     refine owp_useQ (hc _) (by (try simp only [Ty.w, simprocAttr, g0, g1, g5, hd, hr, bne, Bool.not_true, Bool.not_false]); try rfl) ?_; simp (maxSteps := 2000000) only [Ty.w, simprocAttr, g0, g1, g5, hd, hr, bne, Bool.not_true, Bool.not_false]
     repeat' (first | refine a_seq fun K hK => ?_ | ((first | refine a_regionS ?_ | refine a_ret ?_); simp (maxSteps := 2000000) only [Ty.w, simprocAttr, g0, g1, g5, hd, hr, bne, Bool.not_true, Bool.not_false]) | (refine hK _ _ ?_; clear hK; try simp only [pst0, simprocAttr]))
     rw [hinv]
    | true =>
     cases q : (p.type.data.toList == (#[111, 98, 106, 101, 99, 116] : Array UInt8).toList) with
     | true =>
      simp only [q, Bool.or_true, Bool.true_and] at hinv
      repeat' (first | refine a_seq fun K hK => ?_ | (refine a_regionS ?_; simp (maxSteps := 2000000) only [Ty.w, simprocAttr, g0, g1, g5, hd, hr, bne, Bool.not_true, Bool.not_false, q]) | (refine a_skip ?_; try simp only [pst0, simprocAttr]) | (refine a_cond _ (by (try simp (maxSteps := 2000000) only [Ty.w, simprocAttr, g0, g1, g5, hd, hr, bne, Bool.not_true, Bool.not_false, q]); rfl) (fun hb => ?_) (fun hb => ?_) <;> (try simp only [hb0, decide_eq_true_eq, decide_eq_false_iff_not, simprocAttr] at hb) <;> (try (exfalso; omega))) | (refine hK _ _ ?_; clear hK; try simp only [pst0, simprocAttr]))
      refine owp_useQ (hc _) (by (try simp only [Ty.w, simprocAttr, g0, g1, g5, hd, hr, bne, Bool.not_true, Bool.not_false, q]); try rfl) ?_; simp (maxSteps := 2000000) only [Ty.w, simprocAttr, g0, g1, g5, hd, hr, bne, Bool.not_true, Bool.not_false, q]
      repeat' (first | (refine a_block ?_) | (refine a_regionS ?_; simp (maxSteps := 2000000) only [Ty.w, simprocAttr, g0, g1, g5, hd, hr, bne, Bool.not_true, Bool.not_false, q, w7]) | (refine a_skip ?_; try simp only [pst0, simprocAttr]) | (refine hK _ _ ?_; clear hK; try simp only [pst0, simprocAttr]))
      exact ⟨l.length - (k + 1), by omega, k + 1, by simp, by omega, rfl, hinv⟩
     | false =>
      cases b2 with
      | false =>
       simp only [q, Bool.or_false, Bool.false_and, Bool.and_false] at hinv
       have W := And.intro g0 (And.intro g1 (And.intro g5 (And.intro hd (And.intro hr q))))
       repeat' (first | refine a_seq fun K hK => ?_ | (refine a_regionS ?_; simp (maxSteps := 2000000) only [Ty.w, simprocAttr, W, bne, Bool.not_true, Bool.not_false]) | (refine a_skip ?_; try simp only [pst0, simprocAttr]) | (refine a_cond _ (by (try simp (maxSteps := 2000000) only [Ty.w, simprocAttr, W, bne, Bool.not_true, Bool.not_false]); rfl) (fun hb => ?_) (fun hb => ?_) <;> (try simp only [hb0, decide_eq_true_eq, decide_eq_false_iff_not, simprocAttr] at hb) <;> (try (exfalso; omega))) | (refine hK _ _ ?_; clear hK; try simp only [pst0, simprocAttr]))
       refine owp_useQ (hc _) (by (try simp only [Ty.w, simprocAttr, W, bne, Bool.not_true, Bool.not_false]); try rfl) ?_; simp (maxSteps := 2000000) only [Ty.w, simprocAttr, W, bne, Bool.not_true, Bool.not_false]
       skip
       refine owp_useQ (hc2 _) (by (try simp only [Ty.w, simprocAttr, W, bne, Bool.not_true, Bool.not_false]); try rfl) ?_; simp (maxSteps := 2000000) only [Ty.w, simprocAttr, W, bne, Bool.not_true, Bool.not_false]
       repeat' (first | refine a_seq fun K hK => ?_ | ((first | refine a_regionS ?_ | refine a_ret ?_); simp (maxSteps := 2000000) only [Ty.w, simprocAttr, W, bne, Bool.not_true, Bool.not_false]) | (refine hK _ _ ?_; clear hK; try simp only [pst0, simprocAttr]))
       rw [hinv]
      | true =>
       simp only [q, Bool.or_false, Bool.true_and] at hinv
       have W := And.intro g0 (And.intro g1 (And.intro g5 (And.intro hd (And.intro hr q))))
       repeat' (first | refine a_seq fun K hK => ?_ | (refine a_regionS ?_; simp (maxSteps := 2000000) only [Ty.w, simprocAttr, W, bne, Bool.not_true, Bool.not_false]) | (refine a_skip ?_; try simp only [pst0, simprocAttr]) | (refine a_cond _ (by (try simp (maxSteps := 2000000) only [Ty.w, simprocAttr, W, bne, Bool.not_true, Bool.not_false]); rfl) (fun hb => ?_) (fun hb => ?_) <;> (try simp only [hb0, decide_eq_true_eq, decide_eq_false_iff_not, simprocAttr] at hb) <;> (try (exfalso; omega))) | (refine hK _ _ ?_; clear hK; try simp only [pst0, simprocAttr]))
       refine owp_useQ (hc _) (by (try simp only [Ty.w, simprocAttr, W, bne, Bool.not_true, Bool.not_false]); try rfl) ?_; simp (maxSteps := 2000000) only [Ty.w, simprocAttr, W, bne, Bool.not_true, Bool.not_false]
       skip
       refine owp_useQ (hc2 _) (by (try simp only [Ty.w, simprocAttr, W, bne, Bool.not_true, Bool.not_false]); try rfl) ?_; simp (maxSteps := 2000000) only [Ty.w, simprocAttr, W, bne, Bool.not_true, Bool.not_false]
       repeat' (first | (refine a_block ?_) | (refine a_regionS ?_; simp (maxSteps := 2000000) only [Ty.w, simprocAttr, W, bne, Bool.not_true, Bool.not_false, w7]) | (refine a_skip ?_; try simp only [pst0, simprocAttr]) | (refine hK _ _ ?_; clear hK; try simp only [pst0, simprocAttr]))
       exact ⟨l.length - (k + 1), by omega, k + 1, by simp, by omega, rfl, hinv⟩
   ·have hd : decide ((k : Int) < (l.length : Int)) = false := by simp; omega
    rw [List.drop_eq_nil_of_le (by omega)] at hinv
    repeat' (first | refine a_seq fun K hK => ?_ | ((first | refine a_regionS ?_ | refine a_ret ?_); simp (maxSteps := 2000000) only [Ty.w, simprocAttr, g0, g1, g5, hlen, hd]) | (refine a_exit ?_; try simp only [pst0, simprocAttr]) | (refine a_cond _ (by (try simp (maxSteps := 2000000) only [Ty.w, simprocAttr, g0, g1, g5, hlen, hd]); rfl) (fun hb => ?_) (fun hb => ?_) <;> (try simp only [hb0, decide_eq_true_eq, decide_eq_false_iff_not, simprocAttr] at hb) <;> (try (exfalso; omega))) | ((first | refine hK _ _ ?_ | (clear hK; refine hK _ _ ?_)); clear hK; try simp only [pst0, simprocAttr]))
    rw [hinv]; try rfl
theorem rshapedF_c : ∀ f : Fm, f.ok → ∀ h : Heap, PCall Try.prog 57 [.agg f.cells] h fun r h' => r = .sc (.bool (shapedF f)) ∧ h' = h := by
 refine Fm.ind ?_
 intro op name args params exprs kids ih hok h
 simp only [Fm.ok] at hok
 obtain ⟨_, hnm, ⟨hal, hargs⟩, ⟨hpl, hps⟩, ⟨hel, hes⟩, hkl, hks⟩ := hok
 rw [Ex.oks_iff] at hes
 rw [Fm.oks_iff] at hks
 have hnm' : name.size ≤ 9223372036854775807 := by unfold bigN at hnm; omega
 have hP := fun h : Heap => rshapedPs_c (v := true) hpl hps h
 rw [pmR_ok] at hP
 have hA := fun h : Heap => rall_c (h := h) hal hargs
 have hN := fun h : Heap => rname_c (h := h) (s := name) hnm'
 unfold bigN at hal hpl hel hkl
 have hlA := strRows_len args
 have hlP := pmRows_len params
 have hlE := Ex.rows_len exprs
 have hlK := Fm.rows_len kids
 have hbK : ∀ k ∈ kids, shapedF k = false → shapedF (.mk op name args params exprs kids) = false := fun k hk hf => by
  cases hh : shapedF (.mk op name args params exprs kids) with
  | false => rfl
  | true => rw [(shapedF_kid hh).2 k hk] at hf; simp at hf
 have hbE : ∀ e ∈ exprs, shapedE e = false → shapedF (.mk op name args params exprs kids) = false := fun k hk hf => by
  cases hh : shapedF (.mk op name args params exprs kids) with
  | false => rfl
  | true => rw [(shapedF_kid hh).1 k hk] at hf; simp at hf
 have hop : (∀ e ∈ exprs, shapedE e = true) → (∀ k ∈ kids, shapedF k = true) → shapedF (.mk op name args params exprs kids) = opF op name args params exprs.length kids.length := shapedF_op
 generalize shapedF (.mk op name args params exprs kids) = F at hbK hbE hop
 simp only [Fm.cells]
 refine pcall_body (ow := fun _ => false) (wf := fun _ => false) Ty.mixed Try.func57 rfl Ty.hb_57 (by rw [Try.ntmps57]; simp) ?_
 rw [Try.ntmps57, Try.results57]
 repeat' (first | refine a_seq fun K hK => ?_ | (refine a_block ?_) | (refine a_regionS ?_; simp (maxSteps := 2000000) only [Ty.w, simprocAttr, hlK]) | (refine hK _ _ ?_; clear hK; try simp only [pst0, simprocAttr]))
 refine a_loop (fun m S h' => h' = h ∧ S 1 = .cptr (Fm.mk op name args params exprs kids).cells ∧ ∃ k : Nat, S 3 = .sc (.int .i64 k) ∧ k ≤ kids.length ∧ m = kids.length - k ∧ ∀ (i : Nat) (e : Fm), i < k → kids[i]? = some e → shapedF e = true) kids.length ?_ ?_
 ·simp only [Ty.w, simprocAttr]
  exact ⟨rfl, 0, rfl, by omega, rfl, by omega⟩
 ·rintro m S h' ⟨rfl, g1, k, g3, hkk, rfl, hall⟩
  simp only [Fm.cells] at g1
  by_cases hlt : k < kids.length
  ·clear hop hbE
   have hd : decide ((k : Int) < (kids.length : Int)) = true := by simp; omega
   have w7 : IntKind.i64.wrap ((k : Int) + 1) = k + 1 := by rw [wrap64 (by omega) (by omega)]
   obtain ⟨e, hx⟩ : ∃ e, kids[k]? = some e := ⟨_, List.getElem?_eq_getElem hlt⟩
   have hmem := List.mem_of_getElem? hx
   have hc := ih e hmem (hks e hmem)
   have hr := Fm.rows_get hx
   have hbad := hbK e hmem
   have hgood : shapedF e = true → ∀ (i : Nat) (e : Fm), i < k + 1 → kids[i]? = some e → shapedF e = true := fun h1 i e2 hi hw => by
    by_cases hik : i = k
    ·subst hik; rw [hx] at hw; simp at hw; rw [← hw]; exact h1
    ·exact hall i e2 (by omega) hw
   generalize shapedF e = b at hc hbad hgood
   clear hbK hall
   obtain ⟨o2, n2, a2, p2, e2, k2⟩ := e
   simp only [Fm.cells] at hr hc
   cases b with
   | false =>
    have := hbad rfl
    subst this
    repeat' (first | refine a_seq fun K hK => ?_ | (refine a_regionS ?_; simp (maxSteps := 2000000) only [Ty.w, simprocAttr, g1, g3, hlK, hd, hr, w7]) | (refine a_skip ?_; try simp only [pst0, simprocAttr]) | (refine a_cond _ (by (try simp (maxSteps := 2000000) only [Ty.w, simprocAttr, g1, g3, hlK, hd, hr, w7]); rfl) (fun hb => ?_) (fun hb => ?_) <;> (try simp only [hb0, decide_eq_true_eq, decide_eq_false_iff_not, simprocAttr] at hb) <;> (try (exfalso; omega))) | (refine hK _ _ ?_; clear hK; try simp only [pst0, simprocAttr]))
    refine owp_useQ (hc _) (by (try simp only [Ty.w, simprocAttr, g1, g3, hlK, hd, hr, Bool.not_false]); try rfl) ?_; simp (maxSteps := 2000000) only [Ty.w, simprocAttr, g1, g3, hlK, hd, hr, Bool.not_false]
    repeat' (first | refine a_seq fun K hK => ?_ | ((first | refine a_regionS ?_ | refine a_ret ?_); simp (maxSteps := 2000000) only [Ty.w, simprocAttr, g1, g3, w7, Bool.not_false]) | (refine hK _ _ ?_; clear hK; try simp only [pst0, simprocAttr]))
   | true =>
    repeat' (first | refine a_seq fun K hK => ?_ | (refine a_regionS ?_; simp (maxSteps := 2000000) only [Ty.w, simprocAttr, g1, g3, hlK, hd, hr, w7]) | (refine a_skip ?_; try simp only [pst0, simprocAttr]) | (refine a_cond _ (by (try simp (maxSteps := 2000000) only [Ty.w, simprocAttr, g1, g3, hlK, hd, hr, w7]); rfl) (fun hb => ?_) (fun hb => ?_) <;> (try simp only [hb0, decide_eq_true_eq, decide_eq_false_iff_not, simprocAttr] at hb) <;> (try (exfalso; omega))) | (refine hK _ _ ?_; clear hK; try simp only [pst0, simprocAttr]))
    refine owp_useQ (hc _) (by (try simp only [Ty.w, simprocAttr, g1, g3, hlK, hd, hr, Bool.not_true]); try rfl) ?_; simp (maxSteps := 2000000) only [Ty.w, simprocAttr, g1, g3, hlK, hd, hr, Bool.not_true]
    repeat' (first | (refine a_block ?_) | (refine a_regionS ?_; simp (maxSteps := 2000000) only [Ty.w, simprocAttr, g1, g3, w7, Bool.not_true]) | (refine a_skip ?_; try simp only [pst0, simprocAttr]) | (refine hK _ _ ?_; clear hK; try simp only [pst0, simprocAttr]))
    exact ⟨kids.length - (k + 1), by omega, rfl, k + 1, by simp, by omega, rfl, hgood rfl⟩
  ·have hd : decide ((k : Int) < (kids.length : Int)) = false := by simp; omega
   have hop2 := fun hE => hop hE fun e he => by
    obtain ⟨i, hi⟩ := List.getElem?_of_mem he
    exact hall i e (by have := (List.getElem?_eq_some_iff.1 hi).1; omega) hi
   clear hop hall hbK ih
   repeat' (first | refine a_seq fun K hK => ?_ | (refine a_block ?_) | (refine a_regionS ?_; simp (maxSteps := 2000000) only [Ty.w, simprocAttr, g1, g3, hlK, hd]) | (refine a_exit ?_; try simp only [pst0, simprocAttr]) | (refine a_cond _ (by (try simp (maxSteps := 2000000) only [Ty.w, simprocAttr, g1, g3, hlK, hd]); rfl) (fun hb => ?_) (fun hb => ?_) <;> (try simp only [hb0, decide_eq_true_eq, decide_eq_false_iff_not, simprocAttr] at hb) <;> (try (exfalso; omega))) | ((first | refine hK _ _ ?_ | (clear hK; refine hK _ _ ?_)); clear hK; try simp only [pst0, simprocAttr]))
   clear g3 hd
   refine a_loop (fun m S h2 => h2 = h' ∧ S 1 = .cptr (Fm.mk op name args params exprs kids).cells ∧ ∃ k : Nat, S 4 = .sc (.int .i64 k) ∧ k ≤ exprs.length ∧ m = exprs.length - k ∧ ∀ (i : Nat) (e : Ex), i < k → exprs[i]? = some e → shapedE e = true) exprs.length ?_ ?_
   ·simp only [Ty.w, simprocAttr, g1]
    exact ⟨rfl, 0, rfl, by omega, rfl, by omega⟩
   ·clear g1 S
    rintro m S h2 ⟨rfl, g1, k, g3, hkk, rfl, hall⟩
    simp only [Fm.cells] at g1
    by_cases hlt : k < exprs.length
    ·clear hop2
     have hd : decide ((k : Int) < (exprs.length : Int)) = true := by simp; omega
     have w7 : IntKind.i64.wrap ((k : Int) + 1) = k + 1 := by rw [wrap64 (by omega) (by omega)]
     obtain ⟨e, hx⟩ : ∃ e, exprs[k]? = some e := ⟨_, List.getElem?_eq_getElem hlt⟩
     have hmem := List.mem_of_getElem? hx
     have hc := rshapedE_c e (hes e hmem)
     have hr := Ex.rows_get hx
     have hbad := hbE e hmem
     have hgood : shapedE e = true → ∀ (i : Nat) (e : Ex), i < k + 1 → exprs[i]? = some e → shapedE e = true := fun h1 i e2 hi hw => by
      by_cases hik : i = k
      ·subst hik; rw [hx] at hw; simp at hw; rw [← hw]; exact h1
      ·exact hall i e2 (by omega) hw
     generalize shapedE e = b at hc hbad hgood
     clear hbE hall
     obtain ⟨o2, n2, v2, a2, k2⟩ := e
     simp only [Ex.cells] at hr hc
     cases b with
     | false =>
      have := hbad rfl
      subst this
      repeat' (first | refine a_seq fun K hK => ?_ | (refine a_regionS ?_; simp (maxSteps := 2000000) only [Ty.w, simprocAttr, g1, g3, hlE, hd, hr, w7]) | (refine a_skip ?_; try simp only [pst0, simprocAttr]) | (refine a_cond _ (by (try simp (maxSteps := 2000000) only [Ty.w, simprocAttr, g1, g3, hlE, hd, hr, w7]); rfl) (fun hb => ?_) (fun hb => ?_) <;> (try simp only [hb0, decide_eq_true_eq, decide_eq_false_iff_not, simprocAttr] at hb) <;> (try (exfalso; omega))) | (refine hK _ _ ?_; clear hK; try simp only [pst0, simprocAttr]))
      refine owp_useQ (hc _) (by (try simp only [Ty.w, simprocAttr, g1, g3, hlE, hd, hr, Bool.not_false]); try rfl) ?_; simp (maxSteps := 2000000) only [Ty.w, simprocAttr, g1, g3, hlE, hd, hr, Bool.not_false]
      repeat' (first | refine a_seq fun K hK => ?_ | ((first | refine a_regionS ?_ | refine a_ret ?_); simp (maxSteps := 2000000) only [Ty.w, simprocAttr, g1, g3, w7, Bool.not_false]) | (refine hK _ _ ?_; clear hK; try simp only [pst0, simprocAttr]))
     | true =>
      repeat' (first | refine a_seq fun K hK => ?_ | (refine a_regionS ?_; simp (maxSteps := 2000000) only [Ty.w, simprocAttr, g1, g3, hlE, hd, hr, w7]) | (refine a_skip ?_; try simp only [pst0, simprocAttr]) | (refine a_cond _ (by (try simp (maxSteps := 2000000) only [Ty.w, simprocAttr, g1, g3, hlE, hd, hr, w7]); rfl) (fun hb => ?_) (fun hb => ?_) <;> (try simp only [hb0, decide_eq_true_eq, decide_eq_false_iff_not, simprocAttr] at hb) <;> (try (exfalso; omega))) | (refine hK _ _ ?_; clear hK; try simp only [pst0, simprocAttr]))
      refine owp_useQ (hc _) (by (try simp only [Ty.w, simprocAttr, g1, g3, hlE, hd, hr, Bool.not_true]); try rfl) ?_; simp (maxSteps := 2000000) only [Ty.w, simprocAttr, g1, g3, hlE, hd, hr, Bool.not_true]
      repeat' (first | (refine a_block ?_) | (refine a_regionS ?_; simp (maxSteps := 2000000) only [Ty.w, simprocAttr, g1, g3, w7, Bool.not_true]) | (refine a_skip ?_; try simp only [pst0, simprocAttr]) | (refine hK _ _ ?_; clear hK; try simp only [pst0, simprocAttr]))
      exact ⟨exprs.length - (k + 1), by omega, rfl, k + 1, by simp, by omega, rfl, hgood rfl⟩
    ·have hd : decide ((k : Int) < (exprs.length : Int)) = false := by simp; omega
     have hF := hop2 fun e he => by
      obtain ⟨i, hi⟩ := List.getElem?_of_mem he
      exact hall i e (by have := (List.getElem?_eq_some_iff.1 hi).1; omega) hi
     clear hop2 hall hbE
     have wa : IntKind.i64.wrap ((params.length : Int) + exprs.length) = (params.length : Int) + exprs.length := by rw [wrap64 (by omega) (by omega)]
     have wb : IntKind.i64.wrap (((params.length : Int) + exprs.length) + kids.length) = ((params.length : Int) + exprs.length) + kids.length := by rw [wrap64 (by omega) (by omega)]
     have wc : IntKind.i64.wrap ((args.length : Int) + params.length) = (args.length : Int) + params.length := by rw [wrap64 (by omega) (by omega)]
     have wd : IntKind.i64.wrap (((args.length : Int) + params.length) + kids.length) = ((args.length : Int) + params.length) + kids.length := by rw [wrap64 (by omega) (by omega)]
     have we : IntKind.i64.wrap (((args.length : Int) + params.length) + exprs.length) = ((args.length : Int) + params.length) + exprs.length := by rw [wrap64 (by omega) (by omega)]
     have wf : IntKind.i64.wrap ((args.length : Int) + exprs.length) = (args.length : Int) + exprs.length := by rw [wrap64 (by omega) (by omega)]
     unfold opF at hF
     simp only [opAtom, opSame, opLt, opLe, opEq, opAnd, opOr, opNot, opImp, opAll, opSome, bEq] at hF
     repeat' (first | (with_reducible refine a_hold 12 ?_) | (first | refine a_seq fun K hK => ?_ | ((first | refine a_regionS ?_ | refine a_drawS (by decide +kernel) ?_); simp (maxSteps := 2000000) only [Ty.w, simprocAttr, g1, g3, hd, hlA, hlP, hlE, hlK, bne]) | (refine a_exit ?_; try simp only [pst0, simprocAttr]) | (refine a_cond _ (by (try simp (maxSteps := 2000000) only [Ty.w, simprocAttr, g1, g3, hd, hlA, hlP, hlE, hlK, bne]); rfl) (fun hb => ?_) (fun hb => ?_) <;> (try simp only [hb0, decide_eq_true_eq, decide_eq_false_iff_not, simprocAttr] at hb) <;> (try (exfalso; omega))) | ((first | refine hK _ _ ?_ | (clear hK; refine hK _ _ ?_)); clear hK; try simp only [pst0, simprocAttr])))
     refine ⟨?_⟩
     refine a_genR (fun S h3 => S 1 = .cptr (Fm.mk op name args params exprs kids).cells ∧ S 5 = .sc (.bool (!(name.data.toList == (#[] : Array UInt8).toList))) ∧ S 6 = .sc (.int .i64 args.length) ∧ S 7 = .sc (.int .i64 params.length) ∧ S 8 = .sc (.int .i64 exprs.length) ∧ S 9 = .sc (.int .i64 kids.length) ∧ h3 = h2) ?_ ?_
     ·simp only [Ty.w, simprocAttr, g1, Fm.cells]
      try trivial
     clear g1 g3 hd S hlA hlP hlE hlK
     rintro S h2 ⟨g1, g5, g6, g7, g8, g9, rfl⟩
     simp only [Fm.cells] at g1
     cases k1 : (op.data.toList == (#[97, 116, 111, 109] : Array UInt8).toList) with
     | true =>
      simp only [k1, Bool.true_or, Bool.or_true, Bool.false_or, if_true, Bool.false_eq_true, if_false] at hF
      generalize nameB name = bN at hN hF
      cases bN with
      | false =>
       try simp only [Bool.false_and, Bool.and_false] at hF
       subst hF
       repeat' (first | refine a_seq fun K hK => ?_ | (refine a_regionS ?_; simp (maxSteps := 2000000) only [Ty.w, simprocAttr, g1, g5, g6, g7, g8, g9, Bool.not_true, Bool.not_false, wa, wb, wc, wd, we, wf, k1]) | (refine hK _ _ ?_; clear hK; try simp only [pst0, simprocAttr]))
       refine owp_useQ (hN _) (by (try simp only [Ty.w, simprocAttr, g1, g5, g6, g7, g8, g9, Bool.not_true, Bool.not_false, wa, wb, wc, wd, we, wf, k1]); try rfl) ?_; simp (maxSteps := 2000000) only [Ty.w, simprocAttr, g1, g5, g6, g7, g8, g9, Bool.not_true, Bool.not_false, wa, wb, wc, wd, we, wf, k1]
       repeat' (first | (refine a_ret ?_; simp (maxSteps := 2000000) only [Ty.w, simprocAttr, g1, g5, g6, g7, g8, g9, Bool.not_true, Bool.not_false, wa, wb, wc, wd, we, wf, k1]) | (refine hK _ _ ?_; clear hK; try simp only [pst0, simprocAttr]))
       all_goals rfl
      | true =>
       try simp only [Bool.true_and, Bool.and_true] at hF
       generalize args.all termB = bA at hA hF
       cases bA with
       | false =>
        try simp only [Bool.false_and, Bool.and_false] at hF
        subst hF
        have W := And.intro g1 (And.intro g5 (And.intro g6 (And.intro g7 (And.intro g8 (And.intro g9 (And.intro wa (And.intro wb (And.intro wc (And.intro wd (And.intro we (And.intro wf k1)))))))))))
        repeat' (first | refine a_seq fun K hK => ?_ | (refine a_regionS ?_; simp (maxSteps := 2000000) only [Ty.w, simprocAttr, W, Bool.not_true, Bool.not_false]) | (refine hK _ _ ?_; clear hK; try simp only [pst0, simprocAttr]))
        refine owp_useQ (hN _) (by (try simp only [Ty.w, simprocAttr, W, Bool.not_true, Bool.not_false]); try rfl) ?_; simp (maxSteps := 2000000) only [Ty.w, simprocAttr, W, Bool.not_true, Bool.not_false]
        skip
        refine owp_useQ (hA _) (by (try simp only [Ty.w, simprocAttr, W, Bool.not_true, Bool.not_false]); try rfl) ?_; simp (maxSteps := 2000000) only [Ty.w, simprocAttr, W, Bool.not_true, Bool.not_false]
        repeat' (first | (refine a_ret ?_; simp (maxSteps := 2000000) only [Ty.w, simprocAttr, W, Bool.not_true, Bool.not_false]) | (refine hK _ _ ?_; clear hK; try simp only [pst0, simprocAttr]))
        all_goals rfl
       | true =>
        try simp only [Bool.true_and, Bool.and_true] at hF
        cases q2 : ((((params.length : Int) + exprs.length) + kids.length) == 0) with
        | false =>
         simp only [q2, Bool.false_and, Bool.and_false] at hF
         subst hF
         have W := And.intro g1 (And.intro g5 (And.intro g6 (And.intro g7 (And.intro g8 (And.intro g9 (And.intro wa (And.intro wb (And.intro wc (And.intro wd (And.intro we (And.intro wf (And.intro k1 q2))))))))))))
         repeat' (first | refine a_seq fun K hK => ?_ | (refine a_regionS ?_; simp (maxSteps := 2000000) only [Ty.w, simprocAttr, W, Bool.not_true, Bool.not_false]) | (refine hK _ _ ?_; clear hK; try simp only [pst0, simprocAttr]))
         refine owp_useQ (hN _) (by (try simp only [Ty.w, simprocAttr, W, Bool.not_true, Bool.not_false]); try rfl) ?_; simp (maxSteps := 2000000) only [Ty.w, simprocAttr, W, Bool.not_true, Bool.not_false]
         skip
         refine owp_useQ (hA _) (by (try simp only [Ty.w, simprocAttr, W, Bool.not_true, Bool.not_false]); try rfl) ?_; simp (maxSteps := 2000000) only [Ty.w, simprocAttr, W, Bool.not_true, Bool.not_false]
         repeat' (first | (refine a_ret ?_; simp (maxSteps := 2000000) only [Ty.w, simprocAttr, W, Bool.not_true, Bool.not_false]) | (refine hK _ _ ?_; clear hK; try simp only [pst0, simprocAttr]))
         all_goals rfl
        | true =>
         simp only [q2, Bool.true_and, Bool.and_true] at hF
         subst hF
         have W := And.intro g1 (And.intro g5 (And.intro g6 (And.intro g7 (And.intro g8 (And.intro g9 (And.intro wa (And.intro wb (And.intro wc (And.intro wd (And.intro we (And.intro wf (And.intro k1 q2))))))))))))
         repeat' (first | refine a_seq fun K hK => ?_ | (refine a_regionS ?_; simp (maxSteps := 2000000) only [Ty.w, simprocAttr, W, Bool.not_true, Bool.not_false]) | (refine hK _ _ ?_; clear hK; try simp only [pst0, simprocAttr]))
         refine owp_useQ (hN _) (by (try simp only [Ty.w, simprocAttr, W, Bool.not_true, Bool.not_false]); try rfl) ?_; simp (maxSteps := 2000000) only [Ty.w, simprocAttr, W, Bool.not_true, Bool.not_false]
         skip
         refine owp_useQ (hA _) (by (try simp only [Ty.w, simprocAttr, W, Bool.not_true, Bool.not_false]); try rfl) ?_; simp (maxSteps := 2000000) only [Ty.w, simprocAttr, W, Bool.not_true, Bool.not_false]
         repeat' (first | (refine a_ret ?_; simp (maxSteps := 2000000) only [Ty.w, simprocAttr, W, Bool.not_true, Bool.not_false]) | (refine hK _ _ ?_; clear hK; try simp only [pst0, simprocAttr]))
         all_goals rfl
     | false =>
      simp only [k1, Bool.true_or, Bool.or_true, Bool.false_or, if_true, Bool.false_eq_true, if_false] at hF
      cases k2 : (op.data.toList == (#[115, 97, 109, 101] : Array UInt8).toList) with
      | true =>
       simp only [k2, Bool.true_or, Bool.or_true, Bool.false_or, if_true, Bool.false_eq_true, if_false] at hF
       cases q0 : (name.data.toList == (#[] : Array UInt8).toList) with
       | false =>
        simp only [q0, Bool.false_and, Bool.and_false] at hF
        subst hF
        repeat' (first | refine a_seq fun K hK => ?_ | ((first | refine a_regionS ?_ | refine a_ret ?_); simp (maxSteps := 2000000) only [Ty.w, simprocAttr, g1, g5, g6, g7, g8, g9, Bool.not_true, Bool.not_false, wa, wb, wc, wd, we, wf, k1, k2, q0]) | (refine hK _ _ ?_; clear hK; try simp only [pst0, simprocAttr]))
        all_goals rfl
       | true =>
        simp only [q0, Bool.true_and, Bool.and_true] at hF
        cases q1 : ((args.length : Int) == 2) with
        | false =>
         simp only [q1, Bool.false_and, Bool.and_false] at hF
         subst hF
         repeat' (first | refine a_seq fun K hK => ?_ | ((first | refine a_regionS ?_ | refine a_ret ?_); simp (maxSteps := 2000000) only [Ty.w, simprocAttr, g1, g5, g6, g7, g8, g9, Bool.not_true, Bool.not_false, wa, wb, wc, wd, we, wf, k1, k2, q0, q1]) | (refine hK _ _ ?_; clear hK; try simp only [pst0, simprocAttr]))
         all_goals rfl
        | true =>
         simp only [q1, Bool.true_and, Bool.and_true] at hF
         generalize args.all termB = bA at hA hF
         cases bA with
         | false =>
          try simp only [Bool.false_and, Bool.and_false] at hF
          subst hF
          repeat' (first | refine a_seq fun K hK => ?_ | (refine a_regionS ?_; simp (maxSteps := 2000000) only [Ty.w, simprocAttr, g1, g5, g6, g7, g8, g9, Bool.not_true, Bool.not_false, wa, wb, wc, wd, we, wf, k1, k2, q0, q1]) | (refine hK _ _ ?_; clear hK; try simp only [pst0, simprocAttr]))
          refine owp_useQ (hA _) (by (try simp only [Ty.w, simprocAttr, g1, g5, g6, g7, g8, g9, Bool.not_true, Bool.not_false, wa, wb, wc, wd, we, wf, k1, k2, q0, q1]); try rfl) ?_; simp (maxSteps := 2000000) only [Ty.w, simprocAttr, g1, g5, g6, g7, g8, g9, Bool.not_true, Bool.not_false, wa, wb, wc, wd, we, wf, k1, k2, q0, q1]
          repeat' (first | (refine a_ret ?_; simp (maxSteps := 2000000) only [Ty.w, simprocAttr, g1, g5, g6, g7, g8, g9, Bool.not_true, Bool.not_false, wa, wb, wc, wd, we, wf, k1, k2, q0, q1]) | (refine hK _ _ ?_; clear hK; try simp only [pst0, simprocAttr]))
          all_goals rfl
         | true =>
          try simp only [Bool.true_and, Bool.and_true] at hF
          cases q3 : ((((params.length : Int) + exprs.length) + kids.length) == 0) with
          | false =>
           simp only [q3, Bool.false_and, Bool.and_false] at hF
           subst hF
           repeat' (first | refine a_seq fun K hK => ?_ | (refine a_regionS ?_; simp (maxSteps := 2000000) only [Ty.w, simprocAttr, g1, g5, g6, g7, g8, g9, Bool.not_true, Bool.not_false, wa, wb, wc, wd, we, wf, k1, k2, q0, q1, q3]) | (refine hK _ _ ?_; clear hK; try simp only [pst0, simprocAttr]))
           refine owp_useQ (hA _) (by (try simp only [Ty.w, simprocAttr, g1, g5, g6, g7, g8, g9, Bool.not_true, Bool.not_false, wa, wb, wc, wd, we, wf, k1, k2, q0, q1, q3]); try rfl) ?_; simp (maxSteps := 2000000) only [Ty.w, simprocAttr, g1, g5, g6, g7, g8, g9, Bool.not_true, Bool.not_false, wa, wb, wc, wd, we, wf, k1, k2, q0, q1, q3]
           repeat' (first | (refine a_ret ?_; simp (maxSteps := 2000000) only [Ty.w, simprocAttr, g1, g5, g6, g7, g8, g9, Bool.not_true, Bool.not_false, wa, wb, wc, wd, we, wf, k1, k2, q0, q1, q3]) | (refine hK _ _ ?_; clear hK; try simp only [pst0, simprocAttr]))
           all_goals rfl
          | true =>
           simp only [q3, Bool.true_and, Bool.and_true] at hF
           subst hF
           repeat' (first | refine a_seq fun K hK => ?_ | (refine a_regionS ?_; simp (maxSteps := 2000000) only [Ty.w, simprocAttr, g1, g5, g6, g7, g8, g9, Bool.not_true, Bool.not_false, wa, wb, wc, wd, we, wf, k1, k2, q0, q1, q3]) | (refine hK _ _ ?_; clear hK; try simp only [pst0, simprocAttr]))
           refine owp_useQ (hA _) (by (try simp only [Ty.w, simprocAttr, g1, g5, g6, g7, g8, g9, Bool.not_true, Bool.not_false, wa, wb, wc, wd, we, wf, k1, k2, q0, q1, q3]); try rfl) ?_; simp (maxSteps := 2000000) only [Ty.w, simprocAttr, g1, g5, g6, g7, g8, g9, Bool.not_true, Bool.not_false, wa, wb, wc, wd, we, wf, k1, k2, q0, q1, q3]
           repeat' (first | (refine a_ret ?_; simp (maxSteps := 2000000) only [Ty.w, simprocAttr, g1, g5, g6, g7, g8, g9, Bool.not_true, Bool.not_false, wa, wb, wc, wd, we, wf, k1, k2, q0, q1, q3]) | (refine hK _ _ ?_; clear hK; try simp only [pst0, simprocAttr]))
           all_goals rfl
      | false =>
       simp only [k2, Bool.true_or, Bool.or_true, Bool.false_or, if_true, Bool.false_eq_true, if_false] at hF
       cases k3 : (op.data.toList == (#[60] : Array UInt8).toList) with
       | true =>
        simp only [k3, Bool.true_or, Bool.or_true, Bool.false_or, if_true, Bool.false_eq_true, if_false] at hF
        cases q0 : (name.data.toList == (#[] : Array UInt8).toList) with
        | false =>
         simp only [q0, Bool.false_and, Bool.and_false] at hF
         subst hF
         repeat' (first | refine a_seq fun K hK => ?_ | ((first | refine a_regionS ?_ | refine a_ret ?_); simp (maxSteps := 2000000) only [Ty.w, simprocAttr, g1, g5, g6, g7, g8, g9, Bool.not_true, Bool.not_false, wa, wb, wc, wd, we, wf, k1, k2, k3, q0]) | (refine a_skip ?_; try simp only [pst0, simprocAttr]) | (refine a_cond _ (by (try simp (maxSteps := 2000000) only [Ty.w, simprocAttr, g1, g5, g6, g7, g8, g9, Bool.not_true, Bool.not_false, wa, wb, wc, wd, we, wf, k1, k2, k3, q0]); rfl) (fun hb => ?_) (fun hb => ?_) <;> (try simp only [hb0, decide_eq_true_eq, decide_eq_false_iff_not, simprocAttr] at hb) <;> (try (exfalso; omega))) | (refine hK _ _ ?_; clear hK; try simp only [pst0, simprocAttr]))
         all_goals rfl
        | true =>
         simp only [q0, Bool.true_and, Bool.and_true] at hF
         cases q1 : ((((args.length : Int) + params.length) + kids.length) == 0) with
         | false =>
          simp only [q1, Bool.false_and, Bool.and_false] at hF
          subst hF
          repeat' (first | refine a_seq fun K hK => ?_ | ((first | refine a_regionS ?_ | refine a_ret ?_); simp (maxSteps := 2000000) only [Ty.w, simprocAttr, g1, g5, g6, g7, g8, g9, Bool.not_true, Bool.not_false, wa, wb, wc, wd, we, wf, k1, k2, k3, q0, q1]) | (refine a_skip ?_; try simp only [pst0, simprocAttr]) | (refine a_cond _ (by (try simp (maxSteps := 2000000) only [Ty.w, simprocAttr, g1, g5, g6, g7, g8, g9, Bool.not_true, Bool.not_false, wa, wb, wc, wd, we, wf, k1, k2, k3, q0, q1]); rfl) (fun hb => ?_) (fun hb => ?_) <;> (try simp only [hb0, decide_eq_true_eq, decide_eq_false_iff_not, simprocAttr] at hb) <;> (try (exfalso; omega))) | (refine hK _ _ ?_; clear hK; try simp only [pst0, simprocAttr]))
          all_goals rfl
         | true =>
          simp only [q1, Bool.true_and, Bool.and_true] at hF
          cases q2 : ((exprs.length : Int) == 2) with
          | false =>
           simp only [q2, Bool.false_and, Bool.and_false] at hF
           subst hF
           repeat' (first | refine a_seq fun K hK => ?_ | ((first | refine a_regionS ?_ | refine a_ret ?_); simp (maxSteps := 2000000) only [Ty.w, simprocAttr, g1, g5, g6, g7, g8, g9, Bool.not_true, Bool.not_false, wa, wb, wc, wd, we, wf, k1, k2, k3, q0, q1, q2]) | (refine a_skip ?_; try simp only [pst0, simprocAttr]) | (refine a_cond _ (by (try simp (maxSteps := 2000000) only [Ty.w, simprocAttr, g1, g5, g6, g7, g8, g9, Bool.not_true, Bool.not_false, wa, wb, wc, wd, we, wf, k1, k2, k3, q0, q1, q2]); rfl) (fun hb => ?_) (fun hb => ?_) <;> (try simp only [hb0, decide_eq_true_eq, decide_eq_false_iff_not, simprocAttr] at hb) <;> (try (exfalso; omega))) | (refine hK _ _ ?_; clear hK; try simp only [pst0, simprocAttr]))
           all_goals rfl
          | true =>
           simp only [q2, Bool.true_and, Bool.and_true] at hF
           subst hF
           repeat' (first | refine a_seq fun K hK => ?_ | ((first | refine a_regionS ?_ | refine a_ret ?_); simp (maxSteps := 2000000) only [Ty.w, simprocAttr, g1, g5, g6, g7, g8, g9, Bool.not_true, Bool.not_false, wa, wb, wc, wd, we, wf, k1, k2, k3, q0, q1, q2]) | (refine a_skip ?_; try simp only [pst0, simprocAttr]) | (refine a_cond _ (by (try simp (maxSteps := 2000000) only [Ty.w, simprocAttr, g1, g5, g6, g7, g8, g9, Bool.not_true, Bool.not_false, wa, wb, wc, wd, we, wf, k1, k2, k3, q0, q1, q2]); rfl) (fun hb => ?_) (fun hb => ?_) <;> (try simp only [hb0, decide_eq_true_eq, decide_eq_false_iff_not, simprocAttr] at hb) <;> (try (exfalso; omega))) | (refine hK _ _ ?_; clear hK; try simp only [pst0, simprocAttr]))
           all_goals rfl
       | false =>
        simp only [k3, Bool.true_or, Bool.or_true, Bool.false_or, if_true, Bool.false_eq_true, if_false] at hF
        cases k4 : (op.data.toList == (#[60, 61] : Array UInt8).toList) with
        | true =>
         simp only [k4, Bool.true_or, Bool.or_true, Bool.false_or, if_true, Bool.false_eq_true, if_false] at hF
         cases q0 : (name.data.toList == (#[] : Array UInt8).toList) with
         | false =>
          simp only [q0, Bool.false_and, Bool.and_false] at hF
          subst hF
          repeat' (first | refine a_seq fun K hK => ?_ | ((first | refine a_regionS ?_ | refine a_ret ?_); simp (maxSteps := 2000000) only [Ty.w, simprocAttr, g1, g5, g6, g7, g8, g9, Bool.not_true, Bool.not_false, wa, wb, wc, wd, we, wf, k1, k2, k3, k4, q0]) | (refine a_skip ?_; try simp only [pst0, simprocAttr]) | (refine a_cond _ (by (try simp (maxSteps := 2000000) only [Ty.w, simprocAttr, g1, g5, g6, g7, g8, g9, Bool.not_true, Bool.not_false, wa, wb, wc, wd, we, wf, k1, k2, k3, k4, q0]); rfl) (fun hb => ?_) (fun hb => ?_) <;> (try simp only [hb0, decide_eq_true_eq, decide_eq_false_iff_not, simprocAttr] at hb) <;> (try (exfalso; omega))) | (refine hK _ _ ?_; clear hK; try simp only [pst0, simprocAttr]))
          all_goals rfl
         | true =>
          simp only [q0, Bool.true_and, Bool.and_true] at hF
          cases q1 : ((((args.length : Int) + params.length) + kids.length) == 0) with
          | false =>
           simp only [q1, Bool.false_and, Bool.and_false] at hF
           subst hF
           repeat' (first | refine a_seq fun K hK => ?_ | ((first | refine a_regionS ?_ | refine a_ret ?_); simp (maxSteps := 2000000) only [Ty.w, simprocAttr, g1, g5, g6, g7, g8, g9, Bool.not_true, Bool.not_false, wa, wb, wc, wd, we, wf, k1, k2, k3, k4, q0, q1]) | (refine a_skip ?_; try simp only [pst0, simprocAttr]) | (refine a_cond _ (by (try simp (maxSteps := 2000000) only [Ty.w, simprocAttr, g1, g5, g6, g7, g8, g9, Bool.not_true, Bool.not_false, wa, wb, wc, wd, we, wf, k1, k2, k3, k4, q0, q1]); rfl) (fun hb => ?_) (fun hb => ?_) <;> (try simp only [hb0, decide_eq_true_eq, decide_eq_false_iff_not, simprocAttr] at hb) <;> (try (exfalso; omega))) | (refine hK _ _ ?_; clear hK; try simp only [pst0, simprocAttr]))
           all_goals rfl
          | true =>
           simp only [q1, Bool.true_and, Bool.and_true] at hF
           cases q2 : ((exprs.length : Int) == 2) with
           | false =>
            simp only [q2, Bool.false_and, Bool.and_false] at hF
            subst hF
            repeat' (first | refine a_seq fun K hK => ?_ | ((first | refine a_regionS ?_ | refine a_ret ?_); simp (maxSteps := 2000000) only [Ty.w, simprocAttr, g1, g5, g6, g7, g8, g9, Bool.not_true, Bool.not_false, wa, wb, wc, wd, we, wf, k1, k2, k3, k4, q0, q1, q2]) | (refine a_skip ?_; try simp only [pst0, simprocAttr]) | (refine a_cond _ (by (try simp (maxSteps := 2000000) only [Ty.w, simprocAttr, g1, g5, g6, g7, g8, g9, Bool.not_true, Bool.not_false, wa, wb, wc, wd, we, wf, k1, k2, k3, k4, q0, q1, q2]); rfl) (fun hb => ?_) (fun hb => ?_) <;> (try simp only [hb0, decide_eq_true_eq, decide_eq_false_iff_not, simprocAttr] at hb) <;> (try (exfalso; omega))) | (refine hK _ _ ?_; clear hK; try simp only [pst0, simprocAttr]))
            all_goals rfl
           | true =>
            simp only [q2, Bool.true_and, Bool.and_true] at hF
            subst hF
            repeat' (first | refine a_seq fun K hK => ?_ | ((first | refine a_regionS ?_ | refine a_ret ?_); simp (maxSteps := 2000000) only [Ty.w, simprocAttr, g1, g5, g6, g7, g8, g9, Bool.not_true, Bool.not_false, wa, wb, wc, wd, we, wf, k1, k2, k3, k4, q0, q1, q2]) | (refine a_skip ?_; try simp only [pst0, simprocAttr]) | (refine a_cond _ (by (try simp (maxSteps := 2000000) only [Ty.w, simprocAttr, g1, g5, g6, g7, g8, g9, Bool.not_true, Bool.not_false, wa, wb, wc, wd, we, wf, k1, k2, k3, k4, q0, q1, q2]); rfl) (fun hb => ?_) (fun hb => ?_) <;> (try simp only [hb0, decide_eq_true_eq, decide_eq_false_iff_not, simprocAttr] at hb) <;> (try (exfalso; omega))) | (refine hK _ _ ?_; clear hK; try simp only [pst0, simprocAttr]))
            all_goals rfl
        | false =>
         simp only [k4, Bool.true_or, Bool.or_true, Bool.false_or, if_true, Bool.false_eq_true, if_false] at hF
         cases k5 : (op.data.toList == (#[61] : Array UInt8).toList) with
         | true =>
          simp only [k5, Bool.true_or, Bool.or_true, Bool.false_or, if_true, Bool.false_eq_true, if_false] at hF
          cases q0 : (name.data.toList == (#[] : Array UInt8).toList) with
          | false =>
           simp only [q0, Bool.false_and, Bool.and_false] at hF
           subst hF
           repeat' (first | refine a_seq fun K hK => ?_ | ((first | refine a_regionS ?_ | refine a_ret ?_); simp (maxSteps := 2000000) only [Ty.w, simprocAttr, g1, g5, g6, g7, g8, g9, Bool.not_true, Bool.not_false, wa, wb, wc, wd, we, wf, k1, k2, k3, k4, k5, q0]) | (refine a_cond _ (by (try simp (maxSteps := 2000000) only [Ty.w, simprocAttr, g1, g5, g6, g7, g8, g9, Bool.not_true, Bool.not_false, wa, wb, wc, wd, we, wf, k1, k2, k3, k4, k5, q0]); rfl) (fun hb => ?_) (fun hb => ?_) <;> (try simp only [hb0, decide_eq_true_eq, decide_eq_false_iff_not, simprocAttr] at hb) <;> (try (exfalso; omega))) | (refine hK _ _ ?_; clear hK; try simp only [pst0, simprocAttr]))
           all_goals rfl
          | true =>
           simp only [q0, Bool.true_and, Bool.and_true] at hF
           cases q1 : ((((args.length : Int) + params.length) + kids.length) == 0) with
           | false =>
            simp only [q1, Bool.false_and, Bool.and_false] at hF
            subst hF
            repeat' (first | refine a_seq fun K hK => ?_ | ((first | refine a_regionS ?_ | refine a_ret ?_); simp (maxSteps := 2000000) only [Ty.w, simprocAttr, g1, g5, g6, g7, g8, g9, Bool.not_true, Bool.not_false, wa, wb, wc, wd, we, wf, k1, k2, k3, k4, k5, q0, q1]) | (refine a_cond _ (by (try simp (maxSteps := 2000000) only [Ty.w, simprocAttr, g1, g5, g6, g7, g8, g9, Bool.not_true, Bool.not_false, wa, wb, wc, wd, we, wf, k1, k2, k3, k4, k5, q0, q1]); rfl) (fun hb => ?_) (fun hb => ?_) <;> (try simp only [hb0, decide_eq_true_eq, decide_eq_false_iff_not, simprocAttr] at hb) <;> (try (exfalso; omega))) | (refine hK _ _ ?_; clear hK; try simp only [pst0, simprocAttr]))
            all_goals rfl
           | true =>
            simp only [q1, Bool.true_and, Bool.and_true] at hF
            cases q2 : ((exprs.length : Int) == 2) with
            | false =>
             simp only [q2, Bool.false_and, Bool.and_false] at hF
             subst hF
             repeat' (first | refine a_seq fun K hK => ?_ | ((first | refine a_regionS ?_ | refine a_ret ?_); simp (maxSteps := 2000000) only [Ty.w, simprocAttr, g1, g5, g6, g7, g8, g9, Bool.not_true, Bool.not_false, wa, wb, wc, wd, we, wf, k1, k2, k3, k4, k5, q0, q1, q2]) | (refine a_cond _ (by (try simp (maxSteps := 2000000) only [Ty.w, simprocAttr, g1, g5, g6, g7, g8, g9, Bool.not_true, Bool.not_false, wa, wb, wc, wd, we, wf, k1, k2, k3, k4, k5, q0, q1, q2]); rfl) (fun hb => ?_) (fun hb => ?_) <;> (try simp only [hb0, decide_eq_true_eq, decide_eq_false_iff_not, simprocAttr] at hb) <;> (try (exfalso; omega))) | (refine hK _ _ ?_; clear hK; try simp only [pst0, simprocAttr]))
             all_goals rfl
            | true =>
             simp only [q2, Bool.true_and, Bool.and_true] at hF
             subst hF
             repeat' (first | refine a_seq fun K hK => ?_ | ((first | refine a_regionS ?_ | refine a_ret ?_); simp (maxSteps := 2000000) only [Ty.w, simprocAttr, g1, g5, g6, g7, g8, g9, Bool.not_true, Bool.not_false, wa, wb, wc, wd, we, wf, k1, k2, k3, k4, k5, q0, q1, q2]) | (refine a_cond _ (by (try simp (maxSteps := 2000000) only [Ty.w, simprocAttr, g1, g5, g6, g7, g8, g9, Bool.not_true, Bool.not_false, wa, wb, wc, wd, we, wf, k1, k2, k3, k4, k5, q0, q1, q2]); rfl) (fun hb => ?_) (fun hb => ?_) <;> (try simp only [hb0, decide_eq_true_eq, decide_eq_false_iff_not, simprocAttr] at hb) <;> (try (exfalso; omega))) | (refine hK _ _ ?_; clear hK; try simp only [pst0, simprocAttr]))
             all_goals rfl
         | false =>
          simp only [k5, Bool.true_or, Bool.or_true, Bool.false_or, if_true, Bool.false_eq_true, if_false] at hF
          cases k6 : (op.data.toList == (#[97, 110, 100] : Array UInt8).toList) with
          | true =>
           simp only [k6, Bool.true_or, Bool.or_true, Bool.false_or, if_true, Bool.false_eq_true, if_false] at hF
           cases q0 : (name.data.toList == (#[] : Array UInt8).toList) with
           | false =>
            simp only [q0, Bool.false_and, Bool.and_false] at hF
            subst hF
            repeat' (first | refine a_seq fun K hK => ?_ | ((first | refine a_regionS ?_ | refine a_ret ?_); simp (maxSteps := 2000000) only [Ty.w, simprocAttr, g1, g5, g6, g7, g8, g9, Bool.not_true, Bool.not_false, wa, wb, wc, wd, we, wf, k1, k2, k3, k4, k5, k6, q0]) | (refine a_skip ?_; try simp only [pst0, simprocAttr]) | (refine a_cond _ (by (try simp (maxSteps := 2000000) only [Ty.w, simprocAttr, g1, g5, g6, g7, g8, g9, Bool.not_true, Bool.not_false, wa, wb, wc, wd, we, wf, k1, k2, k3, k4, k5, k6, q0]); rfl) (fun hb => ?_) (fun hb => ?_) <;> (try simp only [hb0, decide_eq_true_eq, decide_eq_false_iff_not, simprocAttr] at hb) <;> (try (exfalso; omega))) | (refine hK _ _ ?_; clear hK; try simp only [pst0, simprocAttr]))
            all_goals rfl
           | true =>
            simp only [q0, Bool.true_and, Bool.and_true] at hF
            cases q1 : ((((args.length : Int) + params.length) + exprs.length) == 0) with
            | false =>
             simp only [q1, Bool.false_and, Bool.and_false] at hF
             subst hF
             repeat' (first | refine a_seq fun K hK => ?_ | ((first | refine a_regionS ?_ | refine a_ret ?_); simp (maxSteps := 2000000) only [Ty.w, simprocAttr, g1, g5, g6, g7, g8, g9, Bool.not_true, Bool.not_false, wa, wb, wc, wd, we, wf, k1, k2, k3, k4, k5, k6, q0, q1]) | (refine a_skip ?_; try simp only [pst0, simprocAttr]) | (refine a_cond _ (by (try simp (maxSteps := 2000000) only [Ty.w, simprocAttr, g1, g5, g6, g7, g8, g9, Bool.not_true, Bool.not_false, wa, wb, wc, wd, we, wf, k1, k2, k3, k4, k5, k6, q0, q1]); rfl) (fun hb => ?_) (fun hb => ?_) <;> (try simp only [hb0, decide_eq_true_eq, decide_eq_false_iff_not, simprocAttr] at hb) <;> (try (exfalso; omega))) | (refine hK _ _ ?_; clear hK; try simp only [pst0, simprocAttr]))
             all_goals rfl
            | true =>
             simp only [q1, Bool.true_and, Bool.and_true] at hF
             subst hF
             repeat' (first | refine a_seq fun K hK => ?_ | ((first | refine a_regionS ?_ | refine a_ret ?_); simp (maxSteps := 2000000) only [Ty.w, simprocAttr, g1, g5, g6, g7, g8, g9, Bool.not_true, Bool.not_false, wa, wb, wc, wd, we, wf, k1, k2, k3, k4, k5, k6, q0, q1]) | (refine a_skip ?_; try simp only [pst0, simprocAttr]) | (refine a_cond _ (by (try simp (maxSteps := 2000000) only [Ty.w, simprocAttr, g1, g5, g6, g7, g8, g9, Bool.not_true, Bool.not_false, wa, wb, wc, wd, we, wf, k1, k2, k3, k4, k5, k6, q0, q1]); rfl) (fun hb => ?_) (fun hb => ?_) <;> (try simp only [hb0, decide_eq_true_eq, decide_eq_false_iff_not, simprocAttr] at hb) <;> (try (exfalso; omega))) | (refine hK _ _ ?_; clear hK; try simp only [pst0, simprocAttr]))
             all_goals rfl
          | false =>
           simp only [k6, Bool.true_or, Bool.or_true, Bool.false_or, if_true, Bool.false_eq_true, if_false] at hF
           cases k7 : (op.data.toList == (#[111, 114] : Array UInt8).toList) with
           | true =>
            simp only [k7, Bool.true_or, Bool.or_true, Bool.false_or, if_true, Bool.false_eq_true, if_false] at hF
            cases q0 : (name.data.toList == (#[] : Array UInt8).toList) with
            | false =>
             simp only [q0, Bool.false_and, Bool.and_false] at hF
             subst hF
             repeat' (first | refine a_seq fun K hK => ?_ | ((first | refine a_regionS ?_ | refine a_ret ?_); simp (maxSteps := 2000000) only [Ty.w, simprocAttr, g1, g5, g6, g7, g8, g9, Bool.not_true, Bool.not_false, wa, wb, wc, wd, we, wf, k1, k2, k3, k4, k5, k6, k7, q0]) | (refine a_cond _ (by (try simp (maxSteps := 2000000) only [Ty.w, simprocAttr, g1, g5, g6, g7, g8, g9, Bool.not_true, Bool.not_false, wa, wb, wc, wd, we, wf, k1, k2, k3, k4, k5, k6, k7, q0]); rfl) (fun hb => ?_) (fun hb => ?_) <;> (try simp only [hb0, decide_eq_true_eq, decide_eq_false_iff_not, simprocAttr] at hb) <;> (try (exfalso; omega))) | (refine hK _ _ ?_; clear hK; try simp only [pst0, simprocAttr]))
             all_goals rfl
            | true =>
             simp only [q0, Bool.true_and, Bool.and_true] at hF
             cases q1 : ((((args.length : Int) + params.length) + exprs.length) == 0) with
             | false =>
              simp only [q1, Bool.false_and, Bool.and_false] at hF
              subst hF
              repeat' (first | refine a_seq fun K hK => ?_ | ((first | refine a_regionS ?_ | refine a_ret ?_); simp (maxSteps := 2000000) only [Ty.w, simprocAttr, g1, g5, g6, g7, g8, g9, Bool.not_true, Bool.not_false, wa, wb, wc, wd, we, wf, k1, k2, k3, k4, k5, k6, k7, q0, q1]) | (refine a_cond _ (by (try simp (maxSteps := 2000000) only [Ty.w, simprocAttr, g1, g5, g6, g7, g8, g9, Bool.not_true, Bool.not_false, wa, wb, wc, wd, we, wf, k1, k2, k3, k4, k5, k6, k7, q0, q1]); rfl) (fun hb => ?_) (fun hb => ?_) <;> (try simp only [hb0, decide_eq_true_eq, decide_eq_false_iff_not, simprocAttr] at hb) <;> (try (exfalso; omega))) | (refine hK _ _ ?_; clear hK; try simp only [pst0, simprocAttr]))
              all_goals rfl
             | true =>
              simp only [q1, Bool.true_and, Bool.and_true] at hF
              subst hF
              repeat' (first | refine a_seq fun K hK => ?_ | ((first | refine a_regionS ?_ | refine a_ret ?_); simp (maxSteps := 2000000) only [Ty.w, simprocAttr, g1, g5, g6, g7, g8, g9, Bool.not_true, Bool.not_false, wa, wb, wc, wd, we, wf, k1, k2, k3, k4, k5, k6, k7, q0, q1]) | (refine a_cond _ (by (try simp (maxSteps := 2000000) only [Ty.w, simprocAttr, g1, g5, g6, g7, g8, g9, Bool.not_true, Bool.not_false, wa, wb, wc, wd, we, wf, k1, k2, k3, k4, k5, k6, k7, q0, q1]); rfl) (fun hb => ?_) (fun hb => ?_) <;> (try simp only [hb0, decide_eq_true_eq, decide_eq_false_iff_not, simprocAttr] at hb) <;> (try (exfalso; omega))) | (refine hK _ _ ?_; clear hK; try simp only [pst0, simprocAttr]))
              all_goals rfl
           | false =>
            simp only [k7, Bool.true_or, Bool.or_true, Bool.false_or, if_true, Bool.false_eq_true, if_false] at hF
            cases k8 : (op.data.toList == (#[110, 111, 116] : Array UInt8).toList) with
            | true =>
             simp only [k8, Bool.true_or, Bool.or_true, Bool.false_or, if_true, Bool.false_eq_true, if_false] at hF
             cases q0 : (name.data.toList == (#[] : Array UInt8).toList) with
             | false =>
              simp only [q0, Bool.false_and, Bool.and_false] at hF
              subst hF
              repeat' (first | refine a_seq fun K hK => ?_ | ((first | refine a_regionS ?_ | refine a_ret ?_); simp (maxSteps := 2000000) only [Ty.w, simprocAttr, g1, g5, g6, g7, g8, g9, Bool.not_true, Bool.not_false, wa, wb, wc, wd, we, wf, k1, k2, k3, k4, k5, k6, k7, k8, q0]) | (refine a_cond _ (by (try simp (maxSteps := 2000000) only [Ty.w, simprocAttr, g1, g5, g6, g7, g8, g9, Bool.not_true, Bool.not_false, wa, wb, wc, wd, we, wf, k1, k2, k3, k4, k5, k6, k7, k8, q0]); rfl) (fun hb => ?_) (fun hb => ?_) <;> (try simp only [hb0, decide_eq_true_eq, decide_eq_false_iff_not, simprocAttr] at hb) <;> (try (exfalso; omega))) | (refine hK _ _ ?_; clear hK; try simp only [pst0, simprocAttr]))
              all_goals rfl
             | true =>
              simp only [q0, Bool.true_and, Bool.and_true] at hF
              cases q1 : ((((args.length : Int) + params.length) + exprs.length) == 0) with
              | false =>
               simp only [q1, Bool.false_and, Bool.and_false] at hF
               subst hF
               repeat' (first | refine a_seq fun K hK => ?_ | ((first | refine a_regionS ?_ | refine a_ret ?_); simp (maxSteps := 2000000) only [Ty.w, simprocAttr, g1, g5, g6, g7, g8, g9, Bool.not_true, Bool.not_false, wa, wb, wc, wd, we, wf, k1, k2, k3, k4, k5, k6, k7, k8, q0, q1]) | (refine a_cond _ (by (try simp (maxSteps := 2000000) only [Ty.w, simprocAttr, g1, g5, g6, g7, g8, g9, Bool.not_true, Bool.not_false, wa, wb, wc, wd, we, wf, k1, k2, k3, k4, k5, k6, k7, k8, q0, q1]); rfl) (fun hb => ?_) (fun hb => ?_) <;> (try simp only [hb0, decide_eq_true_eq, decide_eq_false_iff_not, simprocAttr] at hb) <;> (try (exfalso; omega))) | (refine hK _ _ ?_; clear hK; try simp only [pst0, simprocAttr]))
               all_goals rfl
              | true =>
               simp only [q1, Bool.true_and, Bool.and_true] at hF
               cases q2 : ((kids.length : Int) == 1) with
               | false =>
                simp only [q2, Bool.false_and, Bool.and_false] at hF
                subst hF
                repeat' (first | refine a_seq fun K hK => ?_ | ((first | refine a_regionS ?_ | refine a_ret ?_); simp (maxSteps := 2000000) only [Ty.w, simprocAttr, g1, g5, g6, g7, g8, g9, Bool.not_true, Bool.not_false, wa, wb, wc, wd, we, wf, k1, k2, k3, k4, k5, k6, k7, k8, q0, q1, q2]) | (refine a_cond _ (by (try simp (maxSteps := 2000000) only [Ty.w, simprocAttr, g1, g5, g6, g7, g8, g9, Bool.not_true, Bool.not_false, wa, wb, wc, wd, we, wf, k1, k2, k3, k4, k5, k6, k7, k8, q0, q1, q2]); rfl) (fun hb => ?_) (fun hb => ?_) <;> (try simp only [hb0, decide_eq_true_eq, decide_eq_false_iff_not, simprocAttr] at hb) <;> (try (exfalso; omega))) | (refine hK _ _ ?_; clear hK; try simp only [pst0, simprocAttr]))
                all_goals rfl
               | true =>
                simp only [q2, Bool.true_and, Bool.and_true] at hF
                subst hF
                repeat' (first | refine a_seq fun K hK => ?_ | ((first | refine a_regionS ?_ | refine a_ret ?_); simp (maxSteps := 2000000) only [Ty.w, simprocAttr, g1, g5, g6, g7, g8, g9, Bool.not_true, Bool.not_false, wa, wb, wc, wd, we, wf, k1, k2, k3, k4, k5, k6, k7, k8, q0, q1, q2]) | (refine a_cond _ (by (try simp (maxSteps := 2000000) only [Ty.w, simprocAttr, g1, g5, g6, g7, g8, g9, Bool.not_true, Bool.not_false, wa, wb, wc, wd, we, wf, k1, k2, k3, k4, k5, k6, k7, k8, q0, q1, q2]); rfl) (fun hb => ?_) (fun hb => ?_) <;> (try simp only [hb0, decide_eq_true_eq, decide_eq_false_iff_not, simprocAttr] at hb) <;> (try (exfalso; omega))) | (refine hK _ _ ?_; clear hK; try simp only [pst0, simprocAttr]))
                all_goals rfl
            | false =>
             simp only [k8, Bool.true_or, Bool.or_true, Bool.false_or, if_true, Bool.false_eq_true, if_false] at hF
             cases k9 : (op.data.toList == (#[105, 109, 112, 108, 121] : Array UInt8).toList) with
             | true =>
              simp only [k9, Bool.true_or, Bool.or_true, Bool.false_or, if_true, Bool.false_eq_true, if_false] at hF
              cases q0 : (name.data.toList == (#[] : Array UInt8).toList) with
              | false =>
               simp only [q0, Bool.false_and, Bool.and_false] at hF
               subst hF
               repeat' (first | refine a_seq fun K hK => ?_ | ((first | refine a_regionS ?_ | refine a_ret ?_); simp (maxSteps := 2000000) only [Ty.w, simprocAttr, g1, g5, g6, g7, g8, g9, Bool.not_true, Bool.not_false, wa, wb, wc, wd, we, wf, k1, k2, k3, k4, k5, k6, k7, k8, k9, q0]) | (refine a_cond _ (by (try simp (maxSteps := 2000000) only [Ty.w, simprocAttr, g1, g5, g6, g7, g8, g9, Bool.not_true, Bool.not_false, wa, wb, wc, wd, we, wf, k1, k2, k3, k4, k5, k6, k7, k8, k9, q0]); rfl) (fun hb => ?_) (fun hb => ?_) <;> (try simp only [hb0, decide_eq_true_eq, decide_eq_false_iff_not, simprocAttr] at hb) <;> (try (exfalso; omega))) | (refine hK _ _ ?_; clear hK; try simp only [pst0, simprocAttr]))
               all_goals rfl
              | true =>
               simp only [q0, Bool.true_and, Bool.and_true] at hF
               cases q1 : ((((args.length : Int) + params.length) + exprs.length) == 0) with
               | false =>
                simp only [q1, Bool.false_and, Bool.and_false] at hF
                subst hF
                repeat' (first | refine a_seq fun K hK => ?_ | ((first | refine a_regionS ?_ | refine a_ret ?_); simp (maxSteps := 2000000) only [Ty.w, simprocAttr, g1, g5, g6, g7, g8, g9, Bool.not_true, Bool.not_false, wa, wb, wc, wd, we, wf, k1, k2, k3, k4, k5, k6, k7, k8, k9, q0, q1]) | (refine a_cond _ (by (try simp (maxSteps := 2000000) only [Ty.w, simprocAttr, g1, g5, g6, g7, g8, g9, Bool.not_true, Bool.not_false, wa, wb, wc, wd, we, wf, k1, k2, k3, k4, k5, k6, k7, k8, k9, q0, q1]); rfl) (fun hb => ?_) (fun hb => ?_) <;> (try simp only [hb0, decide_eq_true_eq, decide_eq_false_iff_not, simprocAttr] at hb) <;> (try (exfalso; omega))) | (refine hK _ _ ?_; clear hK; try simp only [pst0, simprocAttr]))
                all_goals rfl
               | true =>
                simp only [q1, Bool.true_and, Bool.and_true] at hF
                cases q2 : ((kids.length : Int) == 2) with
                | false =>
                 simp only [q2, Bool.false_and, Bool.and_false] at hF
                 subst hF
                 repeat' (first | refine a_seq fun K hK => ?_ | ((first | refine a_regionS ?_ | refine a_ret ?_); simp (maxSteps := 2000000) only [Ty.w, simprocAttr, g1, g5, g6, g7, g8, g9, Bool.not_true, Bool.not_false, wa, wb, wc, wd, we, wf, k1, k2, k3, k4, k5, k6, k7, k8, k9, q0, q1, q2]) | (refine a_cond _ (by (try simp (maxSteps := 2000000) only [Ty.w, simprocAttr, g1, g5, g6, g7, g8, g9, Bool.not_true, Bool.not_false, wa, wb, wc, wd, we, wf, k1, k2, k3, k4, k5, k6, k7, k8, k9, q0, q1, q2]); rfl) (fun hb => ?_) (fun hb => ?_) <;> (try simp only [hb0, decide_eq_true_eq, decide_eq_false_iff_not, simprocAttr] at hb) <;> (try (exfalso; omega))) | (refine hK _ _ ?_; clear hK; try simp only [pst0, simprocAttr]))
                 all_goals rfl
                | true =>
                 simp only [q2, Bool.true_and, Bool.and_true] at hF
                 subst hF
                 repeat' (first | refine a_seq fun K hK => ?_ | ((first | refine a_regionS ?_ | refine a_ret ?_); simp (maxSteps := 2000000) only [Ty.w, simprocAttr, g1, g5, g6, g7, g8, g9, Bool.not_true, Bool.not_false, wa, wb, wc, wd, we, wf, k1, k2, k3, k4, k5, k6, k7, k8, k9, q0, q1, q2]) | (refine a_cond _ (by (try simp (maxSteps := 2000000) only [Ty.w, simprocAttr, g1, g5, g6, g7, g8, g9, Bool.not_true, Bool.not_false, wa, wb, wc, wd, we, wf, k1, k2, k3, k4, k5, k6, k7, k8, k9, q0, q1, q2]); rfl) (fun hb => ?_) (fun hb => ?_) <;> (try simp only [hb0, decide_eq_true_eq, decide_eq_false_iff_not, simprocAttr] at hb) <;> (try (exfalso; omega))) | (refine hK _ _ ?_; clear hK; try simp only [pst0, simprocAttr]))
                 all_goals rfl
             | false =>
              simp only [k9, Bool.true_or, Bool.or_true, Bool.false_or, if_true, Bool.false_eq_true, if_false] at hF
              cases k10 : (op.data.toList == (#[102, 111, 114, 97, 108, 108] : Array UInt8).toList) with
              | true =>
               simp only [k10, Bool.true_or, Bool.or_true, Bool.false_or, if_true, Bool.false_eq_true, if_false] at hF
               cases q0 : (name.data.toList == (#[] : Array UInt8).toList) with
               | false =>
                simp only [q0, Bool.false_and, Bool.and_false] at hF
                subst hF
                repeat' (first | refine a_seq fun K hK => ?_ | ((first | refine a_regionS ?_ | refine a_ret ?_); simp (maxSteps := 2000000) only [Ty.w, simprocAttr, g1, g5, g6, g7, g8, g9, Bool.not_true, Bool.not_false, wa, wb, wc, wd, we, wf, k1, k2, k3, k4, k5, k6, k7, k8, k9, k10, q0]) | (refine a_skip ?_; try simp only [pst0, simprocAttr]) | (refine a_cond _ (by (try simp (maxSteps := 2000000) only [Ty.w, simprocAttr, g1, g5, g6, g7, g8, g9, Bool.not_true, Bool.not_false, wa, wb, wc, wd, we, wf, k1, k2, k3, k4, k5, k6, k7, k8, k9, k10, q0]); rfl) (fun hb => ?_) (fun hb => ?_) <;> (try simp only [hb0, decide_eq_true_eq, decide_eq_false_iff_not, simprocAttr] at hb) <;> (try (exfalso; omega))) | (refine hK _ _ ?_; clear hK; try simp only [pst0, simprocAttr]))
                all_goals rfl
               | true =>
                simp only [q0, Bool.true_and, Bool.and_true] at hF
                cases q1 : (((args.length : Int) + exprs.length) == 0) with
                | false =>
                 simp only [q1, Bool.false_and, Bool.and_false] at hF
                 subst hF
                 repeat' (first | refine a_seq fun K hK => ?_ | ((first | refine a_regionS ?_ | refine a_ret ?_); simp (maxSteps := 2000000) only [Ty.w, simprocAttr, g1, g5, g6, g7, g8, g9, Bool.not_true, Bool.not_false, wa, wb, wc, wd, we, wf, k1, k2, k3, k4, k5, k6, k7, k8, k9, k10, q0, q1]) | (refine a_skip ?_; try simp only [pst0, simprocAttr]) | (refine a_cond _ (by (try simp (maxSteps := 2000000) only [Ty.w, simprocAttr, g1, g5, g6, g7, g8, g9, Bool.not_true, Bool.not_false, wa, wb, wc, wd, we, wf, k1, k2, k3, k4, k5, k6, k7, k8, k9, k10, q0, q1]); rfl) (fun hb => ?_) (fun hb => ?_) <;> (try simp only [hb0, decide_eq_true_eq, decide_eq_false_iff_not, simprocAttr] at hb) <;> (try (exfalso; omega))) | (refine hK _ _ ?_; clear hK; try simp only [pst0, simprocAttr]))
                 all_goals rfl
                | true =>
                 simp only [q1, Bool.true_and, Bool.and_true] at hF
                 cases q2 : ((kids.length : Int) == 1) with
                 | false =>
                  simp only [q2, Bool.false_and, Bool.and_false] at hF
                  subst hF
                  repeat' (first | refine a_seq fun K hK => ?_ | ((first | refine a_regionS ?_ | refine a_ret ?_); simp (maxSteps := 2000000) only [Ty.w, simprocAttr, g1, g5, g6, g7, g8, g9, Bool.not_true, Bool.not_false, wa, wb, wc, wd, we, wf, k1, k2, k3, k4, k5, k6, k7, k8, k9, k10, q0, q1, q2]) | (refine a_skip ?_; try simp only [pst0, simprocAttr]) | (refine a_cond _ (by (try simp (maxSteps := 2000000) only [Ty.w, simprocAttr, g1, g5, g6, g7, g8, g9, Bool.not_true, Bool.not_false, wa, wb, wc, wd, we, wf, k1, k2, k3, k4, k5, k6, k7, k8, k9, k10, q0, q1, q2]); rfl) (fun hb => ?_) (fun hb => ?_) <;> (try simp only [hb0, decide_eq_true_eq, decide_eq_false_iff_not, simprocAttr] at hb) <;> (try (exfalso; omega))) | (refine hK _ _ ?_; clear hK; try simp only [pst0, simprocAttr]))
                  all_goals rfl
                 | true =>
                  simp only [q2, Bool.true_and, Bool.and_true] at hF
                  generalize params.all pmOk = bP at hP hF
                  cases bP with
                  | false =>
                   try simp only [Bool.false_and, Bool.and_false] at hF
                   subst hF
                   have W := And.intro g1 (And.intro g5 (And.intro g6 (And.intro g7 (And.intro g8 (And.intro g9 (And.intro wa (And.intro wb (And.intro wc (And.intro wd (And.intro we (And.intro wf (And.intro k1 (And.intro k2 (And.intro k3 (And.intro k4 (And.intro k5 (And.intro k6 (And.intro k7 (And.intro k8 (And.intro k9 (And.intro k10 (And.intro q0 (And.intro q1 q2)))))))))))))))))))))))
                   repeat' (first | refine a_seq fun K hK => ?_ | (refine a_regionS ?_; simp (maxSteps := 2000000) only [Ty.w, simprocAttr, W, Bool.not_true, Bool.not_false]) | (refine a_skip ?_; try simp only [pst0, simprocAttr]) | (refine a_cond _ (by (try simp (maxSteps := 2000000) only [Ty.w, simprocAttr, W, Bool.not_true, Bool.not_false]); rfl) (fun hb => ?_) (fun hb => ?_) <;> (try simp only [hb0, decide_eq_true_eq, decide_eq_false_iff_not, simprocAttr] at hb) <;> (try (exfalso; omega))) | (refine hK _ _ ?_; clear hK; try simp only [pst0, simprocAttr]))
                   refine owp_useQ (hP _) (by (try simp only [Ty.w, simprocAttr, W, Bool.not_true, Bool.not_false]); try rfl) ?_; simp (maxSteps := 2000000) only [Ty.w, simprocAttr, W, Bool.not_true, Bool.not_false]
                   repeat' (first | (refine a_ret ?_; simp (maxSteps := 2000000) only [Ty.w, simprocAttr, W, Bool.not_true, Bool.not_false]) | (refine hK _ _ ?_; clear hK; try simp only [pst0, simprocAttr]))
                   all_goals rfl
                  | true =>
                   try simp only [Bool.true_and, Bool.and_true] at hF
                   subst hF
                   have W := And.intro g1 (And.intro g5 (And.intro g6 (And.intro g7 (And.intro g8 (And.intro g9 (And.intro wa (And.intro wb (And.intro wc (And.intro wd (And.intro we (And.intro wf (And.intro k1 (And.intro k2 (And.intro k3 (And.intro k4 (And.intro k5 (And.intro k6 (And.intro k7 (And.intro k8 (And.intro k9 (And.intro k10 (And.intro q0 (And.intro q1 q2)))))))))))))))))))))))
                   repeat' (first | refine a_seq fun K hK => ?_ | (refine a_regionS ?_; simp (maxSteps := 2000000) only [Ty.w, simprocAttr, W, Bool.not_true, Bool.not_false]) | (refine a_skip ?_; try simp only [pst0, simprocAttr]) | (refine a_cond _ (by (try simp (maxSteps := 2000000) only [Ty.w, simprocAttr, W, Bool.not_true, Bool.not_false]); rfl) (fun hb => ?_) (fun hb => ?_) <;> (try simp only [hb0, decide_eq_true_eq, decide_eq_false_iff_not, simprocAttr] at hb) <;> (try (exfalso; omega))) | (refine hK _ _ ?_; clear hK; try simp only [pst0, simprocAttr]))
                   refine owp_useQ (hP _) (by (try simp only [Ty.w, simprocAttr, W, Bool.not_true, Bool.not_false]); try rfl) ?_; simp (maxSteps := 2000000) only [Ty.w, simprocAttr, W, Bool.not_true, Bool.not_false]
                   repeat' (first | (refine a_ret ?_; simp (maxSteps := 2000000) only [Ty.w, simprocAttr, W, Bool.not_true, Bool.not_false]) | (refine hK _ _ ?_; clear hK; try simp only [pst0, simprocAttr]))
                   all_goals rfl
              | false =>
               simp only [k10, Bool.true_or, Bool.or_true, Bool.false_or, if_true, Bool.false_eq_true, if_false] at hF
               cases k11 : (op.data.toList == (#[101, 120, 105, 115, 116, 115] : Array UInt8).toList) with
               | true =>
                simp only [k11, Bool.true_or, Bool.or_true, Bool.false_or, if_true, Bool.false_eq_true, if_false] at hF
                cases q0 : (name.data.toList == (#[] : Array UInt8).toList) with
                | false =>
                 simp only [q0, Bool.false_and, Bool.and_false] at hF
                 subst hF
                 repeat' (first | refine a_seq fun K hK => ?_ | ((first | refine a_regionS ?_ | refine a_ret ?_); simp (maxSteps := 2000000) only [Ty.w, simprocAttr, g1, g5, g6, g7, g8, g9, Bool.not_true, Bool.not_false, wa, wb, wc, wd, we, wf, k1, k2, k3, k4, k5, k6, k7, k8, k9, k10, k11, q0]) | (refine a_cond _ (by (try simp (maxSteps := 2000000) only [Ty.w, simprocAttr, g1, g5, g6, g7, g8, g9, Bool.not_true, Bool.not_false, wa, wb, wc, wd, we, wf, k1, k2, k3, k4, k5, k6, k7, k8, k9, k10, k11, q0]); rfl) (fun hb => ?_) (fun hb => ?_) <;> (try simp only [hb0, decide_eq_true_eq, decide_eq_false_iff_not, simprocAttr] at hb) <;> (try (exfalso; omega))) | (refine hK _ _ ?_; clear hK; try simp only [pst0, simprocAttr]))
                 all_goals rfl
                | true =>
                 simp only [q0, Bool.true_and, Bool.and_true] at hF
                 cases q1 : (((args.length : Int) + exprs.length) == 0) with
                 | false =>
                  simp only [q1, Bool.false_and, Bool.and_false] at hF
                  subst hF
                  repeat' (first | refine a_seq fun K hK => ?_ | ((first | refine a_regionS ?_ | refine a_ret ?_); simp (maxSteps := 2000000) only [Ty.w, simprocAttr, g1, g5, g6, g7, g8, g9, Bool.not_true, Bool.not_false, wa, wb, wc, wd, we, wf, k1, k2, k3, k4, k5, k6, k7, k8, k9, k10, k11, q0, q1]) | (refine a_cond _ (by (try simp (maxSteps := 2000000) only [Ty.w, simprocAttr, g1, g5, g6, g7, g8, g9, Bool.not_true, Bool.not_false, wa, wb, wc, wd, we, wf, k1, k2, k3, k4, k5, k6, k7, k8, k9, k10, k11, q0, q1]); rfl) (fun hb => ?_) (fun hb => ?_) <;> (try simp only [hb0, decide_eq_true_eq, decide_eq_false_iff_not, simprocAttr] at hb) <;> (try (exfalso; omega))) | (refine hK _ _ ?_; clear hK; try simp only [pst0, simprocAttr]))
                  all_goals rfl
                 | true =>
                  simp only [q1, Bool.true_and, Bool.and_true] at hF
                  cases q2 : ((kids.length : Int) == 1) with
                  | false =>
                   simp only [q2, Bool.false_and, Bool.and_false] at hF
                   subst hF
                   repeat' (first | refine a_seq fun K hK => ?_ | ((first | refine a_regionS ?_ | refine a_ret ?_); simp (maxSteps := 2000000) only [Ty.w, simprocAttr, g1, g5, g6, g7, g8, g9, Bool.not_true, Bool.not_false, wa, wb, wc, wd, we, wf, k1, k2, k3, k4, k5, k6, k7, k8, k9, k10, k11, q0, q1, q2]) | (refine a_cond _ (by (try simp (maxSteps := 2000000) only [Ty.w, simprocAttr, g1, g5, g6, g7, g8, g9, Bool.not_true, Bool.not_false, wa, wb, wc, wd, we, wf, k1, k2, k3, k4, k5, k6, k7, k8, k9, k10, k11, q0, q1, q2]); rfl) (fun hb => ?_) (fun hb => ?_) <;> (try simp only [hb0, decide_eq_true_eq, decide_eq_false_iff_not, simprocAttr] at hb) <;> (try (exfalso; omega))) | (refine hK _ _ ?_; clear hK; try simp only [pst0, simprocAttr]))
                   all_goals rfl
                  | true =>
                   simp only [q2, Bool.true_and, Bool.and_true] at hF
                   generalize params.all pmOk = bP at hP hF
                   cases bP with
                   | false =>
                    try simp only [Bool.false_and, Bool.and_false] at hF
                    subst hF
                    have W := And.intro g1 (And.intro g5 (And.intro g6 (And.intro g7 (And.intro g8 (And.intro g9 (And.intro wa (And.intro wb (And.intro wc (And.intro wd (And.intro we (And.intro wf (And.intro k1 (And.intro k2 (And.intro k3 (And.intro k4 (And.intro k5 (And.intro k6 (And.intro k7 (And.intro k8 (And.intro k9 (And.intro k10 (And.intro k11 (And.intro q0 (And.intro q1 q2))))))))))))))))))))))))
                    repeat' (first | refine a_seq fun K hK => ?_ | (refine a_regionS ?_; simp (maxSteps := 2000000) only [Ty.w, simprocAttr, W, Bool.not_true, Bool.not_false]) | (refine a_cond _ (by (try simp (maxSteps := 2000000) only [Ty.w, simprocAttr, W, Bool.not_true, Bool.not_false]); rfl) (fun hb => ?_) (fun hb => ?_) <;> (try simp only [hb0, decide_eq_true_eq, decide_eq_false_iff_not, simprocAttr] at hb) <;> (try (exfalso; omega))) | (refine hK _ _ ?_; clear hK; try simp only [pst0, simprocAttr]))
                    refine owp_useQ (hP _) (by (try simp only [Ty.w, simprocAttr, W, Bool.not_true, Bool.not_false]); try rfl) ?_; simp (maxSteps := 2000000) only [Ty.w, simprocAttr, W, Bool.not_true, Bool.not_false]
                    repeat' (first | (refine a_ret ?_; simp (maxSteps := 2000000) only [Ty.w, simprocAttr, W, Bool.not_true, Bool.not_false]) | (refine hK _ _ ?_; clear hK; try simp only [pst0, simprocAttr]))
                    all_goals rfl
                   | true =>
                    try simp only [Bool.true_and, Bool.and_true] at hF
                    subst hF
                    have W := And.intro g1 (And.intro g5 (And.intro g6 (And.intro g7 (And.intro g8 (And.intro g9 (And.intro wa (And.intro wb (And.intro wc (And.intro wd (And.intro we (And.intro wf (And.intro k1 (And.intro k2 (And.intro k3 (And.intro k4 (And.intro k5 (And.intro k6 (And.intro k7 (And.intro k8 (And.intro k9 (And.intro k10 (And.intro k11 (And.intro q0 (And.intro q1 q2))))))))))))))))))))))))
                    repeat' (first | refine a_seq fun K hK => ?_ | (refine a_regionS ?_; simp (maxSteps := 2000000) only [Ty.w, simprocAttr, W, Bool.not_true, Bool.not_false]) | (refine a_cond _ (by (try simp (maxSteps := 2000000) only [Ty.w, simprocAttr, W, Bool.not_true, Bool.not_false]); rfl) (fun hb => ?_) (fun hb => ?_) <;> (try simp only [hb0, decide_eq_true_eq, decide_eq_false_iff_not, simprocAttr] at hb) <;> (try (exfalso; omega))) | (refine hK _ _ ?_; clear hK; try simp only [pst0, simprocAttr]))
                    refine owp_useQ (hP _) (by (try simp only [Ty.w, simprocAttr, W, Bool.not_true, Bool.not_false]); try rfl) ?_; simp (maxSteps := 2000000) only [Ty.w, simprocAttr, W, Bool.not_true, Bool.not_false]
                    repeat' (first | (refine a_ret ?_; simp (maxSteps := 2000000) only [Ty.w, simprocAttr, W, Bool.not_true, Bool.not_false]) | (refine hK _ _ ?_; clear hK; try simp only [pst0, simprocAttr]))
                    all_goals rfl
               | false =>
                simp only [k11, Bool.true_or, Bool.or_true, Bool.false_or, if_true, Bool.false_eq_true, if_false] at hF
                subst hF
                repeat' (first | refine a_seq fun K hK => ?_ | (refine a_block ?_) | ((first | refine a_regionS ?_ | refine a_ret ?_); simp (maxSteps := 2000000) only [Ty.w, simprocAttr, g1, g5, g6, g7, g8, g9, Bool.not_true, Bool.not_false, wa, wb, wc, wd, we, wf, k1, k2, k3, k4, k5, k6, k7, k8, k9, k10, k11]) | (refine a_skip ?_; try simp only [pst0, simprocAttr]) | (refine a_cond _ (by (try simp (maxSteps := 2000000) only [Ty.w, simprocAttr, g1, g5, g6, g7, g8, g9, Bool.not_true, Bool.not_false, wa, wb, wc, wd, we, wf, k1, k2, k3, k4, k5, k6, k7, k8, k9, k10, k11]); rfl) (fun hb => ?_) (fun hb => ?_) <;> (try simp only [hb0, decide_eq_true_eq, decide_eq_false_iff_not, simprocAttr] at hb) <;> (try (exfalso; omega))) | (refine hK _ _ ?_; clear hK; try simp only [pst0, simprocAttr]))
end Go.Proofs.Ytjlkapgpjamnkaa
namespace Go.AM
section
variable {P : Program} {ow : Nat → Bool} {n : Nat} {ops : List Oper} {I K : Slots → Heap → Prop}
theorem lwp_cut : ∀ (l : List Oper) (k : Nat) {s : Slots} {h : Heap}, lwp P ow n ops (l.take k) I s h → (∀ s h, I s h → lwp P ow n ops (l.drop k) K s h) → lwp P ow n ops l K s h
  | [], k, s, h, h1, hk => by
    rw [List.take_nil] at h1
    have := hk s h (by simpa only [lwp] using h1)
    rwa [List.drop_nil] at this
  | o :: rest, 0, s, h, h1, hk => hk s h (by simpa only [lwp, List.take_zero] using h1)
  | o :: rest, k + 1, s, h, h1, hk => by
    rw [List.take_succ_cons] at h1
    simp only [lwp] at h1 ⊢
    refine ⟨h1.1, ?_⟩
    have h3 := h1.2
    clear h1
    cases hw : wantedB ops s o with
    | none => rw [hw] at h3; exact h3
    | some b =>
      rw [hw] at h3
      simp only at h3 ⊢
      split at h3
      · rename_i hb
        rw [if_pos hb]
        exact owp_mono (fun s h hh => lwp_cut rest k hh hk) h3
      · rename_i hb
        rw [if_neg hb]
        exact lwp_cut rest k h3 hk
theorem lwn_cutl : ∀ (l : List Oper) (k : Nat) {s : Slots} {h : Heap}, lwn P ow n ops (l.take k) I s h → (∀ s h, I s h → lwn P ow n ops (l.drop k) K s h) → lwn P ow n ops l K s h
  | [], k, s, h, h1, hk => by
    rw [List.take_nil] at h1
    have := hk s h (by simpa only [lwn] using h1)
    rwa [List.drop_nil] at this
  | o :: rest, 0, s, h, h1, hk => hk s h (by simpa only [lwn, List.take_zero] using h1)
  | o :: rest, k + 1, s, h, h1, hk => by
    rw [List.take_succ_cons] at h1
    simp only [lwn] at h1 ⊢
    refine ⟨h1.1, ?_⟩
    have h3 := h1.2
    clear h1
    cases hw : wantedB ops s o with
    | none => rw [hw] at h3; exact h3
    | some b =>
      rw [hw] at h3
      simp only at h3 ⊢
      split at h3
      · rename_i hb
        rw [if_pos hb]
        cases hc : callee (pev s) o.op with
        | none =>
          rw [hc] at h3
          simp only at h3 ⊢
          cases he : eff P (o.dst.any ow) o.op (pev s) h with
          | none => rw [he] at h3; exact h3
          | some r =>
            rw [he] at h3
            exact lwn_cutl rest k h3 hk
        | some f =>
          rw [hc] at h3
          simp only at h3 ⊢
          exact owp_mono (fun s h hh => lwp_cut rest k hh fun s h hi => lwn_lwp _ _ _ (hk s h hi)) h3
      · rename_i hb
        rw [if_neg hb]
        exact lwn_cutl rest k h3 hk
theorem lwn_cut {l : List Oper} {s : Slots} {h : Heap} (k : Nat) (I : Slots → Heap → Prop) (h1 : lwn P ow n ops (l.take k) I s h) (h2 : ∀ s h, I s h → lwn P ow n ops (l.drop k) K s h) : lwn P ow n ops l K s h := lwn_cutl l k h1 h2
end
end Go.AM
