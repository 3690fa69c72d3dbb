/- What the claim rests on, part 6: the abstract machine, contracts of the functions, plain data. -/
import Derived.Test.YtjlkapgpjamnkaaZn5
set_option linter.unusedVariables false
set_option linter.unusedSimpArgs false
set_option linter.unusedSectionVars false
namespace Go.Proofs.Ytjlkapgpjamnkaa
open Go.AM
set_option maxHeartbeats 4000000
set_option maxRecDepth 20000
def flatR (o : ByteArray) (l : List Fm) : List Fm := l.flatMap fun n => if (bEq (opOf n) o && (bEq (opOf n) opAnd || bEq (opOf n) opOr)) = true then fkids n else [n]
theorem flatR_take {o : ByteArray} {N : List Fm} {k : Nat} {n : Fm} (h : N[k]? = some n) : flatR o (N.take (k + 1)) = flatR o (N.take k) ++ (if (bEq (opOf n) o && (bEq (opOf n) opAnd || bEq (opOf n) opOr)) = true then fkids n else [n]) := by
 rw [List.take_add_one, h]; simp [flatR]
theorem flatR_le (o : ByteArray) (N : List Fm) (k : Nat) : (flatR o (N.take k)).length ≤ (flatR o N).length := by
 have h : flatR o N = flatR o (N.take k) ++ flatR o (N.drop k) := by
  conv => lhs; rw [← List.take_append_drop k N]
  simp only [flatR, List.flatMap_append]
 rw [h, List.length_append]; omega
structure RrI (h : Heap) (o : ByteArray) (params : List Pm) (A : Nat) (pP : PV) (L : List Fm) (p : PV) (h' : Heap) : Prop where
 grow : Grow h h'
 la : h.next < A
 lt : A + 2 < h'.next
 o1 : h'.obj h.next = some (.arr 6 [[.sc (.string ⟨#[]⟩), .sc (.string ⟨#[]⟩), .sc (.slice none 0 0), .sc (.slice none 0 0), .sc (.slice none 0 0), .sc (.slice none 0 0)]])
 o2 : h'.obj A = some (.arr 6 [[sPV o, .sc (.string ⟨#[]⟩), .sc (.slice none 0 0), pP, .sc (.slice none 0 0), p]])
 hp : pP = .own (A + 2) 0 params.length ∧ h'.obj (A + 2) = some (.arr 2 (pmRows params))
 tl : Tl h' (A + 3) 6 p (Fm.rows L)
theorem RrI.up {h h' H : Heap} {o : ByteArray} {params : List Pm} {A : Nat} {pP p : PV} {L : List Fm} (i : RrI h o params A pP L p h') (hn : h'.next ≤ H.next) (ho : ∀ j, j < h'.next → H.obj j = h'.obj j) : RrI h o params A pP L p H :=
 ⟨i.grow.trans ⟨hn, ho⟩, i.la, Nat.lt_of_lt_of_le i.lt hn, (ho _ (by have := i.lt; have := i.la; omega)).trans i.o1, (ho _ (by have := i.lt; omega)).trans i.o2, ⟨i.hp.1, (ho _ i.lt).trans i.hp.2⟩, i.tl.up hn fun j _ hj => ho j hj⟩
theorem RrI.pc {h h' : Heap} {o : ByteArray} {params : List Pm} {A : Nat} {pP p : PV} {L : List Fm} (i : RrI h o params A pP L p h') : p.cells = [p] ∧ oneC p = true := by
 rcases i.tl with ⟨_, rfl | rfl⟩ | ⟨_, _, _, rfl, _⟩ <;> exact ⟨rfl, rfl⟩
theorem RrI.push {h h' HT : Heap} {o : ByteArray} {params : List Pm} {A : Nat} {pP p : PV} {L M : List Fm} {m : Nat} {R : List (List PV)} (i : RrI h o params A pP L p h') (t3 : HT.next = h'.next) (t4 : ∀ j, j < A + 3 → HT.obj j = h'.obj j) (hk : Keep h HT) (hR : R = Fm.rows (L ++ M)) (hm : m = (L ++ M).length) :
  RrI h o params A pP (L ++ M) (.own HT.next 0 m) ((HT.new (.arr 6 R)).set A (.arr 6 [[sPV o, .sc (.string ⟨#[]⟩), .sc (.slice none 0 0), pP, .sc (.slice none 0 0), .own HT.next 0 m]])) := by
 have hl := i.lt
 have hla := i.la
 subst hR
 refine ⟨((show Grow h HT from ⟨hk.1, hk.2⟩).new _).set (by omega) _, i.la, by simp only [Heap.set, Heap.new]; omega, ?_, by simp only [Heap.set, if_true], ⟨i.hp.1, ?_⟩, ?_⟩
 ·have n1 : ¬ h.next = A := by omega
  have n2 : ¬ h.next = HT.next := by omega
  simp only [Heap.set, Heap.new, n1, n2, if_false]
  rw [t4 _ (by omega)]; exact i.o1
 ·have n1 : ¬ A + 2 = A := by omega
  have n2 : ¬ A + 2 = HT.next := by omega
  simp only [Heap.set, Heap.new, n1, n2, if_false]
  rw [t4 _ (by omega)]; exact i.hp.2
 ·have : Tl (HT.new (.arr 6 (Fm.rows (L ++ M)))) (A + 3) 6 (.own HT.next 0 m) (Fm.rows (L ++ M)) := Tl.grow (by omega) (by rw [hm, Fm.rows_len])
  exact this.up (Nat.le_refl _) (fun j hj _ => by simp only [Heap.set]; rw [if_neg (by omega)])
theorem RrI.setOp {h H : Heap} {o : ByteArray} {params : List Pm} {A : Nat} {pP p : PV} {L : List Fm} (i : RrI h o params A pP L p H) (o2 : ByteArray) : RrI h o2 params A pP L p (H.set A (.arr 6 [[sPV o2, .sc (.string ⟨#[]⟩), .sc (.slice none 0 0), pP, .sc (.slice none 0 0), p]])) := by
 have hl := i.lt
 have hla := i.la
 refine ⟨i.grow.set (by omega) _, i.la, i.lt, ?_, by simp only [Heap.set, if_true], ⟨i.hp.1, ?_⟩, i.tl.up (Nat.le_refl _) fun j hj _ => by simp only [Heap.set]; rw [if_neg (by omega)]⟩
 ·simp only [Heap.set]; rw [if_neg (by omega)]; exact i.o1
 ·simp only [Heap.set]; rw [if_neg (by omega)]; exact i.hp.2
theorem frz_pms {n : Nat} {H : Heap} : ∀ l : List Pm, FrzR n H (pmRows l) (pmRows l)
 | [] => by simp only [pmRows, List.map_nil, FrzR]
 | p :: l => by
  have := frz_pms (n := n) (H := H) l
  simp only [pmRows, List.map_cons, pmRow] at this ⊢
  unfold FrzR
  refine ⟨?_, this⟩
  unfold FrzL; refine ⟨by simp only [FrzTo], ?_⟩
  unfold FrzL; refine ⟨by simp only [FrzTo], ?_⟩
  simp only [FrzL]
theorem rnorm_rest {op op' : ByteArray} {params : List Pm} {kids : List Fm} (k1 : (op.data.toList == (#[97, 116, 111, 109] : Array UInt8).toList) = false) (k2 : (op.data.toList == (#[115, 97, 109, 101] : Array UInt8).toList) = false) (k3 : (op.data.toList == (#[60] : Array UInt8).toList) = false) (k4 : (op.data.toList == (#[60, 61] : Array UInt8).toList) = false) (k5 : (op.data.toList == (#[61] : Array UInt8).toList) = false) (k6 : (op.data.toList == (#[110, 111, 116] : Array UInt8).toList) = false) (k7 : (op.data.toList == (#[105, 109, 112, 108, 121] : Array UInt8).toList) = false) (hot : ∀ h : Heap, PCall Try.prog 102 [sPV op] h fun r h' => r = sPV op' ∧ h' = h)
  (hpl : params.length ≤ 1048576) (hkl : kids.length ≤ 1048576) (s : Bool) (hB : (flatR (dualM op op' s) (normalMs kids s)).length ≤ 1073741824) (ih : ∀ k ∈ kids, RNormC k) (h : Heap) :
  PCall Try.prog 62 [.agg (Fm.mk op ⟨#[]⟩ [] params [] kids).cells, .sc (.bool s)] h fun r h' => r = .agg (Fm.mk (dualM op op' s) ⟨#[]⟩ [] params [] (flatR (dualM op op' s) (normalMs kids s))).cells ∧ h' = h := by
 refine pcall_wf Ty.hb_62 fun hwf => ?_
 refine PCall.frz Ty.hb_62 ?_
 have hcs : ∀ k ∈ kids, ∀ h : Heap, PCall Try.prog 62 [.agg k.cells, .sc (.bool s)] h fun r h' => r = .agg (normalM k s).cells ∧ h' = h := fun k hk => ih k hk s
 clear ih
 rw [normalMs_map] at hB ⊢
 have hlK := Fm.rows_len kids
 have hlP := pmRows_len params
 have hno : ∀ j, h.next ≤ j → h.obj j = none := fun j hj => by
  cases q : h.obj j with
  | none => rfl
  | some o => have := hwf j (by rw [q]; try rfl); omega
 have hn8 := hno (h.next + 1 + 7) (by omega)
 simp only [Fm.cells, Ex.rows, sr_nil]
 refine pcall_body (ow := fun _ => false) (wf := fun _ => false) Ty.mixed Try.func62 rfl Ty.hb_62 (by rw [Try.ntmps62]; simp) ?_
 rw [Try.ntmps62, Try.results62]
 repeat' (first | (with_reducible refine a_hold1 26 ?_) | (first | refine a_seq fun K hK => ?_ | (refine a_block ?_) | (refine a_regionS ?_; simp (maxSteps := 2000000) only [Ty.w, simprocAttr, k1, k2, k3, k4, k5, k6, k7, nsucc]) | (refine a_skip ?_; try simp only [pst0, simprocAttr]) | (refine a_cond _ (by (try simp (maxSteps := 2000000) only [Ty.w, simprocAttr, k1, k2, k3, k4, k5, k6, k7, nsucc]); rfl) (fun hb => ?_) (fun hb => ?_) <;> (try simp only [hb0, decide_eq_true_eq, decide_eq_false_iff_not, simprocAttr] at hb) <;> (try (exfalso; omega))) | (refine hK _ _ ?_; clear hK; try simp only [pst0, simprocAttr])))
 refine ⟨?_⟩
 refine a_gen (fun S H => S 1 = .sc (.bool s) ∧ S 2 = .cptr [sPV op, sPV ⟨#[]⟩, .imm 1 [], .imm 2 (pmRows params), .imm 5 [], .imm 6 (Fm.rows kids)] ∧ S 4 = .ptr h.next 0 0 ∧ H = h.new (.arr 6 [[.sc (.string ⟨#[]⟩), .sc (.string ⟨#[]⟩), .sc (.slice none 0 0), .sc (.slice none 0 0), .sc (.slice none 0 0), .sc (.slice none 0 0)]])) ?_ ?_
 ·simp only [Ty.w, simprocAttr, nsucc]
 rintro S H ⟨g1, g2, g4, rfl⟩
 refine a_seq (fun K hK => ?_)
 refine a_draw2S [7] (by decide +kernel) (by decide +kernel) ?_
 have u1 : (h.next + 1 + 7 = h.next + 1 + 9) = False := eq_false (by omega)
 have u2 : (h.next + 1 + 7 = h.next) = False := eq_false (by omega)
 have hb : params.length * 32 ≤ 140737488355328 := by omega
 simp (maxSteps := 4000000) only [drn2, Ty.w, simprocAttr, Ty.all, g1, g2, g4, hlP, hb, hn8, u1, u2, nsucc, List.forall_mem_cons, List.nil_append]
 refine hK _ _ ?_
 clear hK hn8 u1 u2
 have eA : h.next + 1 + 9 = h.next + 1 + 7 + 2 := by omega
 refine a_gen (fun S H => S 1 = .sc (.bool s) ∧ S 2 = .cptr [sPV op, sPV ⟨#[]⟩, .imm 1 [], .imm 2 (pmRows params), .imm 5 [], .imm 6 (Fm.rows kids)] ∧ S 4 = .ptr h.next 0 0 ∧ S 9 = .ptr (h.next + 1 + 7) 0 0 ∧ RrI h op params (h.next + 1 + 7) (.own (h.next + 1 + 7 + 2) 0 params.length) [] (.sc (.slice none 0 0)) H) ?_ ?_
 ·simp only [Ty.w, simprocAttr, g1, g2, g4]
  have n1 : ¬ h.next = h.next + 1 + 7 := by omega
  have n2 : ¬ h.next = h.next + 1 + 9 := by omega
  have n3 : ¬ h.next + 1 + 7 + 2 = h.next + 1 + 7 := by omega
  refine ⟨⟨by simp [Heap.set, Heap.new]; omega, fun j hj => ?_⟩, by omega, by simp only [Heap.set, Heap.new]; omega, ?_, ?_, ⟨rfl, ?_⟩, .inl ⟨rfl, .inl rfl⟩⟩
  ·have a1 : ¬ j = h.next + 1 + 7 := by omega
   have a2 : ¬ j = h.next + 1 + 9 := by omega
   have a3 : ¬ j = h.next := by omega
   simp only [Heap.set, Heap.new, a1, a2, a3, if_false]
  ·simp only [Heap.set, Heap.new, n1, n2, if_false, if_true]
  ·simp only [Heap.set, if_true, eA]
  ·simp only [Heap.set, Heap.new, n3, if_false, if_true, eA]
 clear g1 g2 g4 eA
 rintro S H ⟨g1, g2, g4, g9, hI⟩
 generalize h.next + 1 + 7 = A at g9 hI ⊢
 refine a_cut (fun S H => S 1 = .sc (.bool s) ∧ S 2 = .cptr [sPV op, sPV ⟨#[]⟩, .imm 1 [], .imm 2 (pmRows params), .imm 5 [], .imm 6 (Fm.rows kids)] ∧ S 4 = .ptr h.next 0 0 ∧ S 9 = .ptr A 0 0 ∧ RrI h (dualM op op' s) params A (.own (A + 2) 0 params.length) [] (.sc (.slice none 0 0)) H) ?_ ?_
 ·have o2 := hI.o2
  cases s with
  | true =>
   repeat' (first | refine a_seq fun K hK => ?_ | (refine a_regionS ?_; simp (maxSteps := 2000000) only [Ty.w, simprocAttr, g1, g2, g4, g9, Bool.not_true]) | (refine a_skip ?_; try simp only [pst0, simprocAttr]) | (refine a_cond _ (by (try simp (maxSteps := 2000000) only [Ty.w, simprocAttr, g1, g2, g4, g9, Bool.not_true]); rfl) (fun hb => ?_) (fun hb => ?_) <;> (try simp only [hb0, decide_eq_true_eq, decide_eq_false_iff_not, simprocAttr] at hb) <;> (try (exfalso; omega))) | (refine hK _ _ ?_; clear hK; try simp only [pst0, simprocAttr]))
   (try simp (maxSteps := 2000000) only [Ty.w, simprocAttr, Ty.all, g1, g2, g4, g9])
   exact hI
  | false =>
   have hS := hI.setOp op'
   repeat' (first | refine a_seq fun K hK => ?_ | (refine a_regionS ?_; simp (maxSteps := 2000000) only [Ty.w, simprocAttr, g1, g2, g4, g9, Bool.not_false]) | (refine a_cond _ (by (try simp (maxSteps := 2000000) only [Ty.w, simprocAttr, g1, g2, g4, g9, Bool.not_false]); rfl) (fun hb => ?_) (fun hb => ?_) <;> (try simp only [hb0, decide_eq_true_eq, decide_eq_false_iff_not, simprocAttr] at hb) <;> (try (exfalso; omega))) | (refine hK _ _ ?_; clear hK; try simp only [pst0, simprocAttr]))
   refine owp_useQ (hot _) (by (try simp only [Ty.w, simprocAttr, g1, g2, g4, g9, o2, putC]); try rfl) ?_; simp (maxSteps := 2000000) only [Ty.w, simprocAttr, g1, g2, g4, g9, o2, putC]
   skip
   (try simp (maxSteps := 2000000) only [Ty.w, simprocAttr, Ty.all, g1, g2, g4, g9])
   exact hS
 ·generalize dualM op op' s = o at hB ⊢
  clear g1 g2 g4 g9 hI
  rintro S H ⟨g1, g2, g4, g9, hI⟩
  repeat' (first | refine a_seq fun K hK => ?_ | (refine a_block ?_) | (refine a_regionS ?_; simp (maxSteps := 2000000) only [Ty.w, simprocAttr, g1, g2, g4, g9]) | (refine hK _ _ ?_; clear hK; try simp only [pst0, simprocAttr]))
  refine a_loop (fun m S h' => S 1 = .sc (.bool s) ∧ S 2 = .cptr [sPV op, sPV ⟨#[]⟩, .imm 1 [], .imm 2 (pmRows params), .imm 5 [], .imm 6 (Fm.rows kids)] ∧ S 4 = .ptr h.next 0 0 ∧ S 9 = .ptr A 0 0 ∧ ∃ (k : Nat) (p : PV), S 10 = .sc (.int .i64 k) ∧ k ≤ kids.length ∧ m = kids.length - k ∧ RrI h o params A (.own (A + 2) 0 params.length) (flatR o ((kids.take k).map (normalM · s))) p h') kids.length ?_ ?_
  ·simp only [Ty.w, simprocAttr, g1, g2, g4, g9]
   exact ⟨0, _, rfl, by omega, rfl, by simpa [flatR] using hI⟩
  ·clear g1 g2 g4 g9 hI
   rintro m S h' ⟨g1, g2, g4, g9, k, p, g10, hk, rfl, hI⟩
   by_cases hlt : k < kids.length
   ·have hd : decide ((k : Int) < (kids.length : Int)) = true := by simp; omega
    have w7 : IntKind.i64.wrap ((k : Int) + 1) = k + 1 := by rw [wrap64 (by omega) (by omega)]
    obtain ⟨x, hx⟩ : ∃ x, kids[k]? = some x := ⟨_, List.getElem?_eq_getElem hlt⟩
    have hr := Fm.rows_get hx
    have hc := hcs x (List.mem_of_getElem? hx)
    have hF := flatR_take (o := o) (N := kids.map (normalM · s)) (k := k) (n := normalM x s) (by simp [hx])
    have hl1 := Nat.le_trans (flatR_le o (kids.map (normalM · s)) (k + 1)) hB
    rw [← List.map_take, ← List.map_take] at hF
    rw [← List.map_take, hF, List.length_append] at hl1
    generalize flatR o ((kids.take k).map (normalM · s)) = L at hI hF hl1
    generalize normalM x s = y at hc hF hl1
    obtain ⟨yo, yn, ya, yp, ye, yk⟩ := y
    obtain ⟨xo, xn, xa, xp, xe, xk⟩ := x
    simp only [Fm.cells, opOf, fkids] at hr hc hF hl1
    clear hcs
    repeat' (first | refine a_seq fun K hK => ?_ | (refine a_regionS ?_; simp (maxSteps := 2000000) only [Ty.w, simprocAttr, g1, g2, g4, g9, g10, hlK, hd, hr, nsucc]) | (refine a_skip ?_; try simp only [pst0, simprocAttr]) | (refine a_cond _ (by (try simp (maxSteps := 2000000) only [Ty.w, simprocAttr, g1, g2, g4, g9, g10, hlK, hd, hr, nsucc]); rfl) (fun hb => ?_) (fun hb => ?_) <;> (try simp only [hb0, decide_eq_true_eq, decide_eq_false_iff_not, simprocAttr] at hb) <;> (try (exfalso; omega))) | (refine hK _ _ ?_; clear hK; try simp only [pst0, simprocAttr]))
    refine owp_useQ (hc _) (by (try simp only [Ty.w, simprocAttr, g1, g2, g4, g9, g10, nsucc]); try rfl) ?_; simp (maxSteps := 2000000) only [Ty.w, simprocAttr, g1, g2, g4, g9, g10, nsucc]
    repeat' (first | (with_reducible refine a_hold1 33 ?_) | (first | (refine hK _ _ ?_; clear hK; try simp only [pst0, simprocAttr])))
    refine ⟨?_⟩
    refine a_gen (fun S H => S 1 = .sc (.bool s) ∧ S 2 = .cptr [sPV op, sPV ⟨#[]⟩, .imm 1 [], .imm 2 (pmRows params), .imm 5 [], .imm 6 (Fm.rows kids)] ∧ S 4 = .ptr h.next 0 0 ∧ S 9 = .ptr A 0 0 ∧ S 10 = .sc (.int .i64 k) ∧ S 11 = .ptr h'.next 0 0 ∧ H.obj h'.next = some (.arr 6 [[sPV yo, sPV yn, .imm 1 (strRows ya), .imm 2 (pmRows yp), .imm 5 (Ex.rows ye), .imm 6 (Fm.rows yk)]]) ∧ H.next = h'.next + 1 ∧ ∀ j, j < h'.next → H.obj j = h'.obj j) ?_ ?_
    ·simp only [Ty.w, simprocAttr, g1, g2, g4, g9, g10]
     intro j hj
     have a1 : ¬ j = h'.next := by omega
     simp only [a1, if_false]
    clear g1 g2 g4 g9 g10 hr hd
    rintro S H ⟨g1, g2, g4, g9, g10, g11, hob, hnn, hold⟩
    have hI := hI.up (by omega) hold
    obtain ⟨hp1, hp2⟩ := hI.pc
    obtain ⟨HT, t1, t2, t3, t4, t5⟩ := hI.tl.tail
    have hla := hI.la
    have hlt2 := hI.lt
    have hkp := t5 h ⟨hI.grow.le, hI.grow.old⟩ (by omega)
    have o2 := hI.o2
    have o2T := (t4 _ (by omega)).trans o2
    have n2 : (A = HT.next) = False := by simp; omega
    have hpr := Fm.rows_len L
    have hyr := Fm.rows_len yk
    have hpushT := fun (hb : (L ++ yk).length = L.length + yk.length) => hI.push (M := yk) (m := L.length + yk.length) (R := Fm.rows L ++ Fm.rows yk) t3 t4 hkp (by simp only [Fm.rows_map, List.map_append]) hb.symm
    have hpushF := hI.push (M := [.mk yo yn ya yp ye yk]) (m := L.length + 1) (R := Fm.rows L ++ Fm.rows [.mk yo yn ya yp ye yk]) t3 t4 hkp (by simp only [Fm.rows_map, List.map_append]) (by simp)
    cases q : (yo.data.toList == o.data.toList) with
    | false =>
     have qe : bEq yo o = false := q
     simp only [qe, Bool.false_and, Bool.false_eq_true, if_false, List.length_cons, List.length_nil] at hF hl1
     have hb : (L.length + 1) * 128 ≤ 140737488355328 := by omega
     rw [← hF, t3] at hpushF
     simp only [Fm.rows, Fm.cells] at hpushF
     repeat' (first | refine a_seq fun K hK => ?_ | (refine a_block ?_) | ((first | refine a_regionS ?_ | refine a_region (fun K hK => ?_)); simp (maxSteps := 2000000) only [Ty.w, simprocAttr, g1, g2, g4, g9, g10, g11, hob, q, o2, o2T, n2, t1, t2, hpr, hp1, hp2, hb, w7, putC]) | (refine hK _ _ ?_; clear hK; try simp only [pst0, simprocAttr]))
     exact ⟨kids.length - (k + 1), by omega, k + 1, _, by simp, by omega, rfl, hpushF⟩
    | true =>
     have qe : bEq yo o = true := q
     cases q2 : (yo.data.toList == (#[97, 110, 100] : Array UInt8).toList) with
     | true =>
      have qe2 : bEq yo opAnd = true := q2
      simp only [qe, qe2, Bool.true_and, Bool.true_or, if_true] at hF hl1
      have hb : (L.length + yk.length) * 128 ≤ 140737488355328 := by omega
      have hpushT := hpushT (by simp)
      rw [← hF, t3] at hpushT
      repeat' (first | refine a_seq fun K hK => ?_ | (refine a_block ?_) | ((first | refine a_regionS ?_ | refine a_region (fun K hK => ?_)); simp (maxSteps := 2000000) only [Ty.w, simprocAttr, g1, g2, g4, g9, g10, g11, hob, q, q2, o2, o2T, n2, t1, t2, hpr, hyr, hp1, hp2, hb, w7, putC]) | (refine hK _ _ ?_; clear hK; try simp only [pst0, simprocAttr]))
      exact ⟨kids.length - (k + 1), by omega, k + 1, _, by simp, by omega, rfl, hpushT⟩
     | false =>
      have qe2 : bEq yo opAnd = false := q2
      cases q3 : (yo.data.toList == (#[111, 114] : Array UInt8).toList) with
      | true =>
       have qe3 : bEq yo opOr = true := q3
       simp only [qe, qe2, qe3, Bool.true_and, Bool.false_or, if_true] at hF hl1
       have hb : (L.length + yk.length) * 128 ≤ 140737488355328 := by omega
       have hpushT := hpushT (by simp)
       rw [← hF, t3] at hpushT
       repeat' (first | refine a_seq fun K hK => ?_ | (refine a_block ?_) | ((first | refine a_regionS ?_ | refine a_region (fun K hK => ?_)); simp (maxSteps := 2000000) only [Ty.w, simprocAttr, g1, g2, g4, g9, g10, g11, hob, q, q2, q3, o2, o2T, n2, t1, t2, hpr, hyr, hp1, hp2, hb, w7, putC]) | (refine hK _ _ ?_; clear hK; try simp only [pst0, simprocAttr]))
       exact ⟨kids.length - (k + 1), by omega, k + 1, _, by simp, by omega, rfl, hpushT⟩
      | false =>
       have qe3 : bEq yo opOr = false := q3
       simp only [qe, qe2, qe3, Bool.true_and, Bool.false_or, Bool.false_eq_true, if_false, List.length_cons, List.length_nil] at hF hl1
       have hb : (L.length + 1) * 128 ≤ 140737488355328 := by omega
       rw [← hF, t3] at hpushF
       simp only [Fm.rows, Fm.cells] at hpushF
       repeat' (first | refine a_seq fun K hK => ?_ | (refine a_block ?_) | ((first | refine a_regionS ?_ | refine a_region (fun K hK => ?_)); simp (maxSteps := 2000000) only [Ty.w, simprocAttr, g1, g2, g4, g9, g10, g11, hob, q, q2, q3, o2, o2T, n2, t1, t2, hpr, hp1, hp2, hb, w7, putC]) | (refine hK _ _ ?_; clear hK; try simp only [pst0, simprocAttr]))
       exact ⟨kids.length - (k + 1), by omega, k + 1, _, by simp, by omega, rfl, hpushF⟩
   ·have hd : decide ((k : Int) < (kids.length : Int)) = false := by simp; omega
    have hke : k = kids.length := by omega
    subst hke
    rw [List.take_length] at hI
    have o1 := hI.o1
    have o2 := hI.o2
    have hla := hI.la
    obtain ⟨hp1, hp2⟩ := hI.pc
    repeat' (first | refine a_seq fun K hK => ?_ | ((first | refine a_regionS ?_ | refine a_ret ?_); simp (maxSteps := 2000000) only [Ty.w, simprocAttr, g1, g2, g4, g9, g10, hlK, hd, o1, o2, hp1, hp2, putC]) | (refine a_exit ?_; try simp only [pst0, simprocAttr]) | (refine a_cond _ (by (try simp (maxSteps := 2000000) only [Ty.w, simprocAttr, g1, g2, g4, g9, g10, hlK, hd, o1, o2, hp1, hp2, putC]); rfl) (fun hb => ?_) (fun hb => ?_) <;> (try simp only [hb0, decide_eq_true_eq, decide_eq_false_iff_not, simprocAttr] at hb) <;> (try (exfalso; omega))) | ((first | refine hK _ _ ?_ | (clear hK; refine hK _ _ ?_)); clear hK; try simp only [pst0, simprocAttr]))
    refine ⟨frz_fm ?_ frz_nilslice ?_, hI.grow.set (Nat.le_refl _) _⟩
    ·have hob : (h'.set h.next (.arr 6 [[sPV o, .sc (.string ⟨#[]⟩), .sc (.slice none 0 0), .own (A + 2) 0 params.length, .sc (.slice none 0 0), p]])).obj (A + 2) = some (.arr 2 (pmRows params)) := by
      simp only [Heap.set]; rw [if_neg (by omega)]; exact hI.hp.2
     unfold FrzTo
     refine .inr (.inr ⟨A + 2, 0, params.length, pmRows params, rfl, by omega, hob, by rw [hlP]; omega, ?_⟩)
     rw [List.drop_zero, ← hlP, List.take_length]
     exact frz_pms params
    ·exact tl_frzF (by omega) (hI.tl.up (Nat.le_refl _) fun j hj _ => by simp only [Heap.set]; rw [if_neg (by omega)])
theorem flatR_flat {o : ByteArray} (ho : o = opAnd ∨ o = opOr) (l : List Fm) : flatR o l = flatM o l := by
 unfold flatR flatM
 congr 1
 funext n
 have h : (bEq (opOf n) o && (bEq (opOf n) opAnd || bEq (opOf n) opOr)) = bEq (opOf n) o := by
  cases q : bEq (opOf n) o with
  | false => rfl
  | true => rcases ho with rfl | rfl <;> rw [q] <;> simp
 rw [h]
theorem flatR_id {o : ByteArray} (ho : o = opAll ∨ o = opSome) : ∀ l : List Fm, flatR o l = l
 | [] => rfl
 | n :: l => by
  have ih := flatR_id ho l
  have h : (bEq (opOf n) o && (bEq (opOf n) opAnd || bEq (opOf n) opOr)) = false := by
   cases q : bEq (opOf n) o with
   | false => rfl
   | true =>
    have e := bEq_eq q
    rw [e]
    rcases ho with rfl | rfl <;> rfl
  simp only [flatR, List.flatMap_cons] at ih ⊢
  simp only [h, Bool.false_eq_true, if_false, ih, List.singleton_append]
theorem dual_in (s : Bool) : dualM opAnd opOr s = opAnd ∨ dualM opAnd opOr s = opOr := by cases s <;> simp [dualM]
theorem dual_in2 (s : Bool) : dualM opOr opAnd s = opAnd ∨ dualM opOr opAnd s = opOr := by cases s <;> simp [dualM]
theorem dual_q (s : Bool) : dualM opAll opSome s = opAll ∨ dualM opAll opSome s = opSome := by cases s <;> simp [dualM]
theorem dual_q2 (s : Bool) : dualM opSome opAll s = opAll ∨ dualM opSome opAll s = opSome := by cases s <;> simp [dualM]
theorem rnorm_or {kids : List Fm} (hkl : kids.length ≤ 1048576) (hB : ∀ o s, (flatM o (normalMs kids s)).length ≤ 1073741824) (ih : ∀ k ∈ kids, RNormC k) : RNormC (.mk opOr ⟨#[]⟩ [] [] [] kids) := by
 intro s h
 have := rnorm_rest (op := opOr) (op' := opAnd) (params := []) (kids := kids) rfl rfl rfl rfl rfl rfl rfl rother_or (by decide) hkl s (by rw [flatR_flat (dual_in2 s)]; exact hB _ s) ih h
 rw [flatR_flat (dual_in2 s)] at this
 exact this
theorem rnorm_and {kids : List Fm} (hkl : kids.length ≤ 1048576) (hB : ∀ o s, (flatM o (normalMs kids s)).length ≤ 1073741824) (ih : ∀ k ∈ kids, RNormC k) : RNormC (.mk opAnd ⟨#[]⟩ [] [] [] kids) := by
 intro s h
 have := rnorm_rest (op := opAnd) (op' := opOr) (params := []) (kids := kids) rfl rfl rfl rfl rfl rfl rfl rother_and (by decide) hkl s (by rw [flatR_flat (dual_in s)]; exact hB _ s) ih h
 rw [flatR_flat (dual_in s)] at this
 exact this
theorem rnorm_all {params : List Pm} {k : Fm} (hpl : params.length ≤ 1048576) (ih : RNormC k) : RNormC (.mk opAll ⟨#[]⟩ [] params [] [k]) := by
 intro s h
 have := rnorm_rest (op := opAll) (op' := opSome) (params := params) (kids := [k]) rfl rfl rfl rfl rfl rfl rfl rother_all hpl (by simp) s (by rw [flatR_id (dual_q s)]; simp [normalMs]) (fun x hx => by rw [List.mem_singleton.1 hx]; exact ih) h
 rw [flatR_id (dual_q s)] at this
 exact this
theorem rnorm_some {params : List Pm} {k : Fm} (hpl : params.length ≤ 1048576) (ih : RNormC k) : RNormC (.mk opSome ⟨#[]⟩ [] params [] [k]) := by
 intro s h
 have := rnorm_rest (op := opSome) (op' := opAll) (params := params) (kids := [k]) rfl rfl rfl rfl rfl rfl rfl rother_some hpl (by simp) s (by rw [flatR_id (dual_q2 s)]; simp [normalMs]) (fun x hx => by rw [List.mem_singleton.1 hx]; exact ih) h
 rw [flatR_id (dual_q2 s)] at this
 exact this
theorem rnorm_imp {a b : Fm} (hB : ∀ o s, (flatM o (normalMs [.mk opNot ⟨#[]⟩ [] [] [] [a], b] s)).length ≤ 1073741824) (ia : RNormC a) (ib : RNormC b) : RNormC (.mk opImp ⟨#[]⟩ [] [] [] [a, b]) := by
 intro s h
 have hc0 := fun H => rnorm_or (kids := [.mk opNot ⟨#[]⟩ [] [] [] [a], b]) (by simp) hB (fun k hk => by
  simp only [List.mem_cons, List.not_mem_nil, or_false] at hk
  rcases hk with rfl | rfl
  ·exact rnorm_not ia
  ·exact ib) s H
 have hN : normalM (.mk opImp ⟨#[]⟩ [] [] [] [a, b]) s = normalM (.mk opOr ⟨#[]⟩ [] [] [] [.mk opNot ⟨#[]⟩ [] [] [] [a], b]) s := by
  simp only [normalM, nt_imp, nt_or, nt_not, normalMs, List.headD_cons, List.drop_succ_cons, List.drop_zero]
 rw [hN]
 refine PCall.frz Ty.hb_62 ?_
 have hfz := fun (n : Nat) (H : Heap) => fm_frz n H (normalM (.mk opOr ⟨#[]⟩ [] [] [] [.mk opNot ⟨#[]⟩ [] [] [] [a], b]) s)
 generalize normalM (.mk opOr ⟨#[]⟩ [] [] [] [.mk opNot ⟨#[]⟩ [] [] [] [a], b]) s = y at hc0 hfz ⊢
 have hc : ∀ H : Heap, PCall Try.prog 62 [.agg [sPV opOr, .sc (.string ⟨#[]⟩), .sc (.slice none 0 0), .sc (.slice none 0 0), .sc (.slice none 0 0), .imm 6 [[sPV opNot, .sc (.string ⟨#[]⟩), .sc (.slice none 0 0), .sc (.slice none 0 0), .sc (.slice none 0 0), .imm 6 [a.cells]], b.cells]], .sc (.bool s)] H fun r h' => r = .agg y.cells ∧ h' = H := fun H => by
  refine PCall.nz (hc0 H) ?_
  simp only [Fm.cells, Fm.rows, Ex.rows, sr_nil, pr_nil]
  refine nz_cons (nz_agg ?_) (NzL.refl _)
  refine nz_cons (Nz.refl _) (nz_cons (Nz.refl _) (nz_cons nz_nil (nz_cons nz_nil (nz_cons nz_nil (nz_cons (nz_imm ?_) (NzL.refl _))))))
  refine nzr_cons ?_ (NzR.refl _)
  exact nz_cons (Nz.refl _) (nz_cons (Nz.refl _) (nz_cons nz_nil (nz_cons nz_nil (nz_cons nz_nil (NzL.refl _)))))
 clear hc0 hN
 have g1 : Grow h ((h.new (.arr 6 [[.sc (.string ⟨#[]⟩), .sc (.string ⟨#[]⟩), .sc (.slice none 0 0), .sc (.slice none 0 0), .sc (.slice none 0 0), .sc (.slice none 0 0)]])).new (.arr 6 [[.sc (.string ⟨#[]⟩), .sc (.string ⟨#[]⟩), .sc (.slice none 0 0), .sc (.slice none 0 0), .sc (.slice none 0 0), .sc (.slice none 0 0)]])) := ((Grow.refl h).new _).new _
 obtain ⟨yo, yn, ya, yp, ye, yk⟩ := y
 obtain ⟨ao, an, aa, ap, ae, ak⟩ := a
 obtain ⟨bo, bn, ba, bp, be, bk⟩ := b
 simp only [Fm.cells, Fm.rows, Ex.rows, sr_nil, pr_nil] at hc hfz ⊢
 have k1 : (opImp.data.toList == (#[97, 116, 111, 109] : Array UInt8).toList) = false := rfl
 have k2 : (opImp.data.toList == (#[115, 97, 109, 101] : Array UInt8).toList) = false := rfl
 have k3 : (opImp.data.toList == (#[60] : Array UInt8).toList) = false := rfl
 have k4 : (opImp.data.toList == (#[60, 61] : Array UInt8).toList) = false := rfl
 have k5 : (opImp.data.toList == (#[61] : Array UInt8).toList) = false := rfl
 have k6 : (opImp.data.toList == (#[110, 111, 116] : Array UInt8).toList) = false := rfl
 have k7 : (opImp.data.toList == (#[105, 109, 112, 108, 121] : Array UInt8).toList) = true := rfl
 have u2 : (h.next = h.next + 1) = False := eq_false (by omega)
 refine pcall_body (ow := fun _ => false) (wf := fun _ => false) Ty.mixed Try.func62 rfl Ty.hb_62 (by rw [Try.ntmps62]; simp) ?_
 rw [Try.ntmps62, Try.results62]
 repeat' (first | (with_reducible refine a_hold1 25 ?_) | (first | refine a_seq fun K hK => ?_ | (refine a_regionS ?_; simp (maxSteps := 2000000) only [Ty.w, simprocAttr, k1, k2, k3, k4, k5, k6, k7, nsucc, putC]) | (refine a_cond _ (by (try simp (maxSteps := 2000000) only [Ty.w, simprocAttr, k1, k2, k3, k4, k5, k6, k7, nsucc, putC]); rfl) (fun hb => ?_) (fun hb => ?_) <;> (try simp only [hb0, decide_eq_true_eq, decide_eq_false_iff_not, simprocAttr] at hb) <;> (try (exfalso; omega))) | (refine hK _ _ ?_; clear hK; try simp only [pst0, simprocAttr])))
 refine ⟨?_⟩
 refine a_gen (fun S H => S 1 = .sc (.bool s) ∧ S 2 = .cptr [sPV opImp, sPV ⟨#[]⟩, .imm 1 [], .imm 2 [], .imm 5 [], .imm 6 [[sPV ao, sPV an, .imm 1 (strRows aa), .imm 2 (pmRows ap), .imm 5 (Ex.rows ae), .imm 6 (Fm.rows ak)], [sPV bo, sPV bn, .imm 1 (strRows ba), .imm 2 (pmRows bp), .imm 5 (Ex.rows be), .imm 6 (Fm.rows bk)]]] ∧ S 4 = .ptr h.next 0 0 ∧ S 8 = .ptr (h.next + 1) 0 0 ∧ H = ((h.new (.arr 6 [[.sc (.string ⟨#[]⟩), .sc (.string ⟨#[]⟩), .sc (.slice none 0 0), .sc (.slice none 0 0), .sc (.slice none 0 0), .sc (.slice none 0 0)]])).new (.arr 6 [[.sc (.string ⟨#[]⟩), .sc (.string ⟨#[]⟩), .sc (.slice none 0 0), .sc (.slice none 0 0), .sc (.slice none 0 0), .sc (.slice none 0 0)]])).set (h.next + 1) (.arr 6 [[sPV ⟨#[110, 111, 116]⟩, .sc (.string ⟨#[]⟩), .sc (.slice none 0 0), .sc (.slice none 0 0), .sc (.slice none 0 0), .imm 6 [[sPV ao, sPV an, .imm 1 (strRows aa), .imm 2 (pmRows ap), .imm 5 (Ex.rows ae), .imm 6 (Fm.rows ak)]]]])) ?_ ?_
 ·simp only [Ty.w, simprocAttr, nsucc]
 rintro S H ⟨g1', g2, g4, g8, rfl⟩
 have W := And.intro g1' (And.intro g2 (And.intro g4 (And.intro g8 u2)))
 repeat' (first | refine a_seq fun K hK => ?_ | (refine a_drawS (by decide +kernel) ?_; simp (maxSteps := 2000000) only [Ty.w, simprocAttr, W, nsucc]))
 (first | refine a_dcall0 (hc _) (by (try simp only [Ty.w, simprocAttr, W, nsucc]); try rfl) ?_ | refine a_dcallA (hc _) (by (try simp only [Ty.w, simprocAttr, W, nsucc]); try rfl) (by simp only [Ty.w, simprocAttr, W, nsucc]; try trivial) ?_); simp (maxSteps := 2000000) only [Ty.w, simprocAttr, W, Option.getD_some, nsucc]
 repeat' (first | (refine a_ret ?_; simp (maxSteps := 2000000) only [Ty.w, simprocAttr, W, nsucc, putC]) | (refine hK _ _ ?_; clear hK; try simp only [pst0, simprocAttr]) | (with_reducible refine a_past2 (by simp only [List.forall_mem_cons, Ty.w, simprocAttr, g1', g2, g4, g8, nsucc, u2, putC]; (repeat' apply And.intro) <;> first | trivial | exact .inl (by decide +kernel)) ?_; try simp (maxSteps := 2000000) only [Ty.w, simprocAttr, W, nsucc, putC]))
 exact ⟨frz_agg (hfz _ _), (g1.set (Nat.le_succ _) _).set (Nat.le_refl _) _⟩
theorem rnormal_c : ∀ f, shapedF f = true → f.small → PV.bulkL f.cells ≤ 16777216 → RNormC f := by
 refine sf_ind ?_ ?_ ?_ ?_ ?_ ?_ ?_
 ·intro name args _ _ _ _; exact rnorm_atom
 ·intro args _ _ _ _; exact rnorm_same
 ·intro op a b ho _ _ _ _
  rcases ho with rfl | rfl | rfl
  ·exact rnorm_lt
  ·exact rnorm_le
  ·exact rnorm_eq
 ·intro op kids ho hk ih hsm hb
  simp only [Fm.small] at hsm
  obtain ⟨_, _, _, hkl, hks⟩ := hsm
  rw [Fm.smalls_iff] at hks
  simp only [Fm.cells, PV.bulkL, PV.bulk] at hb
  have hB : ∀ o s, (flatM o (normalMs kids s)).length ≤ 1073741824 := fun o s => by
   have h1 := flatM_len o s kids fun k hkk => norm_len k (hk k hkk) s
   have h2 := cntFs_bulk kids
   omega
  have ihk : ∀ k ∈ kids, RNormC k := fun k hkk => ih k hkk (hks k hkk) (by have := bulk_memF hkk; omega)
  rcases ho with rfl | rfl
  ·exact rnorm_and hkl hB ihk
  ·exact rnorm_or hkl hB ihk
 ·intro k _ ih hsm hb
  simp only [Fm.small, Fm.smalls] at hsm
  simp only [Fm.cells, PV.bulkL, PV.bulk, Fm.rows, PV.bulkR] at hb
  exact rnorm_not (ih hsm.2.2.2.2.1 (by omega))
 ·intro a b sa sb ia ib hsm hb
  simp only [Fm.small, Fm.smalls] at hsm
  simp only [Fm.cells, PV.bulkL, PV.bulk, Fm.rows, PV.bulkR] at hb
  have hna : shapedF (.mk opNot ⟨#[]⟩ [] [] [] [a]) = true := sf_mk po_not (by simp) (by simpa using sa)
  refine rnorm_imp (fun o s => ?_) (ia hsm.2.2.2.2.1 (by omega)) (ib hsm.2.2.2.2.2.1 (by omega))
  have h1 := flatM_len o s [.mk opNot ⟨#[]⟩ [] [] [] [a], b] fun k hk => by
   simp only [List.mem_cons, List.not_mem_nil, or_false] at hk
   rcases hk with rfl | rfl
   ·exact norm_len _ hna s
   ·exact norm_len _ sb s
  have h2 := cntF_bulk a
  have h3 := cntF_bulk b
  simp only [cntFs, cntF] at h1
  omega
 ·intro op params k ho hp _ ih hsm hb
  simp only [Fm.small, Fm.smalls] at hsm
  simp only [Fm.cells, PV.bulkL, PV.bulk, Fm.rows, PV.bulkR] at hb
  have ik := ih hsm.2.2.2.2.1 (by omega)
  rcases ho with rfl | rfl
  ·exact rnorm_all hsm.2.1 ik
  ·exact rnorm_some hsm.2.1 ik
theorem RNormal_c {f : Fm} (hsh : shapedF f = true) (hsm : f.small) (hb : PV.bulkL f.cells ≤ 16777216) (h : Heap) :
  PCall Try.prog 23 [.agg f.cells] h fun r h' => r = .agg (normalM f true).cells ∧ h' = h := by
 have hc := rnormal_c f hsh hsm hb true
 refine PCall.frz Ty.hb_23 ?_
 have g1 : Grow h (h.new (.arr 6 [[.sc (.string ⟨#[]⟩), .sc (.string ⟨#[]⟩), .sc (.slice none 0 0), .sc (.slice none 0 0), .sc (.slice none 0 0), .sc (.slice none 0 0)]])) := (Grow.refl h).new _
 have hfz := fun (n : Nat) (H : Heap) => fm_frz n H (normalM f true)
 generalize normalM f true = y at hc hfz ⊢
 obtain ⟨yo, yn, ya, yp, ye, yk⟩ := y
 obtain ⟨op, name, args, params, exprs, kids⟩ := f
 simp only [Fm.cells] at hc hfz ⊢
 refine pcall_body (ow := fun _ => false) (wf := fun _ => false) Ty.mixed Try.func23 rfl Ty.hb_23 (by rw [Try.ntmps23]; simp) ?_
 rw [Try.ntmps23, Try.results23]
 repeat' (first | refine a_seq fun K hK => ?_ | (refine a_regionS ?_; simp (maxSteps := 2000000) only [Ty.w, simprocAttr, nsucc]) | (refine hK _ _ ?_; clear hK; try simp only [pst0, simprocAttr]))
 refine owp_useQ (hc _) (by (try simp only [Ty.w, simprocAttr, nsucc]); try rfl) ?_; simp (maxSteps := 2000000) only [Ty.w, simprocAttr, nsucc]
 repeat' (first | (refine a_ret ?_; simp (maxSteps := 2000000) only [Ty.w, simprocAttr, nsucc, putC]) | (refine hK _ _ ?_; clear hK; try simp only [pst0, simprocAttr]))
 exact ⟨frz_agg (hfz _ _), g1.set (Nat.le_refl _) _⟩
end Go.Proofs.Ytjlkapgpjamnkaa
namespace Go.Proofs.Ytjlkapgpjamnkaa
open Go.AM
set_option maxHeartbeats 2000000
set_option maxRecDepth 20000
theorem rsizeE_c : ∀ (e : Ex), e.ok → ∀ h : Heap, PCall Try.prog 39 [.agg e.cells] h fun r h' => r = .sc (.int .i64 e.size) ∧ h' = h := by
 refine Ex.ind ?_
 intro op name n args kids ih hok h
 simp only [Ex.ok] at hok
 obtain ⟨_, _, _, _, hk, hks⟩ := hok
 rw [Ex.oks_iff] at hks
 have hlen := Ex.rows_len kids
 simp only [Ex.cells, Ex.size]
 refine pcall_body (ow := fun _ => false) (wf := fun _ => false) Ty.mixed Try.func39 rfl Ty.hb_39 (by rw [Try.ntmps39]; simp) ?_
 rw [Try.ntmps39, Try.results39]
 repeat' (first | refine a_seq fun K hK => ?_ | (refine a_block ?_) | (refine a_regionS ?_; simp (maxSteps := 2000000) only [Ty.w, simprocAttr, hlen]) | (refine hK _ _ ?_; clear hK; try simp only [pst0, simprocAttr]))
 refine a_loop (fun m S h' => h' = h ∧ S 1 = .cptr (Ex.mk op name n args kids).cells ∧ ∃ k : Nat, S 4 = .sc (.int .i64 k) ∧ k ≤ kids.length ∧ m = kids.length - k ∧ S 3 = .sc (.int .i64 (Ex.sizes 1 (kids.take k)))) kids.length ?_ ?_
 ·simp only [Ty.w, simprocAttr]
  exact ⟨rfl, 0, rfl, by omega, rfl, by simp [Ex.sizes]⟩
 ·rintro m S h' ⟨rfl, g1, k, g4, hkl, rfl, g3⟩
  simp only [Ex.cells] at g1
  by_cases hlt : k < kids.length
  ·have hd : decide ((k : Int) < (kids.length : Int)) = true := by simp; omega
   have w7 : IntKind.i64.wrap ((k : Int) + 1) = k + 1 := by unfold bigN at hk; rw [wrap64 (by omega) (by omega)]
   obtain ⟨e, hx⟩ : ∃ e, kids[k]? = some e := ⟨_, List.getElem?_eq_getElem hlt⟩
   have hmem := List.mem_of_getElem? hx
   have hc := ih e hmem (hks e hmem)
   have hsz := Ex.sizes_take 1 hx
   have hr := Ex.rows_get hx
   obtain ⟨op2, name2, n2, args2, kids2⟩ := e
   simp only [Ex.cells] at hr hc
   repeat' (first | refine a_seq fun K hK => ?_ | (refine a_block ?_) | ((first | refine a_regionS ?_ | refine a_region (fun K hK => ?_)); simp (maxSteps := 2000000) only [Ty.w, simprocAttr, g1, g3, g4, hlen, hd, hr, w7]) | (refine a_skip ?_; try simp only [pst0, simprocAttr]) | (refine a_cond _ (by (try simp (maxSteps := 2000000) only [Ty.w, simprocAttr, g1, g3, g4, hlen, hd, hr, w7]); rfl) (fun hb => ?_) (fun hb => ?_) <;> (try simp only [hb0, decide_eq_true_eq, decide_eq_false_iff_not, simprocAttr] at hb) <;> (try (exfalso; omega))) | (refine hK _ _ ?_; clear hK; try simp only [pst0, simprocAttr]))
   refine owp_useQ (hc _) (by (try simp only [Ty.w, simprocAttr, g1, g3, g4, hlen, hd, hr]); try rfl) ?_; simp (maxSteps := 2000000) only [Ty.w, simprocAttr, g1, g3, g4, hlen, hd, hr]
   repeat' (first | (refine a_regionS ?_; simp (maxSteps := 2000000) only [Ty.w, simprocAttr, g1, g3, g4, w7]) | (refine hK _ _ ?_; clear hK; try simp only [pst0, simprocAttr]))
   exact ⟨kids.length - (k + 1), by omega, rfl, k + 1, by simp, by omega, rfl, by rw [hsz]⟩
  ·have hd : decide ((k : Int) < (kids.length : Int)) = false := by simp; omega
   have hke : k = kids.length := by omega
   subst hke
   rw [List.take_length] at g3
   repeat' (first | refine a_seq fun K hK => ?_ | ((first | refine a_regionS ?_ | refine a_ret ?_); simp (maxSteps := 2000000) only [Ty.w, simprocAttr, g1, g3, g4, hlen, hd]) | (refine a_exit ?_; try simp only [pst0, simprocAttr]) | (refine a_cond _ (by (try simp (maxSteps := 2000000) only [Ty.w, simprocAttr, g1, g3, g4, hlen, hd]); rfl) (fun hb => ?_) (fun hb => ?_) <;> (try simp only [hb0, decide_eq_true_eq, decide_eq_false_iff_not, simprocAttr] at hb) <;> (try (exfalso; omega))) | ((first | refine hK _ _ ?_ | (clear hK; refine hK _ _ ?_)); clear hK; try simp only [pst0, simprocAttr]))
theorem rsize_c : ∀ (f : Fm), f.ok → ∀ h : Heap, PCall Try.prog 24 [.agg f.cells] h fun r h' => r = .sc (.int .i64 f.size) ∧ h' = h := by
 refine Fm.ind ?_
 intro op name args params exprs kids ih hok h
 simp only [Fm.ok] at hok
 obtain ⟨_, _, _, _, ⟨he, hes⟩, hk, hks⟩ := hok
 rw [Ex.oks_iff] at hes
 rw [Fm.oks_iff] at hks
 have hlen := Fm.rows_len kids
 have hlene := Ex.rows_len exprs
 simp only [Fm.cells, Fm.size]
 refine pcall_body (ow := fun _ => false) (wf := fun _ => false) Ty.mixed Try.func24 rfl Ty.hb_24 (by rw [Try.ntmps24]; simp) ?_
 rw [Try.ntmps24, Try.results24]
 repeat' (first | refine a_seq fun K hK => ?_ | (refine a_block ?_) | (refine a_regionS ?_; simp (maxSteps := 2000000) only [Ty.w, simprocAttr, hlen]) | (refine hK _ _ ?_; clear hK; try simp only [pst0, simprocAttr]))
 refine a_loop (fun m S h' => h' = h ∧ S 1 = .cptr (Fm.mk op name args params exprs kids).cells ∧ ∃ k : Nat, S 4 = .sc (.int .i64 k) ∧ k ≤ exprs.length ∧ m = exprs.length - k ∧ S 3 = .sc (.int .i64 (Ex.sizes 1 (exprs.take k)))) exprs.length ?_ ?_
 ·simp only [Ty.w, simprocAttr]
  exact ⟨rfl, 0, rfl, by omega, rfl, by simp [Ex.sizes]⟩
 ·rintro m S h' ⟨rfl, g1, k, g4, hkl, rfl, g3⟩
  simp only [Fm.cells] at g1
  by_cases hlt : k < exprs.length
  ·have hd : decide ((k : Int) < (exprs.length : Int)) = true := by simp; omega
   have w7 : IntKind.i64.wrap ((k : Int) + 1) = k + 1 := by unfold bigN at he; rw [wrap64 (by omega) (by omega)]
   obtain ⟨e, hx⟩ : ∃ e, exprs[k]? = some e := ⟨_, List.getElem?_eq_getElem hlt⟩
   have hmem := List.mem_of_getElem? hx
   have hc := rsizeE_c e (hes e hmem)
   have hsz := Ex.sizes_take 1 hx
   have hr := Ex.rows_get hx
   obtain ⟨op2, name2, n2, args2, kids2⟩ := e
   simp only [Ex.cells] at hr hc
   repeat' (first | refine a_seq fun K hK => ?_ | (refine a_block ?_) | ((first | refine a_regionS ?_ | refine a_region (fun K hK => ?_)); simp (maxSteps := 2000000) only [Ty.w, simprocAttr, g1, g3, g4, hlene, hd, hr, w7]) | (refine a_skip ?_; try simp only [pst0, simprocAttr]) | (refine a_cond _ (by (try simp (maxSteps := 2000000) only [Ty.w, simprocAttr, g1, g3, g4, hlene, hd, hr, w7]); rfl) (fun hb => ?_) (fun hb => ?_) <;> (try simp only [hb0, decide_eq_true_eq, decide_eq_false_iff_not, simprocAttr] at hb) <;> (try (exfalso; omega))) | (refine hK _ _ ?_; clear hK; try simp only [pst0, simprocAttr]))
   refine owp_useQ (hc _) (by (try simp only [Ty.w, simprocAttr, g1, g3, g4, hlene, hd, hr]); try rfl) ?_; simp (maxSteps := 2000000) only [Ty.w, simprocAttr, g1, g3, g4, hlene, hd, hr]
   repeat' (first | (refine a_regionS ?_; simp (maxSteps := 2000000) only [Ty.w, simprocAttr, g1, g3, g4, w7]) | (refine hK _ _ ?_; clear hK; try simp only [pst0, simprocAttr]))
   exact ⟨exprs.length - (k + 1), by omega, by simp only [Fm.cells], k + 1, by simp, by omega, rfl, by rw [hsz]⟩
  ·have hd : decide ((k : Int) < (exprs.length : Int)) = false := by simp; omega
   have hke : k = exprs.length := by omega
   subst hke
   rw [List.take_length] at g3
   repeat' (first | refine a_seq fun K hK => ?_ | (refine a_block ?_) | (refine a_regionS ?_; simp (maxSteps := 2000000) only [Ty.w, simprocAttr, g1, g3, g4, hlene, hd]) | (refine a_exit ?_; try simp only [pst0, simprocAttr]) | (refine a_cond _ (by (try simp (maxSteps := 2000000) only [Ty.w, simprocAttr, g1, g3, g4, hlene, hd]); rfl) (fun hb => ?_) (fun hb => ?_) <;> (try simp only [hb0, decide_eq_true_eq, decide_eq_false_iff_not, simprocAttr] at hb) <;> (try (exfalso; omega))) | ((first | refine hK _ _ ?_ | (clear hK; refine hK _ _ ?_)); clear hK; try simp only [pst0, simprocAttr]))
   refine a_loop (fun m S h2 => h2 = h' ∧ S 1 = .cptr (Fm.mk op name args params exprs kids).cells ∧ ∃ k : Nat, S 5 = .sc (.int .i64 k) ∧ k ≤ kids.length ∧ m = kids.length - k ∧ S 3 = .sc (.int .i64 (Fm.sizes (Ex.sizes 1 exprs) (kids.take k)))) kids.length ?_ ?_
   ·simp only [Ty.w, simprocAttr, g1, g3]
    exact ⟨by simp only [Fm.cells], 0, rfl, by omega, rfl, by simp [Fm.sizes]⟩
   ·clear g1 g3 g4
    rintro m S h' ⟨rfl, g1, k, g5, hkl, rfl, g3⟩
    simp only [Fm.cells] at g1
    by_cases hlt : k < kids.length
    ·have hd : decide ((k : Int) < (kids.length : Int)) = true := by simp; omega
     have w7 : IntKind.i64.wrap ((k : Int) + 1) = k + 1 := by unfold bigN at hk; rw [wrap64 (by omega) (by omega)]
     obtain ⟨e, hx⟩ : ∃ e, kids[k]? = some e := ⟨_, List.getElem?_eq_getElem hlt⟩
     have hmem := List.mem_of_getElem? hx
     have hc := ih e hmem (hks e hmem)
     have hsz := Fm.sizes_take (Ex.sizes 1 exprs) hx
     have hr := Fm.rows_get hx
     obtain ⟨op2, name2, args2, params2, exprs2, kids2⟩ := e
     simp only [Fm.cells] at hr hc
     repeat' (first | refine a_seq fun K hK => ?_ | (refine a_block ?_) | ((first | refine a_regionS ?_ | refine a_region (fun K hK => ?_)); simp (maxSteps := 2000000) only [Ty.w, simprocAttr, g1, g3, g5, hlen, hd, hr, w7]) | (refine a_skip ?_; try simp only [pst0, simprocAttr]) | (refine a_cond _ (by (try simp (maxSteps := 2000000) only [Ty.w, simprocAttr, g1, g3, g5, hlen, hd, hr, w7]); rfl) (fun hb => ?_) (fun hb => ?_) <;> (try simp only [hb0, decide_eq_true_eq, decide_eq_false_iff_not, simprocAttr] at hb) <;> (try (exfalso; omega))) | (refine hK _ _ ?_; clear hK; try simp only [pst0, simprocAttr]))
     refine owp_useQ (hc _) (by (try simp only [Ty.w, simprocAttr, g1, g3, g5, hlen, hd, hr]); try rfl) ?_; simp (maxSteps := 2000000) only [Ty.w, simprocAttr, g1, g3, g5, hlen, hd, hr]
     repeat' (first | (refine a_regionS ?_; simp (maxSteps := 2000000) only [Ty.w, simprocAttr, g1, g3, g5, w7]) | (refine hK _ _ ?_; clear hK; try simp only [pst0, simprocAttr]))
     exact ⟨kids.length - (k + 1), by omega, by simp only [Fm.cells], k + 1, by simp, by omega, rfl, by rw [hsz]⟩
    ·have hd : decide ((k : Int) < (kids.length : Int)) = false := by simp; omega
     have hke : k = kids.length := by omega
     subst hke
     rw [List.take_length] at g3
     repeat' (first | refine a_seq fun K hK => ?_ | ((first | refine a_regionS ?_ | refine a_ret ?_); simp (maxSteps := 2000000) only [Ty.w, simprocAttr, g1, g3, g5, hlen, hd]) | (refine a_exit ?_; try simp only [pst0, simprocAttr]) | (refine a_cond _ (by (try simp (maxSteps := 2000000) only [Ty.w, simprocAttr, g1, g3, g5, hlen, hd]); rfl) (fun hb => ?_) (fun hb => ?_) <;> (try simp only [hb0, decide_eq_true_eq, decide_eq_false_iff_not, simprocAttr] at hb) <;> (try (exfalso; omega))) | ((first | refine hK _ _ ?_ | (clear hK; refine hK _ _ ?_)); clear hK; try simp only [pst0, simprocAttr]))
theorem large_c {f : Fm} (hf : f.ok) (h : Heap) : PCall Try.prog 19 [.agg f.cells] h fun r h' => r = .sc (.bool (decide (f.size > 5000))) ∧ h' = h := by
 have hc := rsize_c f hf
 obtain ⟨op, name, args, params, exprs, kids⟩ := f
 simp only [Fm.cells] at hc ⊢
 refine pcall_body (ow := fun _ => false) (wf := fun _ => false) Ty.mixed Try.func19 rfl Ty.hb_19 (by rw [Try.ntmps19]; simp) ?_
 rw [Try.ntmps19, Try.results19]
 repeat' (first | refine a_seq fun K hK => ?_ | (refine a_regionS ?_; simp (maxSteps := 2000000) only [Ty.w, simprocAttr]) | (refine hK _ _ ?_; clear hK; try simp only [pst0, simprocAttr]))
 refine owp_useQ (hc _) (by (try simp only [Ty.w, simprocAttr, ]); try rfl) ?_; simp (maxSteps := 2000000) only [Ty.w, simprocAttr, ]
 repeat' (first | (refine a_ret ?_; simp (maxSteps := 2000000) only [Ty.w, simprocAttr]) | (refine hK _ _ ?_; clear hK; try simp only [pst0, simprocAttr]))
end Go.Proofs.Ytjlkapgpjamnkaa
namespace Go.Proofs.Ytjlkapgpjamnkaa
open Go.AM
set_option maxHeartbeats 4000000
set_option maxRecDepth 20000
theorem bsEq_self : ∀ l : List ByteArray, bsEq l l = true
 | [] => rfl
 | a :: l => by simp [bsEq, bEq, bsEq_self l]
end Go.Proofs.Ytjlkapgpjamnkaa
namespace Go.Proofs.Ytjlkapgpjamnkaa
open Go.AM
set_option maxRecDepth 20000
theorem ops_sz (a b : ByteArray) (s : Bool) (ha : a.size ≤ 6) (hb : b.size ≤ 6) : (dualM a b s).size ≤ 6 := by
 unfold dualM; split <;> assumption
theorem ok_kids {n : Fm} (h : n.ok) : ∀ k ∈ fkids n, k.ok := by
 obtain ⟨op, name, args, params, exprs, kids⟩ := n
 simp only [Fm.ok] at h
 exact Fm.oks_iff.1 h.2.2.2.2.2.2
theorem small_kids {n : Fm} (h : n.small) : ∀ k ∈ fkids n, k.small := by
 obtain ⟨op, name, args, params, exprs, kids⟩ := n
 simp only [Fm.small] at h
 exact Fm.smalls_iff.1 h.2.2.2.2
theorem comb_fit {o : ByteArray} {l : List Fm} (ho : o.size ≤ 6) (hl : (flatM o l).length ≤ 1048576) (h : ∀ k ∈ l, k.ok ∧ k.small) : (combM o l).ok ∧ (combM o l).small := by
 have hm : ∀ k ∈ flatM o l, k.ok ∧ k.small := fun k hk => by
  rcases flatM_mem hk with ⟨n, hn, _, hk⟩ | ⟨hk, _⟩
  ·exact ⟨ok_kids (h n hn).1 k hk, small_kids (h n hn).2 k hk⟩
  ·exact h k hk
 constructor
 ·simp only [combM, Fm.ok, Ex.oks]
  refine ⟨by unfold bigN; omega, by decide, ⟨by decide, by simp⟩, ⟨by decide, by simp⟩, ⟨by decide, trivial⟩, by unfold bigN; omega, Fm.oks_iff.2 fun k hk => (hm k hk).1⟩
 ·simp only [combM, Fm.small, Ex.smalls]
  exact ⟨by decide, by decide, trivial, hl, Fm.smalls_iff.2 fun k hk => (hm k hk).2⟩
theorem one_fit {o : ByteArray} {params : List Pm} {k : Fm} (ho : o.size ≤ 6) (hp : params.length ≤ 1048576) (hps : ∀ p ∈ params, p.ok) (h : k.ok ∧ k.small) : (Fm.mk o ⟨#[]⟩ [] params [] [k]).ok ∧ (Fm.mk o ⟨#[]⟩ [] params [] [k]).small := by
 constructor
 ·simp only [Fm.ok, Ex.oks, Fm.oks]
  refine ⟨by unfold bigN; omega, by decide, ⟨by decide, by simp⟩, ⟨by unfold bigN; omega, hps⟩, ⟨by decide, trivial⟩, by simp [bigN], h.1, trivial⟩
 ·simp only [Fm.small, Ex.smalls, Fm.smalls]
  exact ⟨by decide, hp, trivial, by simp, h.2, trivial⟩
theorem cmp_fit {o : ByteArray} {a b : Ex} (ho : o.size ≤ 6) (ha : a.ok ∧ a.small) (hb : b.ok ∧ b.small) : (cmpM o a b).ok ∧ (cmpM o a b).small := by
 constructor
 ·simp only [cmpM, Fm.ok, Ex.oks, Fm.oks]
  exact ⟨by unfold bigN; omega, by decide, ⟨by decide, by simp⟩, ⟨by decide, by simp⟩, ⟨by simp [bigN], ha.1, hb.1, trivial⟩, by decide, trivial⟩
 ·simp only [cmpM, Fm.small, Ex.smalls, Fm.smalls]
  exact ⟨by decide, by decide, ⟨ha.2, hb.2, trivial⟩, by decide, trivial⟩
theorem two_fit {o : ByteArray} {a b : Fm} (ho : o.size ≤ 6) (ha : a.ok ∧ a.small) (hb : b.ok ∧ b.small) : (Fm.mk o ⟨#[]⟩ [] [] [] [a, b]).ok ∧ (Fm.mk o ⟨#[]⟩ [] [] [] [a, b]).small := by
 constructor
 ·simp only [Fm.ok, Ex.oks, Fm.oks]
  exact ⟨by unfold bigN; omega, by decide, ⟨by decide, by simp⟩, ⟨by decide, by simp⟩, ⟨by decide, trivial⟩, by simp [bigN], ha.1, hb.1, trivial⟩
 ·simp only [Fm.small, Ex.smalls, Fm.smalls]
  exact ⟨by decide, by decide, trivial, by simp, ha.2, hb.2, trivial⟩
theorem normalM_fit : ∀ f, shapedF f = true → f.ok → f.small → 2 * cntF f ≤ 1048576 → ∀ s, (normalM f s).ok ∧ (normalM f s).small := by
 refine sf_ind ?_ ?_ ?_ ?_ ?_ ?_ ?_
 ·intro name args _ _ hok hsm _ s
  simp only [normalM, nt_atom]
  split
  ·exact ⟨hok, hsm⟩
  ·exact one_fit (by decide) (by decide) (by simp) ⟨hok, hsm⟩
 ·intro args _ _ hok hsm _ s
  simp only [normalM, nt_same]
  split
  ·exact ⟨hok, hsm⟩
  ·exact one_fit (by decide) (by decide) (by simp) ⟨hok, hsm⟩
 ·intro op a b ho _ _ hok hsm _ s
  simp only [Fm.ok, Ex.oks] at hok
  simp only [Fm.small, Ex.smalls] at hsm
  have ha : a.ok ∧ a.small := ⟨hok.2.2.2.2.1.2.1, hsm.2.2.1.1⟩
  have hb : b.ok ∧ b.small := ⟨hok.2.2.2.2.1.2.2.1, hsm.2.2.1.2.1⟩
  rcases ho with rfl | rfl | rfl
  ·simp only [normalM, nt_lt, cmpN]; split
   ·exact cmp_fit (by decide) ha hb
   ·exact cmp_fit (by decide) hb ha
  ·simp only [normalM, nt_le, cmpN]; split
   ·exact cmp_fit (by decide) ha hb
   ·exact cmp_fit (by decide) hb ha
  ·simp only [normalM, nt_eq, eqN]; split
   ·exact cmp_fit (by decide) ha hb
   ·exact two_fit (by decide) (cmp_fit (by decide) ha hb) (cmp_fit (by decide) hb ha)
 ·intro op kids ho hsh ih hok hsm hc s
  simp only [Fm.ok] at hok
  simp only [Fm.small] at hsm
  simp only [cntF] at hc
  have hks := Fm.oks_iff.1 hok.2.2.2.2.2.2
  have hss := Fm.smalls_iff.1 hsm.2.2.2.2
  have h4 := ops_sz opAnd opOr s (by decide) (by decide)
  have h5 := ops_sz opOr opAnd s (by decide) (by decide)
  have hm : ∀ k ∈ normalMs kids s, k.ok ∧ k.small := fun k hk => by
   rw [normalMs_map] at hk
   obtain ⟨x, hx, rfl⟩ := List.mem_map.1 hk
   have := cntFs_map kids x hx
   exact ih x hx (hks x hx) (hss x hx) (by omega) s
  have hl := fun o => flatM_len o s kids fun k hk => norm_len k (hsh k hk) s
  rcases ho with rfl | rfl
  ·simp only [normalM, nt_and]
   exact comb_fit h4 (by have := hl (dualM opAnd opOr s); omega) hm
  ·simp only [normalM, nt_or]
   exact comb_fit h5 (by have := hl (dualM opOr opAnd s); omega) hm
 ·intro k _ ih hok hsm hc s
  simp only [Fm.ok, Fm.oks] at hok
  simp only [Fm.small, Fm.smalls] at hsm
  simp only [cntF, cntFs] at hc
  simp only [normalM, nt_not, normalMs, List.headD_cons]
  exact ih hok.2.2.2.2.2.2.1 hsm.2.2.2.2.1 (by omega) (!s)
 ·intro a b sa sb ia ib hok hsm hc s
  simp only [Fm.ok, Fm.oks] at hok
  simp only [Fm.small, Fm.smalls] at hsm
  simp only [cntF, cntFs] at hc
  have ha := ia hok.2.2.2.2.2.2.1 hsm.2.2.2.2.1 (by omega) (!s)
  have hb := ib hok.2.2.2.2.2.2.2.1 hsm.2.2.2.2.2.1 (by omega) s
  have l1 := norm_len a sa (!s)
  have l2 := norm_len b sb s
  have p1 := cntF_pos a
  have p2 := cntF_pos b
  simp only [normalM, nt_imp, normalMs, List.headD_cons, List.drop_succ_cons, List.drop_zero]
  refine comb_fit (ops_sz opOr opAnd s (by decide) (by decide)) ?_ fun k hk => ?_
  ·generalize normalM a (!s) = x at l1 ⊢
   generalize normalM b s = y at l2 ⊢
   simp only [flatM, List.flatMap_cons, List.flatMap_nil, List.append_nil, List.length_append]
   split <;> split <;> (try simp only [List.length_cons, List.length_nil]) <;> omega
  ·simp only [List.mem_cons, List.not_mem_nil, or_false] at hk
   rcases hk with rfl | rfl
   ·exact ha
   ·exact hb
 ·intro op params k ho _ _ ih hok hsm hc s
  simp only [Fm.ok, Fm.oks] at hok
  simp only [Fm.small, Fm.smalls] at hsm
  simp only [cntF, cntFs] at hc
  have hk := ih hok.2.2.2.2.2.2.1 hsm.2.2.2.2.1 (by omega) s
  rcases ho with rfl | rfl
  ·simp only [normalM, nt_all, normalMs, List.headD_cons]
   exact one_fit (ops_sz opAll opSome s (by decide) (by decide)) hsm.2.1 hok.2.2.2.1.2 hk
  ·simp only [normalM, nt_some, normalMs, List.headD_cons]
   exact one_fit (ops_sz opSome opAll s (by decide) (by decide)) hsm.2.1 hok.2.2.2.1.2 hk
theorem cntFs_nodes : ∀ (l : List Fm), (∀ k ∈ l, cntF k ≤ (fmW k).nodes) → cntFs l ≤ Sx.nodess (l.map fmW)
 | [], _ => by simp [cntFs]
 | k :: l, h => by
  have h1 := h k (by simp)
  have h2 := cntFs_nodes l fun x hx => h x (by simp [hx])
  simp only [cntFs, List.map_cons, Sx.nodess]; omega
theorem cntF_nodes : ∀ f, shapedF f = true → cntF f ≤ (fmW f).nodes := by
 refine Fm.ind ?_
 intro op name args params exprs kids ih hsh
 have h1 := (fmW_parts _ hsh).1
 have h2 := cntFs_nodes kids fun k hk => ih k hk ((shapedF_kid hsh).2 k hk)
 simp only [cntF]; omega
theorem valid_fit {f : Fm} (hv : validF f = true) (hok : f.ok) (hsm : f.small) (s : Bool) : (normalM f s).ok ∧ (normalM f s).small := by
 obtain ⟨h1, _, h3⟩ := validF_iff.1 hv
 exact normalM_fit f h1 hok hsm (by have := cntF_nodes f h1; omega) s
end Go.Proofs.Ytjlkapgpjamnkaa
namespace Go.Proofs.Ytjlkapgpjamnkaa
open Go.AM
set_option maxHeartbeats 4000000
set_option maxRecDepth 20000
theorem same_self {f : Fm} : f.same f = true := by
 have hb : ∀ l : List ByteArray, bsEq l l = true := bsEq_self
 have hp : ∀ l : List Pm, pmsEq l l = true := by
  intro l
  induction l with
  | nil => rfl
  | cons a l ih => simp [pmsEq, pmEq, bEq, ih]
 have hE : ∀ e : Ex, e.same e = true := by
  intro e
  induction e using Ex.ind with
  | hC op name n args kids ih =>
   have hl : ∀ l : List Ex, (∀ k ∈ l, k.same k = true) → Ex.sames l l = true := by
    intro l
    induction l with
    | nil => intro _; rfl
    | cons a l ih2 => intro h; simp only [Ex.sames, h a (by simp), ih2 fun k hk => h k (by simp [hk]), Bool.and_self]
   simp only [Ex.same, bEq, beq_self_eq_true, hb, hl kids ih, Bool.and_self]
 have hEs : ∀ l : List Ex, Ex.sames l l = true := by
  intro l
  induction l with
  | nil => rfl
  | cons a l ih => simp only [Ex.sames, hE, ih, Bool.and_self]
 induction f using Fm.ind with
 | hC op name args params exprs kids ih =>
  have hl : ∀ l : List Fm, (∀ k ∈ l, k.same k = true) → Fm.sames l l = true := by
   intro l
   induction l with
   | nil => intro _; rfl
   | cons a l ih2 => intro h; simp only [Fm.sames, h a (by simp), ih2 fun k hk => h k (by simp [hk]), Bool.and_self]
  simp only [Fm.same, bEq, beq_self_eq_true, hb, hp, hEs, hl kids ih, Bool.and_self]
end Go.Proofs.Ytjlkapgpjamnkaa
namespace Go.Proofs.Ytjlkapgpjamnkaa
open Go.AM
set_option maxHeartbeats 8000000
set_option maxRecDepth 20000
def pmR (v : Bool) (p : Pm) : Bool := (if v = true then varB p.name else nameB p.name) && typedB p.type
theorem pmR_ok : pmR true = pmOk := rfl
theorem a_genR {P : Program} {ow : Nat → Bool} {wf : FuncId → Bool} {n : Nat} {Q : Post} {s : Slots} {h : Heap} {c : Code} (I : Slots → Heap → Prop) (hi : I s h) (hh : ∀ s h, I s h → awp P ow wf n c Q s h) : awp P ow wf n c Q s h := hh _ _ hi
theorem rshapedPs_c {v : Bool} {l : List Pm} (hl : l.length ≤ bigN) (hp : ∀ p ∈ l, p.ok) (h : Heap) : PCall Try.prog 96 [.imm 2 (pmRows l), .sc (.bool v)] h fun r h' => r = .sc (.bool (l.all (pmR v))) ∧ h' = h := by
 unfold bigN at hl
 have hlen := pmRows_len l
 cases v with
 | true =>
  refine pcall_body (ow := fun _ => false) (wf := fun _ => false) Ty.mixed Try.func96 rfl Ty.hb_96 (by rw [Try.ntmps96]; simp) ?_
  rw [Try.ntmps96, Try.results96]
  repeat' (first | refine a_seq fun K hK => ?_ | (refine a_block ?_) | (refine a_regionS ?_; simp (maxSteps := 2000000) only [Ty.w, simprocAttr, hlen]) | (refine hK _ _ ?_; clear hK; try simp only [pst0, simprocAttr]))
  refine a_loop (fun m S h' => h' = h ∧ S 0 = .imm 2 (pmRows l) ∧ S 1 = .sc (.bool true) ∧ ∃ k : Nat, S 5 = .sc (.int .i64 k) ∧ k ≤ l.length ∧ m = l.length - k ∧ l.all (pmR true) = (l.drop k).all (pmR true)) l.length ?_ ?_
  ·simp only [Ty.w, simprocAttr]
   exact ⟨0, rfl, by omega, rfl, by simp⟩
  ·rintro m S h' ⟨rfl, g0, g1, k, g5, hk, rfl, hinv⟩
   by_cases hlt : k < l.length
   ·have hd : decide ((k : Int) < (l.length : Int)) = true := by simp; omega
    have w7 : IntKind.i64.wrap ((k : Int) + 1) = k + 1 := by rw [wrap64 (by omega) (by omega)]
    obtain ⟨p, hx⟩ : ∃ p, l[k]? = some p := ⟨l[k], List.getElem?_eq_getElem hlt⟩
    have hr := pmRows_get hx
    have hpo := hp p (List.mem_of_getElem? hx)
    have h1 : p.name.size ≤ 9223372036854775807 := by have := hpo.1; unfold bigN at this; omega
    have h2 : p.type.size ≤ 9223372036854775807 := by have := hpo.2; unfold bigN at this; omega
    have hc := fun h : Heap => rvariable_c (h := h) (s := p.name) h1
    have hc2 := fun h : Heap => rname_c (h := h) (s := p.type) h2
    rw [drop_of_get hx, List.all_cons] at hinv
    have hq : pmR true p = (varB p.name && (nameB p.type || (p.type.data.toList == (#[111, 98, 106, 101, 99, 116] : Array UInt8).toList))) := rfl
    rw [hq] at hinv
    clear hq
    generalize varB p.name = b at hc hinv
    generalize nameB p.type = b2 at hc2 hinv
    cases b with
    | false =>
     simp only [Bool.false_and] at hinv
     repeat' (first | refine a_seq fun K hK => ?_ | (refine a_regionS ?_; simp (maxSteps := 2000000) only [Ty.w, simprocAttr, g0, g1, g5, hd, hr, bne, Bool.not_true, Bool.not_false]) | (refine a_skip ?_; try simp only [pst0, simprocAttr]) | (refine a_cond _ (by (try simp (maxSteps := 2000000) only [Ty.w, simprocAttr, g0, g1, g5, hd, hr, bne, Bool.not_true, Bool.not_false]); rfl) (fun hb => ?_) (fun hb => ?_) <;> (try simp only [hb0, decide_eq_true_eq, decide_eq_false_iff_not, simprocAttr] at hb) <;> (try (exfalso; omega))) | (refine hK _ _ ?_; clear hK; try simp only [pst0, simprocAttr]))
     refine owp_useQ (hc _) (by (try simp only [Ty.w, simprocAttr, g0, g1, g5, hd, hr, bne, Bool.not_true, Bool.not_false]); try rfl) ?_; simp (maxSteps := 2000000) only [Ty.w, simprocAttr, g0, g1, g5, hd, hr, bne, Bool.not_true, Bool.not_false]
     repeat' (first | refine a_seq fun K hK => ?_ | ((first | refine a_regionS ?_ | refine a_ret ?_); simp (maxSteps := 2000000) only [Ty.w, simprocAttr, g0, g1, g5, hd, hr, bne, Bool.not_true, Bool.not_false]) | (refine hK _ _ ?_; clear hK; try simp only [pst0, simprocAttr]))
     rw [hinv]
    | true =>
     cases q : (p.type.data.toList == (#[111, 98, 106, 101, 99, 116] : Array UInt8).toList) with
     | true =>
      simp only [q, Bool.or_true, Bool.true_and] at hinv
      repeat' (first | refine a_seq fun K hK => ?_ | (refine a_regionS ?_; simp (maxSteps := 2000000) only [Ty.w, simprocAttr, g0, g1, g5, hd, hr, bne, Bool.not_true, Bool.not_false, q]) | (refine a_skip ?_; try simp only [pst0, simprocAttr]) | (refine a_cond _ (by (try simp (maxSteps := 2000000) only [Ty.w, simprocAttr, g0, g1, g5, hd, hr, bne, Bool.not_true, Bool.not_false, q]); rfl) (fun hb => ?_) (fun hb => ?_) <;> (try simp only [hb0, decide_eq_true_eq, decide_eq_false_iff_not, simprocAttr] at hb) <;> (try (exfalso; omega))) | (refine hK _ _ ?_; clear hK; try simp only [pst0, simprocAttr]))
      refine owp_useQ (hc _) (by (try simp only [Ty.w, simprocAttr, g0, g1, g5, hd, hr, bne, Bool.not_true, Bool.not_false, q]); try rfl) ?_; simp (maxSteps := 2000000) only [Ty.w, simprocAttr, g0, g1, g5, hd, hr, bne, Bool.not_true, Bool.not_false, q]
      repeat' (first | (refine a_block ?_) | (refine a_regionS ?_; simp (maxSteps := 2000000) only [Ty.w, simprocAttr, g0, g1, g5, hd, hr, bne, Bool.not_true, Bool.not_false, q, w7]) | (refine a_skip ?_; try simp only [pst0, simprocAttr]) | (refine hK _ _ ?_; clear hK; try simp only [pst0, simprocAttr]))
      exact ⟨l.length - (k + 1), by omega, k + 1, by simp, by omega, rfl, hinv⟩
     | false =>
      cases b2 with
      | false =>
       simp only [q, Bool.or_false, Bool.false_and, Bool.and_false] at hinv
       have W := And.intro g0 (And.intro g1 (And.intro g5 (And.intro hd (And.intro hr q))))
       repeat' (first | refine a_seq fun K hK => ?_ | (refine a_regionS ?_; simp (maxSteps := 2000000) only [Ty.w, simprocAttr, W, bne, Bool.not_true, Bool.not_false]) | (refine a_skip ?_; try simp only [pst0, simprocAttr]) | (refine a_cond _ (by (try simp (maxSteps := 2000000) only [Ty.w, simprocAttr, W, bne, Bool.not_true, Bool.not_false]); rfl) (fun hb => ?_) (fun hb => ?_) <;> (try simp only [hb0, decide_eq_true_eq, decide_eq_false_iff_not, simprocAttr] at hb) <;> (try (exfalso; omega))) | (refine hK _ _ ?_; clear hK; try simp only [pst0, simprocAttr]))
       refine owp_useQ (hc _) (by (try simp only [Ty.w, simprocAttr, W, bne, Bool.not_true, Bool.not_false]); try rfl) ?_; simp (maxSteps := 2000000) only [Ty.w, simprocAttr, W, bne, Bool.not_true, Bool.not_false]
       skip
       refine owp_useQ (hc2 _) (by (try simp only [Ty.w, simprocAttr, W, bne, Bool.not_true, Bool.not_false]); try rfl) ?_; simp (maxSteps := 2000000) only [Ty.w, simprocAttr, W, bne, Bool.not_true, Bool.not_false]
       repeat' (first | refine a_seq fun K hK => ?_ | ((first | refine a_regionS ?_ | refine a_ret ?_); simp (maxSteps := 2000000) only [Ty.w, simprocAttr, W, bne, Bool.not_true, Bool.not_false]) | (refine hK _ _ ?_; clear hK; try simp only [pst0, simprocAttr]))
       rw [hinv]
      | true =>
       simp only [q, Bool.or_false, Bool.true_and] at hinv
       have W := And.intro g0 (And.intro g1 (And.intro g5 (And.intro hd (And.intro hr q))))
       repeat' (first | refine a_seq fun K hK => ?_ | (refine a_regionS ?_; simp (maxSteps := 2000000) only [Ty.w, simprocAttr, W, bne, Bool.not_true, Bool.not_false]) | (refine a_skip ?_; try simp only [pst0, simprocAttr]) | (refine a_cond _ (by (try simp (maxSteps := 2000000) only [Ty.w, simprocAttr, W, bne, Bool.not_true, Bool.not_false]); rfl) (fun hb => ?_) (fun hb => ?_) <;> (try simp only [hb0, decide_eq_true_eq, decide_eq_false_iff_not, simprocAttr] at hb) <;> (try (exfalso; omega))) | (refine hK _ _ ?_; clear hK; try simp only [pst0, simprocAttr]))
       refine owp_useQ (hc _) (by (try simp only [Ty.w, simprocAttr, W, bne, Bool.not_true, Bool.not_false]); try rfl) ?_; simp (maxSteps := 2000000) only [Ty.w, simprocAttr, W, bne, Bool.not_true, Bool.not_false]
       skip
       refine owp_useQ (hc2 _) (by (try simp only [Ty.w, simprocAttr, W, bne, Bool.not_true, Bool.not_false]); try rfl) ?_; simp (maxSteps := 2000000) only [Ty.w, simprocAttr, W, bne, Bool.not_true, Bool.not_false]
       repeat' (first | (refine a_block ?_) | (refine a_regionS ?_; simp (maxSteps := 2000000) only [Ty.w, simprocAttr, W, bne, Bool.not_true, Bool.not_false, w7]) | (refine a_skip ?_; try simp only [pst0, simprocAttr]) | (refine hK _ _ ?_; clear hK; try simp only [pst0, simprocAttr]))
       exact ⟨l.length - (k + 1), by omega, k + 1, by simp, by omega, rfl, hinv⟩
   ·have hd : decide ((k : Int) < (l.length : Int)) = false := by simp; omega
    rw [List.drop_eq_nil_of_le (by omega)] at hinv
    repeat' (first | refine a_seq fun K hK => ?_ | ((first | refine a_regionS ?_ | refine a_ret ?_); simp (maxSteps := 2000000) only [Ty.w, simprocAttr, g0, g1, g5, hlen, hd]) | (refine a_exit ?_; try simp only [pst0, simprocAttr]) | (refine a_cond _ (by (try simp (maxSteps := 2000000) only [Ty.w, simprocAttr, g0, g1, g5, hlen, hd]); rfl) (fun hb => ?_) (fun hb => ?_) <;> (try simp only [hb0, decide_eq_true_eq, decide_eq_false_iff_not, simprocAttr] at hb) <;> (try (exfalso; omega))) | ((first | refine hK _ _ ?_ | (clear hK; refine hK _ _ ?_)); clear hK; try simp only [pst0, simprocAttr]))
    rw [hinv]; try rfl
 | false =>
  refine pcall_body (ow := fun _ => false) (wf := fun _ => false) Ty.mixed Try.func96 rfl Ty.hb_96 (by rw [Try.ntmps96]; simp) ?_
  rw [Try.ntmps96, Try.results96]
  repeat' (first | refine a_seq fun K hK => ?_ | (refine a_block ?_) | (refine a_regionS ?_; simp (maxSteps := 2000000) only [Ty.w, simprocAttr, hlen]) | (refine hK _ _ ?_; clear hK; try simp only [pst0, simprocAttr]))
  refine a_loop (fun m S h' => h' = h ∧ S 0 = .imm 2 (pmRows l) ∧ S 1 = .sc (.bool false) ∧ ∃ k : Nat, S 5 = .sc (.int .i64 k) ∧ k ≤ l.length ∧ m = l.length - k ∧ l.all (pmR false) = (l.drop k).all (pmR false)) l.length ?_ ?_
  ·simp only [Ty.w, simprocAttr]
   exact ⟨0, rfl, by omega, rfl, by simp⟩
  ·rintro m S h' ⟨rfl, g0, g1, k, g5, hk, rfl, hinv⟩
   by_cases hlt : k < l.length
   ·have hd : decide ((k : Int) < (l.length : Int)) = true := by simp; omega
    have w7 : IntKind.i64.wrap ((k : Int) + 1) = k + 1 := by rw [wrap64 (by omega) (by omega)]
    obtain ⟨p, hx⟩ : ∃ p, l[k]? = some p := ⟨l[k], List.getElem?_eq_getElem hlt⟩
    have hr := pmRows_get hx
    have hpo := hp p (List.mem_of_getElem? hx)
    have h1 : p.name.size ≤ 9223372036854775807 := by have := hpo.1; unfold bigN at this; omega
    have h2 : p.type.size ≤ 9223372036854775807 := by have := hpo.2; unfold bigN at this; omega
    have hc := fun h : Heap => rname_c (h := h) (s := p.name) h1
    have hc2 := fun h : Heap => rname_c (h := h) (s := p.type) h2
    rw [drop_of_get hx, List.all_cons] at hinv
    have hq : pmR false p = (nameB p.name && (nameB p.type || (p.type.data.toList == (#[111, 98, 106, 101, 99, 116] : Array UInt8).toList))) := rfl
    rw [hq] at hinv
    clear hq
    generalize nameB p.name = b at hc hinv
    generalize nameB p.type = b2 at hc2 hinv
    cases b with
    | false =>
     simp only [Bool.false_and] at hinv
     repeat' (first | refine a_seq fun K hK => ?_ | (refine a_regionS ?_; simp (maxSteps := 2000000) only [Ty.w, simprocAttr, g0, g1, g5, hd, hr, bne, Bool.not_true, Bool.not_false]) | (refine a_skip ?_; try simp only [pst0, simprocAttr]) | (refine a_cond _ (by (try simp (maxSteps := 2000000) only [Ty.w, simprocAttr, g0, g1, g5, hd, hr, bne, Bool.not_true, Bool.not_false]); rfl) (fun hb => ?_) (fun hb => ?_) <;> (try simp only [hb0, decide_eq_true_eq, decide_eq_false_iff_not, simprocAttr] at hb) <;> (try (exfalso; omega))) | (refine hK _ _ ?_; clear hK; try simp only [pst0, simprocAttr]))
     refine owp_useQ (hc _) (by (try simp only [Ty.w, simprocAttr, g0, g1, g5, hd, hr, bne, Bool.not_true, Bool.not_false]); try rfl) ?_; simp (maxSteps := 2000000) only [Ty.w, simprocAttr, g0, g1, g5, hd, hr, bne, Bool.not_true, Bool.not_false]
     repeat' (first | refine a_seq fun K hK => ?_ | ((first | refine a_regionS ?_ | refine a_ret ?_); simp (maxSteps := 2000000) only [Ty.w, simprocAttr, g0, g1, g5, hd, hr, bne, Bool.not_true, Bool.not_false]) | (refine hK _ _ ?_; clear hK; try simp only [pst0, simprocAttr]))
     rw [hinv]
    | true =>
     cases q : (p.type.data.toList == (#[111, 98, 106, 101, 99, 116] : Array UInt8).toList) with
     | true =>
      simp only [q, Bool.or_true, Bool.true_and] at hinv
      repeat' (first | refine a_seq fun K hK => ?_ | (refine a_regionS ?_; simp (maxSteps := 2000000) only [Ty.w, simprocAttr, g0, g1, g5, hd, hr, bne, Bool.not_true, Bool.not_false, q]) | (refine a_skip ?_; try simp only [pst0, simprocAttr]) | (refine a_cond _ (by (try simp (maxSteps := 2000000) only [Ty.w, simprocAttr, g0, g1, g5, hd, hr, bne, Bool.not_true, Bool.not_false, q]); rfl) (fun hb => ?_) (fun hb => ?_) <;> (try simp only [hb0, decide_eq_true_eq, decide_eq_false_iff_not, simprocAttr] at hb) <;> (try (exfalso; omega))) | (refine hK _ _ ?_; clear hK; try simp only [pst0, simprocAttr]))
      refine owp_useQ (hc _) (by (try simp only [Ty.w, simprocAttr, g0, g1, g5, hd, hr, bne, Bool.not_true, Bool.not_false, q]); try rfl) ?_; simp (maxSteps := 2000000) only [Ty.w, simprocAttr, g0, g1, g5, hd, hr, bne, Bool.not_true, Bool.not_false, q]
      repeat' (first | (refine a_block ?_) | (refine a_regionS ?_; simp (maxSteps := 2000000) only [Ty.w, simprocAttr, g0, g1, g5, hd, hr, bne, Bool.not_true, Bool.not_false, q, w7]) | (refine a_skip ?_; try simp only [pst0, simprocAttr]) | (refine hK _ _ ?_; clear hK; try simp only [pst0, simprocAttr]))
      exact ⟨l.length - (k + 1), by omega, k + 1, by simp, by omega, rfl, hinv⟩
     | false =>
      cases b2 with
      | false =>
       simp only [q, Bool.or_false, Bool.false_and, Bool.and_false] at hinv
       have W := And.intro g0 (And.intro g1 (And.intro g5 (And.intro hd (And.intro hr q))))
       repeat' (first | refine a_seq fun K hK => ?_ | (refine a_regionS ?_; simp (maxSteps := 2000000) only [Ty.w, simprocAttr, W, bne, Bool.not_true, Bool.not_false]) | (refine a_skip ?_; try simp only [pst0, simprocAttr]) | (refine a_cond _ (by (try simp (maxSteps := 2000000) only [Ty.w, simprocAttr, W, bne, Bool.not_true, Bool.not_false]); rfl) (fun hb => ?_) (fun hb => ?_) <;> (try simp only [hb0, decide_eq_true_eq, decide_eq_false_iff_not, simprocAttr] at hb) <;> (try (exfalso; omega))) | (refine hK _ _ ?_; clear hK; try simp only [pst0, simprocAttr]))
       refine owp_useQ (hc _) (by (try simp only [Ty.w, simprocAttr, W, bne, Bool.not_true, Bool.not_false]); try rfl) ?_; simp (maxSteps := 2000000) only [Ty.w, simprocAttr, W, bne, Bool.not_true, Bool.not_false]
       skip
       refine owp_useQ (hc2 _) (by (try simp only [Ty.w, simprocAttr, W, bne, Bool.not_true, Bool.not_false]); try rfl) ?_; simp (maxSteps := 2000000) only [Ty.w, simprocAttr, W, bne, Bool.not_true, Bool.not_false]
       repeat' (first | refine a_seq fun K hK => ?_ | ((first | refine a_regionS ?_ | refine a_ret ?_); simp (maxSteps := 2000000) only [Ty.w, simprocAttr, W, bne, Bool.not_true, Bool.not_false]) | (refine hK _ _ ?_; clear hK; try simp only [pst0, simprocAttr]))
       rw [hinv]
      | true =>
       simp only [q, Bool.or_false, Bool.true_and] at hinv
       have W := And.intro g0 (And.intro g1 (And.intro g5 (And.intro hd (And.intro hr q))))
       repeat' (first | refine a_seq fun K hK => ?_ | (refine a_regionS ?_; simp (maxSteps := 2000000) only [Ty.w, simprocAttr, W, bne, Bool.not_true, Bool.not_false]) | (refine a_skip ?_; try simp only [pst0, simprocAttr]) | (refine a_cond _ (by (try simp (maxSteps := 2000000) only [Ty.w, simprocAttr, W, bne, Bool.not_true, Bool.not_false]); rfl) (fun hb => ?_) (fun hb => ?_) <;> (try simp only [hb0, decide_eq_true_eq, decide_eq_false_iff_not, simprocAttr] at hb) <;> (try (exfalso; omega))) | (refine hK _ _ ?_; clear hK; try simp only [pst0, simprocAttr]))
       refine owp_useQ (hc _) (by (try simp only [Ty.w, simprocAttr, W, bne, Bool.not_true, Bool.not_false]); try rfl) ?_; simp (maxSteps := 2000000) only [Ty.w, simprocAttr, W, bne, Bool.not_true, Bool.not_false]
       skip
       refine owp_useQ (hc2 _) (by (try simp only [Ty.w, simprocAttr, W, bne, Bool.not_true, Bool.not_false]); try rfl) ?_; simp (maxSteps := 2000000) only [Ty.w, simprocAttr, W, bne, Bool.not_true, Bool.not_false]
       repeat' (first | (refine a_block ?_) | (refine a_regionS ?_; simp (maxSteps := 2000000) only [Ty.w, simprocAttr, W, bne, Bool.not_true, Bool.not_false, w7]) | (refine a_skip ?_; try simp only [pst0, simprocAttr]) | (refine hK _ _ ?_; clear hK; try simp only [pst0, simprocAttr]))
       exact ⟨l.length - (k + 1), by omega, k + 1, by simp, by omega, rfl, hinv⟩
   ·have hd : decide ((k : Int) < (l.length : Int)) = false := by simp; omega
    rw [List.drop_eq_nil_of_le (by omega)] at hinv
    repeat' (first | refine a_seq fun K hK => ?_ | ((first | refine a_regionS ?_ | refine a_ret ?_); simp (maxSteps := 2000000) only [Ty.w, simprocAttr, g0, g1, g5, hlen, hd]) | (refine a_exit ?_; try simp only [pst0, simprocAttr]) | (refine a_cond _ (by (try simp (maxSteps := 2000000) only [Ty.w, simprocAttr, g0, g1, g5, hlen, hd]); rfl) (fun hb => ?_) (fun hb => ?_) <;> (try simp only [hb0, decide_eq_true_eq, decide_eq_false_iff_not, simprocAttr] at hb) <;> (try (exfalso; omega))) | ((first | refine hK _ _ ?_ | (clear hK; refine hK _ _ ?_)); clear hK; try simp only [pst0, simprocAttr]))
    rw [hinv]; try rfl
theorem rshapedF_c : ∀ f : Fm, f.ok → ∀ h : Heap, PCall Try.prog 57 [.agg f.cells] h fun r h' => r = .sc (.bool (shapedF f)) ∧ h' = h := by
 refine Fm.ind ?_
 intro op name args params exprs kids ih hok h
 simp only [Fm.ok] at hok
 obtain ⟨_, hnm, ⟨hal, hargs⟩, ⟨hpl, hps⟩, ⟨hel, hes⟩, hkl, hks⟩ := hok
 rw [Ex.oks_iff] at hes
 rw [Fm.oks_iff] at hks
 have hnm' : name.size ≤ 9223372036854775807 := by unfold bigN at hnm; omega
 have hP := fun h : Heap => rshapedPs_c (v := true) hpl hps h
 rw [pmR_ok] at hP
 have hA := fun h : Heap => rall_c (h := h) hal hargs
 have hN := fun h : Heap => rname_c (h := h) (s := name) hnm'
 unfold bigN at hal hpl hel hkl
 have hlA := strRows_len args
 have hlP := pmRows_len params
 have hlE := Ex.rows_len exprs
 have hlK := Fm.rows_len kids
 have hbK : ∀ k ∈ kids, shapedF k = false → shapedF (.mk op name args params exprs kids) = false := fun k hk hf => by
  cases hh : shapedF (.mk op name args params exprs kids) with
  | false => rfl
  | true => rw [(shapedF_kid hh).2 k hk] at hf; simp at hf
 have hbE : ∀ e ∈ exprs, shapedE e = false → shapedF (.mk op name args params exprs kids) = false := fun k hk hf => by
  cases hh : shapedF (.mk op name args params exprs kids) with
  | false => rfl
  | true => rw [(shapedF_kid hh).1 k hk] at hf; simp at hf
 have hop : (∀ e ∈ exprs, shapedE e = true) → (∀ k ∈ kids, shapedF k = true) → shapedF (.mk op name args params exprs kids) = opF op name args params exprs.length kids.length := shapedF_op
 generalize shapedF (.mk op name args params exprs kids) = F at hbK hbE hop
 simp only [Fm.cells]
 refine pcall_body (ow := fun _ => false) (wf := fun _ => false) Ty.mixed Try.func57 rfl Ty.hb_57 (by rw [Try.ntmps57]; simp) ?_
 rw [Try.ntmps57, Try.results57]
 repeat' (first | refine a_seq fun K hK => ?_ | (refine a_block ?_) | (refine a_regionS ?_; simp (maxSteps := 2000000) only [Ty.w, simprocAttr, hlK]) | (refine hK _ _ ?_; clear hK; try simp only [pst0, simprocAttr]))
 refine a_loop (fun m S h' => h' = h ∧ S 1 = .cptr (Fm.mk op name args params exprs kids).cells ∧ ∃ k : Nat, S 3 = .sc (.int .i64 k) ∧ k ≤ kids.length ∧ m = kids.length - k ∧ ∀ (i : Nat) (e : Fm), i < k → kids[i]? = some e → shapedF e = true) kids.length ?_ ?_
 ·simp only [Ty.w, simprocAttr]
  exact ⟨rfl, 0, rfl, by omega, rfl, by omega⟩
 ·rintro m S h' ⟨rfl, g1, k, g3, hkk, rfl, hall⟩
  simp only [Fm.cells] at g1
  by_cases hlt : k < kids.length
  ·clear hop hbE
   have hd : decide ((k : Int) < (kids.length : Int)) = true := by simp; omega
   have w7 : IntKind.i64.wrap ((k : Int) + 1) = k + 1 := by rw [wrap64 (by omega) (by omega)]
   obtain ⟨e, hx⟩ : ∃ e, kids[k]? = some e := ⟨_, List.getElem?_eq_getElem hlt⟩
   have hmem := List.mem_of_getElem? hx
   have hc := ih e hmem (hks e hmem)
   have hr := Fm.rows_get hx
   have hbad := hbK e hmem
   have hgood : shapedF e = true → ∀ (i : Nat) (e : Fm), i < k + 1 → kids[i]? = some e → shapedF e = true := fun h1 i e2 hi hw => by
    by_cases hik : i = k
    ·subst hik; rw [hx] at hw; simp at hw; rw [← hw]; exact h1
    ·exact hall i e2 (by omega) hw
   generalize shapedF e = b at hc hbad hgood
   clear hbK hall
   obtain ⟨o2, n2, a2, p2, e2, k2⟩ := e
   simp only [Fm.cells] at hr hc
   cases b with
   | false =>
    have := hbad rfl
    subst this
    repeat' (first | refine a_seq fun K hK => ?_ | (refine a_regionS ?_; simp (maxSteps := 2000000) only [Ty.w, simprocAttr, g1, g3, hlK, hd, hr, w7]) | (refine a_skip ?_; try simp only [pst0, simprocAttr]) | (refine a_cond _ (by (try simp (maxSteps := 2000000) only [Ty.w, simprocAttr, g1, g3, hlK, hd, hr, w7]); rfl) (fun hb => ?_) (fun hb => ?_) <;> (try simp only [hb0, decide_eq_true_eq, decide_eq_false_iff_not, simprocAttr] at hb) <;> (try (exfalso; omega))) | (refine hK _ _ ?_; clear hK; try simp only [pst0, simprocAttr]))
    refine owp_useQ (hc _) (by (try simp only [Ty.w, simprocAttr, g1, g3, hlK, hd, hr, Bool.not_false]); try rfl) ?_; simp (maxSteps := 2000000) only [Ty.w, simprocAttr, g1, g3, hlK, hd, hr, Bool.not_false]
    repeat' (first | refine a_seq fun K hK => ?_ | ((first | refine a_regionS ?_ | refine a_ret ?_); simp (maxSteps := 2000000) only [Ty.w, simprocAttr, g1, g3, w7, Bool.not_false]) | (refine hK _ _ ?_; clear hK; try simp only [pst0, simprocAttr]))
   | true =>
    repeat' (first | refine a_seq fun K hK => ?_ | (refine a_regionS ?_; simp (maxSteps := 2000000) only [Ty.w, simprocAttr, g1, g3, hlK, hd, hr, w7]) | (refine a_skip ?_; try simp only [pst0, simprocAttr]) | (refine a_cond _ (by (try simp (maxSteps := 2000000) only [Ty.w, simprocAttr, g1, g3, hlK, hd, hr, w7]); rfl) (fun hb => ?_) (fun hb => ?_) <;> (try simp only [hb0, decide_eq_true_eq, decide_eq_false_iff_not, simprocAttr] at hb) <;> (try (exfalso; omega))) | (refine hK _ _ ?_; clear hK; try simp only [pst0, simprocAttr]))
    refine owp_useQ (hc _) (by (try simp only [Ty.w, simprocAttr, g1, g3, hlK, hd, hr, Bool.not_true]); try rfl) ?_; simp (maxSteps := 2000000) only [Ty.w, simprocAttr, g1, g3, hlK, hd, hr, Bool.not_true]
    repeat' (first | (refine a_block ?_) | (refine a_regionS ?_; simp (maxSteps := 2000000) only [Ty.w, simprocAttr, g1, g3, w7, Bool.not_true]) | (refine a_skip ?_; try simp only [pst0, simprocAttr]) | (refine hK _ _ ?_; clear hK; try simp only [pst0, simprocAttr]))
    exact ⟨kids.length - (k + 1), by omega, rfl, k + 1, by simp, by omega, rfl, hgood rfl⟩
  ·have hd : decide ((k : Int) < (kids.length : Int)) = false := by simp; omega
   have hop2 := fun hE => hop hE fun e he => by
    obtain ⟨i, hi⟩ := List.getElem?_of_mem he
    exact hall i e (by have := (List.getElem?_eq_some_iff.1 hi).1; omega) hi
   clear hop hall hbK ih
   repeat' (first | refine a_seq fun K hK => ?_ | (refine a_block ?_) | (refine a_regionS ?_; simp (maxSteps := 2000000) only [Ty.w, simprocAttr, g1, g3, hlK, hd]) | (refine a_exit ?_; try simp only [pst0, simprocAttr]) | (refine a_cond _ (by (try simp (maxSteps := 2000000) only [Ty.w, simprocAttr, g1, g3, hlK, hd]); rfl) (fun hb => ?_) (fun hb => ?_) <;> (try simp only [hb0, decide_eq_true_eq, decide_eq_false_iff_not, simprocAttr] at hb) <;> (try (exfalso; omega))) | ((first | refine hK _ _ ?_ | (clear hK; refine hK _ _ ?_)); clear hK; try simp only [pst0, simprocAttr]))
   clear g3 hd
   refine a_loop (fun m S h2 => h2 = h' ∧ S 1 = .cptr (Fm.mk op name args params exprs kids).cells ∧ ∃ k : Nat, S 4 = .sc (.int .i64 k) ∧ k ≤ exprs.length ∧ m = exprs.length - k ∧ ∀ (i : Nat) (e : Ex), i < k → exprs[i]? = some e → shapedE e = true) exprs.length ?_ ?_
   ·simp only [Ty.w, simprocAttr, g1]
    exact ⟨rfl, 0, rfl, by omega, rfl, by omega⟩
   ·clear g1 S
    rintro m S h2 ⟨rfl, g1, k, g3, hkk, rfl, hall⟩
    simp only [Fm.cells] at g1
    by_cases hlt : k < exprs.length
    ·clear hop2
     have hd : decide ((k : Int) < (exprs.length : Int)) = true := by simp; omega
     have w7 : IntKind.i64.wrap ((k : Int) + 1) = k + 1 := by rw [wrap64 (by omega) (by omega)]
     obtain ⟨e, hx⟩ : ∃ e, exprs[k]? = some e := ⟨_, List.getElem?_eq_getElem hlt⟩
     have hmem := List.mem_of_getElem? hx
     have hc := rshapedE_c e (hes e hmem)
     have hr := Ex.rows_get hx
     have hbad := hbE e hmem
     have hgood : shapedE e = true → ∀ (i : Nat) (e : Ex), i < k + 1 → exprs[i]? = some e → shapedE e = true := fun h1 i e2 hi hw => by
      by_cases hik : i = k
      ·subst hik; rw [hx] at hw; simp at hw; rw [← hw]; exact h1
      ·exact hall i e2 (by omega) hw
     generalize shapedE e = b at hc hbad hgood
     clear hbE hall
     obtain ⟨o2, n2, v2, a2, k2⟩ := e
     simp only [Ex.cells] at hr hc
     cases b with
     | false =>
      have := hbad rfl
      subst this
      repeat' (first | refine a_seq fun K hK => ?_ | (refine a_regionS ?_; simp (maxSteps := 2000000) only [Ty.w, simprocAttr, g1, g3, hlE, hd, hr, w7]) | (refine a_skip ?_; try simp only [pst0, simprocAttr]) | (refine a_cond _ (by (try simp (maxSteps := 2000000) only [Ty.w, simprocAttr, g1, g3, hlE, hd, hr, w7]); rfl) (fun hb => ?_) (fun hb => ?_) <;> (try simp only [hb0, decide_eq_true_eq, decide_eq_false_iff_not, simprocAttr] at hb) <;> (try (exfalso; omega))) | (refine hK _ _ ?_; clear hK; try simp only [pst0, simprocAttr]))
      refine owp_useQ (hc _) (by (try simp only [Ty.w, simprocAttr, g1, g3, hlE, hd, hr, Bool.not_false]); try rfl) ?_; simp (maxSteps := 2000000) only [Ty.w, simprocAttr, g1, g3, hlE, hd, hr, Bool.not_false]
      repeat' (first | refine a_seq fun K hK => ?_ | ((first | refine a_regionS ?_ | refine a_ret ?_); simp (maxSteps := 2000000) only [Ty.w, simprocAttr, g1, g3, w7, Bool.not_false]) | (refine hK _ _ ?_; clear hK; try simp only [pst0, simprocAttr]))
     | true =>
      repeat' (first | refine a_seq fun K hK => ?_ | (refine a_regionS ?_; simp (maxSteps := 2000000) only [Ty.w, simprocAttr, g1, g3, hlE, hd, hr, w7]) | (refine a_skip ?_; try simp only [pst0, simprocAttr]) | (refine a_cond _ (by (try simp (maxSteps := 2000000) only [Ty.w, simprocAttr, g1, g3, hlE, hd, hr, w7]); rfl) (fun hb => ?_) (fun hb => ?_) <;> (try simp only [hb0, decide_eq_true_eq, decide_eq_false_iff_not, simprocAttr] at hb) <;> (try (exfalso; omega))) | (refine hK _ _ ?_; clear hK; try simp only [pst0, simprocAttr]))
      refine owp_useQ (hc _) (by (try simp only [Ty.w, simprocAttr, g1, g3, hlE, hd, hr, Bool.not_true]); try rfl) ?_; simp (maxSteps := 2000000) only [Ty.w, simprocAttr, g1, g3, hlE, hd, hr, Bool.not_true]
      repeat' (first | (refine a_block ?_) | (refine a_regionS ?_; simp (maxSteps := 2000000) only [Ty.w, simprocAttr, g1, g3, w7, Bool.not_true]) | (refine a_skip ?_; try simp only [pst0, simprocAttr]) | (refine hK _ _ ?_; clear hK; try simp only [pst0, simprocAttr]))
      exact ⟨exprs.length - (k + 1), by omega, rfl, k + 1, by simp, by omega, rfl, hgood rfl⟩
    ·have hd : decide ((k : Int) < (exprs.length : Int)) = false := by simp; omega
     have hF := hop2 fun e he => by
      obtain ⟨i, hi⟩ := List.getElem?_of_mem he
      exact hall i e (by have := (List.getElem?_eq_some_iff.1 hi).1; omega) hi
     clear hop2 hall hbE
     have wa : IntKind.i64.wrap ((params.length : Int) + exprs.length) = (params.length : Int) + exprs.length := by rw [wrap64 (by omega) (by omega)]
     have wb : IntKind.i64.wrap (((params.length : Int) + exprs.length) + kids.length) = ((params.length : Int) + exprs.length) + kids.length := by rw [wrap64 (by omega) (by omega)]
     have wc : IntKind.i64.wrap ((args.length : Int) + params.length) = (args.length : Int) + params.length := by rw [wrap64 (by omega) (by omega)]
     have wd : IntKind.i64.wrap (((args.length : Int) + params.length) + kids.length) = ((args.length : Int) + params.length) + kids.length := by rw [wrap64 (by omega) (by omega)]
     have we : IntKind.i64.wrap (((args.length : Int) + params.length) + exprs.length) = ((args.length : Int) + params.length) + exprs.length := by rw [wrap64 (by omega) (by omega)]
     have wf : IntKind.i64.wrap ((args.length : Int) + exprs.length) = (args.length : Int) + exprs.length := by rw [wrap64 (by omega) (by omega)]
     unfold opF at hF
     simp only [opAtom, opSame, opLt, opLe, opEq, opAnd, opOr, opNot, opImp, opAll, opSome, bEq] at hF
     repeat' (first | (with_reducible refine a_hold 12 ?_) | (first | refine a_seq fun K hK => ?_ | ((first | refine a_regionS ?_ | refine a_drawS (by decide +kernel) ?_); simp (maxSteps := 2000000) only [Ty.w, simprocAttr, g1, g3, hd, hlA, hlP, hlE, hlK, bne]) | (refine a_exit ?_; try simp only [pst0, simprocAttr]) | (refine a_cond _ (by (try simp (maxSteps := 2000000) only [Ty.w, simprocAttr, g1, g3, hd, hlA, hlP, hlE, hlK, bne]); rfl) (fun hb => ?_) (fun hb => ?_) <;> (try simp only [hb0, decide_eq_true_eq, decide_eq_false_iff_not, simprocAttr] at hb) <;> (try (exfalso; omega))) | ((first | refine hK _ _ ?_ | (clear hK; refine hK _ _ ?_)); clear hK; try simp only [pst0, simprocAttr])))
     refine ⟨?_⟩
     refine a_genR (fun S h3 => S 1 = .cptr (Fm.mk op name args params exprs kids).cells ∧ S 5 = .sc (.bool (!(name.data.toList == (#[] : Array UInt8).toList))) ∧ S 6 = .sc (.int .i64 args.length) ∧ S 7 = .sc (.int .i64 params.length) ∧ S 8 = .sc (.int .i64 exprs.length) ∧ S 9 = .sc (.int .i64 kids.length) ∧ h3 = h2) ?_ ?_
     ·simp only [Ty.w, simprocAttr, g1, Fm.cells]
      try trivial
     clear g1 g3 hd S hlA hlP hlE hlK
     rintro S h2 ⟨g1, g5, g6, g7, g8, g9, rfl⟩
     simp only [Fm.cells] at g1
     cases k1 : (op.data.toList == (#[97, 116, 111, 109] : Array UInt8).toList) with
     | true =>
      simp only [k1, Bool.true_or, Bool.or_true, Bool.false_or, if_true, Bool.false_eq_true, if_false] at hF
      generalize nameB name = bN at hN hF
      cases bN with
      | false =>
       try simp only [Bool.false_and, Bool.and_false] at hF
       subst hF
       repeat' (first | refine a_seq fun K hK => ?_ | (refine a_regionS ?_; simp (maxSteps := 2000000) only [Ty.w, simprocAttr, g1, g5, g6, g7, g8, g9, Bool.not_true, Bool.not_false, wa, wb, wc, wd, we, wf, k1]) | (refine hK _ _ ?_; clear hK; try simp only [pst0, simprocAttr]))
       refine owp_useQ (hN _) (by (try simp only [Ty.w, simprocAttr, g1, g5, g6, g7, g8, g9, Bool.not_true, Bool.not_false, wa, wb, wc, wd, we, wf, k1]); try rfl) ?_; simp (maxSteps := 2000000) only [Ty.w, simprocAttr, g1, g5, g6, g7, g8, g9, Bool.not_true, Bool.not_false, wa, wb, wc, wd, we, wf, k1]
       repeat' (first | (refine a_ret ?_; simp (maxSteps := 2000000) only [Ty.w, simprocAttr, g1, g5, g6, g7, g8, g9, Bool.not_true, Bool.not_false, wa, wb, wc, wd, we, wf, k1]) | (refine hK _ _ ?_; clear hK; try simp only [pst0, simprocAttr]))
       all_goals rfl
      | true =>
       try simp only [Bool.true_and, Bool.and_true] at hF
       generalize args.all termB = bA at hA hF
       cases bA with
       | false =>
        try simp only [Bool.false_and, Bool.and_false] at hF
        subst hF
        have W := And.intro g1 (And.intro g5 (And.intro g6 (And.intro g7 (And.intro g8 (And.intro g9 (And.intro wa (And.intro wb (And.intro wc (And.intro wd (And.intro we (And.intro wf k1)))))))))))
        repeat' (first | refine a_seq fun K hK => ?_ | (refine a_regionS ?_; simp (maxSteps := 2000000) only [Ty.w, simprocAttr, W, Bool.not_true, Bool.not_false]) | (refine hK _ _ ?_; clear hK; try simp only [pst0, simprocAttr]))
        refine owp_useQ (hN _) (by (try simp only [Ty.w, simprocAttr, W, Bool.not_true, Bool.not_false]); try rfl) ?_; simp (maxSteps := 2000000) only [Ty.w, simprocAttr, W, Bool.not_true, Bool.not_false]
        skip
        refine owp_useQ (hA _) (by (try simp only [Ty.w, simprocAttr, W, Bool.not_true, Bool.not_false]); try rfl) ?_; simp (maxSteps := 2000000) only [Ty.w, simprocAttr, W, Bool.not_true, Bool.not_false]
        repeat' (first | (refine a_ret ?_; simp (maxSteps := 2000000) only [Ty.w, simprocAttr, W, Bool.not_true, Bool.not_false]) | (refine hK _ _ ?_; clear hK; try simp only [pst0, simprocAttr]))
        all_goals rfl
       | true =>
        try simp only [Bool.true_and, Bool.and_true] at hF
        cases q2 : ((((params.length : Int) + exprs.length) + kids.length) == 0) with
        | false =>
         simp only [q2, Bool.false_and, Bool.and_false] at hF
         subst hF
         have W := And.intro g1 (And.intro g5 (And.intro g6 (And.intro g7 (And.intro g8 (And.intro g9 (And.intro wa (And.intro wb (And.intro wc (And.intro wd (And.intro we (And.intro wf (And.intro k1 q2))))))))))))
         repeat' (first | refine a_seq fun K hK => ?_ | (refine a_regionS ?_; simp (maxSteps := 2000000) only [Ty.w, simprocAttr, W, Bool.not_true, Bool.not_false]) | (refine hK _ _ ?_; clear hK; try simp only [pst0, simprocAttr]))
         refine owp_useQ (hN _) (by (try simp only [Ty.w, simprocAttr, W, Bool.not_true, Bool.not_false]); try rfl) ?_; simp (maxSteps := 2000000) only [Ty.w, simprocAttr, W, Bool.not_true, Bool.not_false]
         skip
         refine owp_useQ (hA _) (by (try simp only [Ty.w, simprocAttr, W, Bool.not_true, Bool.not_false]); try rfl) ?_; simp (maxSteps := 2000000) only [Ty.w, simprocAttr, W, Bool.not_true, Bool.not_false]
         repeat' (first | (refine a_ret ?_; simp (maxSteps := 2000000) only [Ty.w, simprocAttr, W, Bool.not_true, Bool.not_false]) | (refine hK _ _ ?_; clear hK; try simp only [pst0, simprocAttr]))
         all_goals rfl
        | true =>
         simp only [q2, Bool.true_and, Bool.and_true] at hF
         subst hF
         have W := And.intro g1 (And.intro g5 (And.intro g6 (And.intro g7 (And.intro g8 (And.intro g9 (And.intro wa (And.intro wb (And.intro wc (And.intro wd (And.intro we (And.intro wf (And.intro k1 q2))))))))))))
         repeat' (first | refine a_seq fun K hK => ?_ | (refine a_regionS ?_; simp (maxSteps := 2000000) only [Ty.w, simprocAttr, W, Bool.not_true, Bool.not_false]) | (refine hK _ _ ?_; clear hK; try simp only [pst0, simprocAttr]))
         refine owp_useQ (hN _) (by (try simp only [Ty.w, simprocAttr, W, Bool.not_true, Bool.not_false]); try rfl) ?_; simp (maxSteps := 2000000) only [Ty.w, simprocAttr, W, Bool.not_true, Bool.not_false]
         skip
         refine owp_useQ (hA _) (by (try simp only [Ty.w, simprocAttr, W, Bool.not_true, Bool.not_false]); try rfl) ?_; simp (maxSteps := 2000000) only [Ty.w, simprocAttr, W, Bool.not_true, Bool.not_false]
         repeat' (first | (refine a_ret ?_; simp (maxSteps := 2000000) only [Ty.w, simprocAttr, W, Bool.not_true, Bool.not_false]) | (refine hK _ _ ?_; clear hK; try simp only [pst0, simprocAttr]))
         all_goals rfl
     | false =>
      simp only [k1, Bool.true_or, Bool.or_true, Bool.false_or, if_true, Bool.false_eq_true, if_false] at hF
      cases k2 : (op.data.toList == (#[115, 97, 109, 101] : Array UInt8).toList) with
      | true =>
       simp only [k2, Bool.true_or, Bool.or_true, Bool.false_or, if_true, Bool.false_eq_true, if_false] at hF
       cases q0 : (name.data.toList == (#[] : Array UInt8).toList) with
       | false =>
        simp only [q0, Bool.false_and, Bool.and_false] at hF
        subst hF
        repeat' (first | refine a_seq fun K hK => ?_ | ((first | refine a_regionS ?_ | refine a_ret ?_); simp (maxSteps := 2000000) only [Ty.w, simprocAttr, g1, g5, g6, g7, g8, g9, Bool.not_true, Bool.not_false, wa, wb, wc, wd, we, wf, k1, k2, q0]) | (refine hK _ _ ?_; clear hK; try simp only [pst0, simprocAttr]))
        all_goals rfl
       | true =>
        simp only [q0, Bool.true_and, Bool.and_true] at hF
        cases q1 : ((args.length : Int) == 2) with
        | false =>
         simp only [q1, Bool.false_and, Bool.and_false] at hF
         subst hF
         repeat' (first | refine a_seq fun K hK => ?_ | ((first | refine a_regionS ?_ | refine a_ret ?_); simp (maxSteps := 2000000) only [Ty.w, simprocAttr, g1, g5, g6, g7, g8, g9, Bool.not_true, Bool.not_false, wa, wb, wc, wd, we, wf, k1, k2, q0, q1]) | (refine hK _ _ ?_; clear hK; try simp only [pst0, simprocAttr]))
         all_goals rfl
        | true =>
         simp only [q1, Bool.true_and, Bool.and_true] at hF
         generalize args.all termB = bA at hA hF
         cases bA with
         | false =>
          try simp only [Bool.false_and, Bool.and_false] at hF
          subst hF
          repeat' (first | refine a_seq fun K hK => ?_ | (refine a_regionS ?_; simp (maxSteps := 2000000) only [Ty.w, simprocAttr, g1, g5, g6, g7, g8, g9, Bool.not_true, Bool.not_false, wa, wb, wc, wd, we, wf, k1, k2, q0, q1]) | (refine hK _ _ ?_; clear hK; try simp only [pst0, simprocAttr]))
          refine owp_useQ (hA _) (by (try simp only [Ty.w, simprocAttr, g1, g5, g6, g7, g8, g9, Bool.not_true, Bool.not_false, wa, wb, wc, wd, we, wf, k1, k2, q0, q1]); try rfl) ?_; simp (maxSteps := 2000000) only [Ty.w, simprocAttr, g1, g5, g6, g7, g8, g9, Bool.not_true, Bool.not_false, wa, wb, wc, wd, we, wf, k1, k2, q0, q1]
          repeat' (first | (refine a_ret ?_; simp (maxSteps := 2000000) only [Ty.w, simprocAttr, g1, g5, g6, g7, g8, g9, Bool.not_true, Bool.not_false, wa, wb, wc, wd, we, wf, k1, k2, q0, q1]) | (refine hK _ _ ?_; clear hK; try simp only [pst0, simprocAttr]))
          all_goals rfl
         | true =>
          try simp only [Bool.true_and, Bool.and_true] at hF
          cases q3 : ((((params.length : Int) + exprs.length) + kids.length) == 0) with
          | false =>
           simp only [q3, Bool.false_and, Bool.and_false] at hF
           subst hF
           repeat' (first | refine a_seq fun K hK => ?_ | (refine a_regionS ?_; simp (maxSteps := 2000000) only [Ty.w, simprocAttr, g1, g5, g6, g7, g8, g9, Bool.not_true, Bool.not_false, wa, wb, wc, wd, we, wf, k1, k2, q0, q1, q3]) | (refine hK _ _ ?_; clear hK; try simp only [pst0, simprocAttr]))
           refine owp_useQ (hA _) (by (try simp only [Ty.w, simprocAttr, g1, g5, g6, g7, g8, g9, Bool.not_true, Bool.not_false, wa, wb, wc, wd, we, wf, k1, k2, q0, q1, q3]); try rfl) ?_; simp (maxSteps := 2000000) only [Ty.w, simprocAttr, g1, g5, g6, g7, g8, g9, Bool.not_true, Bool.not_false, wa, wb, wc, wd, we, wf, k1, k2, q0, q1, q3]
           repeat' (first | (refine a_ret ?_; simp (maxSteps := 2000000) only [Ty.w, simprocAttr, g1, g5, g6, g7, g8, g9, Bool.not_true, Bool.not_false, wa, wb, wc, wd, we, wf, k1, k2, q0, q1, q3]) | (refine hK _ _ ?_; clear hK; try simp only [pst0, simprocAttr]))
           all_goals rfl
          | true =>
           simp only [q3, Bool.true_and, Bool.and_true] at hF
           subst hF
           repeat' (first | refine a_seq fun K hK => ?_ | (refine a_regionS ?_; simp (maxSteps := 2000000) only [Ty.w, simprocAttr, g1, g5, g6, g7, g8, g9, Bool.not_true, Bool.not_false, wa, wb, wc, wd, we, wf, k1, k2, q0, q1, q3]) | (refine hK _ _ ?_; clear hK; try simp only [pst0, simprocAttr]))
           refine owp_useQ (hA _) (by (try simp only [Ty.w, simprocAttr, g1, g5, g6, g7, g8, g9, Bool.not_true, Bool.not_false, wa, wb, wc, wd, we, wf, k1, k2, q0, q1, q3]); try rfl) ?_; simp (maxSteps := 2000000) only [Ty.w, simprocAttr, g1, g5, g6, g7, g8, g9, Bool.not_true, Bool.not_false, wa, wb, wc, wd, we, wf, k1, k2, q0, q1, q3]
           repeat' (first | (refine a_ret ?_; simp (maxSteps := 2000000) only [Ty.w, simprocAttr, g1, g5, g6, g7, g8, g9, Bool.not_true, Bool.not_false, wa, wb, wc, wd, we, wf, k1, k2, q0, q1, q3]) | (refine hK _ _ ?_; clear hK; try simp only [pst0, simprocAttr]))
           all_goals rfl
      | false =>
       simp only [k2, Bool.true_or, Bool.or_true, Bool.false_or, if_true, Bool.false_eq_true, if_false] at hF
       cases k3 : (op.data.toList == (#[60] : Array UInt8).toList) with
       | true =>
        simp only [k3, Bool.true_or, Bool.or_true, Bool.false_or, if_true, Bool.false_eq_true, if_false] at hF
        cases q0 : (name.data.toList == (#[] : Array UInt8).toList) with
        | false =>
         simp only [q0, Bool.false_and, Bool.and_false] at hF
         subst hF
         repeat' (first | refine a_seq fun K hK => ?_ | ((first | refine a_regionS ?_ | refine a_ret ?_); simp (maxSteps := 2000000) only [Ty.w, simprocAttr, g1, g5, g6, g7, g8, g9, Bool.not_true, Bool.not_false, wa, wb, wc, wd, we, wf, k1, k2, k3, q0]) | (refine a_skip ?_; try simp only [pst0, simprocAttr]) | (refine a_cond _ (by (try simp (maxSteps := 2000000) only [Ty.w, simprocAttr, g1, g5, g6, g7, g8, g9, Bool.not_true, Bool.not_false, wa, wb, wc, wd, we, wf, k1, k2, k3, q0]); rfl) (fun hb => ?_) (fun hb => ?_) <;> (try simp only [hb0, decide_eq_true_eq, decide_eq_false_iff_not, simprocAttr] at hb) <;> (try (exfalso; omega))) | (refine hK _ _ ?_; clear hK; try simp only [pst0, simprocAttr]))
         all_goals rfl
        | true =>
         simp only [q0, Bool.true_and, Bool.and_true] at hF
         cases q1 : ((((args.length : Int) + params.length) + kids.length) == 0) with
         | false =>
          simp only [q1, Bool.false_and, Bool.and_false] at hF
          subst hF
          repeat' (first | refine a_seq fun K hK => ?_ | ((first | refine a_regionS ?_ | refine a_ret ?_); simp (maxSteps := 2000000) only [Ty.w, simprocAttr, g1, g5, g6, g7, g8, g9, Bool.not_true, Bool.not_false, wa, wb, wc, wd, we, wf, k1, k2, k3, q0, q1]) | (refine a_skip ?_; try simp only [pst0, simprocAttr]) | (refine a_cond _ (by (try simp (maxSteps := 2000000) only [Ty.w, simprocAttr, g1, g5, g6, g7, g8, g9, Bool.not_true, Bool.not_false, wa, wb, wc, wd, we, wf, k1, k2, k3, q0, q1]); rfl) (fun hb => ?_) (fun hb => ?_) <;> (try simp only [hb0, decide_eq_true_eq, decide_eq_false_iff_not, simprocAttr] at hb) <;> (try (exfalso; omega))) | (refine hK _ _ ?_; clear hK; try simp only [pst0, simprocAttr]))
          all_goals rfl
         | true =>
          simp only [q1, Bool.true_and, Bool.and_true] at hF
          cases q2 : ((exprs.length : Int) == 2) with
          | false =>
           simp only [q2, Bool.false_and, Bool.and_false] at hF
           subst hF
           repeat' (first | refine a_seq fun K hK => ?_ | ((first | refine a_regionS ?_ | refine a_ret ?_); simp (maxSteps := 2000000) only [Ty.w, simprocAttr, g1, g5, g6, g7, g8, g9, Bool.not_true, Bool.not_false, wa, wb, wc, wd, we, wf, k1, k2, k3, q0, q1, q2]) | (refine a_skip ?_; try simp only [pst0, simprocAttr]) | (refine a_cond _ (by (try simp (maxSteps := 2000000) only [Ty.w, simprocAttr, g1, g5, g6, g7, g8, g9, Bool.not_true, Bool.not_false, wa, wb, wc, wd, we, wf, k1, k2, k3, q0, q1, q2]); rfl) (fun hb => ?_) (fun hb => ?_) <;> (try simp only [hb0, decide_eq_true_eq, decide_eq_false_iff_not, simprocAttr] at hb) <;> (try (exfalso; omega))) | (refine hK _ _ ?_; clear hK; try simp only [pst0, simprocAttr]))
           all_goals rfl
          | true =>
           simp only [q2, Bool.true_and, Bool.and_true] at hF
           subst hF
           repeat' (first | refine a_seq fun K hK => ?_ | ((first | refine a_regionS ?_ | refine a_ret ?_); simp (maxSteps := 2000000) only [Ty.w, simprocAttr, g1, g5, g6, g7, g8, g9, Bool.not_true, Bool.not_false, wa, wb, wc, wd, we, wf, k1, k2, k3, q0, q1, q2]) | (refine a_skip ?_; try simp only [pst0, simprocAttr]) | (refine a_cond _ (by (try simp (maxSteps := 2000000) only [Ty.w, simprocAttr, g1, g5, g6, g7, g8, g9, Bool.not_true, Bool.not_false, wa, wb, wc, wd, we, wf, k1, k2, k3, q0, q1, q2]); rfl) (fun hb => ?_) (fun hb => ?_) <;> (try simp only [hb0, decide_eq_true_eq, decide_eq_false_iff_not, simprocAttr] at hb) <;> (try (exfalso; omega))) | (refine hK _ _ ?_; clear hK; try simp only [pst0, simprocAttr]))
           all_goals rfl
       | false =>
        simp only [k3, Bool.true_or, Bool.or_true, Bool.false_or, if_true, Bool.false_eq_true, if_false] at hF
        cases k4 : (op.data.toList == (#[60, 61] : Array UInt8).toList) with
        | true =>
         simp only [k4, Bool.true_or, Bool.or_true, Bool.false_or, if_true, Bool.false_eq_true, if_false] at hF
         cases q0 : (name.data.toList == (#[] : Array UInt8).toList) with
         | false =>
          simp only [q0, Bool.false_and, Bool.and_false] at hF
          subst hF
          repeat' (first | refine a_seq fun K hK => ?_ | ((first | refine a_regionS ?_ | refine a_ret ?_); simp (maxSteps := 2000000) only [Ty.w, simprocAttr, g1, g5, g6, g7, g8, g9, Bool.not_true, Bool.not_false, wa, wb, wc, wd, we, wf, k1, k2, k3, k4, q0]) | (refine a_skip ?_; try simp only [pst0, simprocAttr]) | (refine a_cond _ (by (try simp (maxSteps := 2000000) only [Ty.w, simprocAttr, g1, g5, g6, g7, g8, g9, Bool.not_true, Bool.not_false, wa, wb, wc, wd, we, wf, k1, k2, k3, k4, q0]); rfl) (fun hb => ?_) (fun hb => ?_) <;> (try simp only [hb0, decide_eq_true_eq, decide_eq_false_iff_not, simprocAttr] at hb) <;> (try (exfalso; omega))) | (refine hK _ _ ?_; clear hK; try simp only [pst0, simprocAttr]))
          all_goals rfl
         | true =>
          simp only [q0, Bool.true_and, Bool.and_true] at hF
          cases q1 : ((((args.length : Int) + params.length) + kids.length) == 0) with
          | false =>
           simp only [q1, Bool.false_and, Bool.and_false] at hF
           subst hF
           repeat' (first | refine a_seq fun K hK => ?_ | ((first | refine a_regionS ?_ | refine a_ret ?_); simp (maxSteps := 2000000) only [Ty.w, simprocAttr, g1, g5, g6, g7, g8, g9, Bool.not_true, Bool.not_false, wa, wb, wc, wd, we, wf, k1, k2, k3, k4, q0, q1]) | (refine a_skip ?_; try simp only [pst0, simprocAttr]) | (refine a_cond _ (by (try simp (maxSteps := 2000000) only [Ty.w, simprocAttr, g1, g5, g6, g7, g8, g9, Bool.not_true, Bool.not_false, wa, wb, wc, wd, we, wf, k1, k2, k3, k4, q0, q1]); rfl) (fun hb => ?_) (fun hb => ?_) <;> (try simp only [hb0, decide_eq_true_eq, decide_eq_false_iff_not, simprocAttr] at hb) <;> (try (exfalso; omega))) | (refine hK _ _ ?_; clear hK; try simp only [pst0, simprocAttr]))
           all_goals rfl
          | true =>
           simp only [q1, Bool.true_and, Bool.and_true] at hF
           cases q2 : ((exprs.length : Int) == 2) with
           | false =>
            simp only [q2, Bool.false_and, Bool.and_false] at hF
            subst hF
            repeat' (first | refine a_seq fun K hK => ?_ | ((first | refine a_regionS ?_ | refine a_ret ?_); simp (maxSteps := 2000000) only [Ty.w, simprocAttr, g1, g5, g6, g7, g8, g9, Bool.not_true, Bool.not_false, wa, wb, wc, wd, we, wf, k1, k2, k3, k4, q0, q1, q2]) | (refine a_skip ?_; try simp only [pst0, simprocAttr]) | (refine a_cond _ (by (try simp (maxSteps := 2000000) only [Ty.w, simprocAttr, g1, g5, g6, g7, g8, g9, Bool.not_true, Bool.not_false, wa, wb, wc, wd, we, wf, k1, k2, k3, k4, q0, q1, q2]); rfl) (fun hb => ?_) (fun hb => ?_) <;> (try simp only [hb0, decide_eq_true_eq, decide_eq_false_iff_not, simprocAttr] at hb) <;> (try (exfalso; omega))) | (refine hK _ _ ?_; clear hK; try simp only [pst0, simprocAttr]))
            all_goals rfl
           | true =>
            simp only [q2, Bool.true_and, Bool.and_true] at hF
            subst hF
            repeat' (first | refine a_seq fun K hK => ?_ | ((first | refine a_regionS ?_ | refine a_ret ?_); simp (maxSteps := 2000000) only [Ty.w, simprocAttr, g1, g5, g6, g7, g8, g9, Bool.not_true, Bool.not_false, wa, wb, wc, wd, we, wf, k1, k2, k3, k4, q0, q1, q2]) | (refine a_skip ?_; try simp only [pst0, simprocAttr]) | (refine a_cond _ (by (try simp (maxSteps := 2000000) only [Ty.w, simprocAttr, g1, g5, g6, g7, g8, g9, Bool.not_true, Bool.not_false, wa, wb, wc, wd, we, wf, k1, k2, k3, k4, q0, q1, q2]); rfl) (fun hb => ?_) (fun hb => ?_) <;> (try simp only [hb0, decide_eq_true_eq, decide_eq_false_iff_not, simprocAttr] at hb) <;> (try (exfalso; omega))) | (refine hK _ _ ?_; clear hK; try simp only [pst0, simprocAttr]))
            all_goals rfl
        | false =>
         simp only [k4, Bool.true_or, Bool.or_true, Bool.false_or, if_true, Bool.false_eq_true, if_false] at hF
         cases k5 : (op.data.toList == (#[61] : Array UInt8).toList) with
         | true =>
          simp only [k5, Bool.true_or, Bool.or_true, Bool.false_or, if_true, Bool.false_eq_true, if_false] at hF
          cases q0 : (name.data.toList == (#[] : Array UInt8).toList) with
          | false =>
           simp only [q0, Bool.false_and, Bool.and_false] at hF
           subst hF
           repeat' (first | refine a_seq fun K hK => ?_ | ((first | refine a_regionS ?_ | refine a_ret ?_); simp (maxSteps := 2000000) only [Ty.w, simprocAttr, g1, g5, g6, g7, g8, g9, Bool.not_true, Bool.not_false, wa, wb, wc, wd, we, wf, k1, k2, k3, k4, k5, q0]) | (refine a_cond _ (by (try simp (maxSteps := 2000000) only [Ty.w, simprocAttr, g1, g5, g6, g7, g8, g9, Bool.not_true, Bool.not_false, wa, wb, wc, wd, we, wf, k1, k2, k3, k4, k5, q0]); rfl) (fun hb => ?_) (fun hb => ?_) <;> (try simp only [hb0, decide_eq_true_eq, decide_eq_false_iff_not, simprocAttr] at hb) <;> (try (exfalso; omega))) | (refine hK _ _ ?_; clear hK; try simp only [pst0, simprocAttr]))
           all_goals rfl
          | true =>
           simp only [q0, Bool.true_and, Bool.and_true] at hF
           cases q1 : ((((args.length : Int) + params.length) + kids.length) == 0) with
           | false =>
            simp only [q1, Bool.false_and, Bool.and_false] at hF
            subst hF
            repeat' (first | refine a_seq fun K hK => ?_ | ((first | refine a_regionS ?_ | refine a_ret ?_); simp (maxSteps := 2000000) only [Ty.w, simprocAttr, g1, g5, g6, g7, g8, g9, Bool.not_true, Bool.not_false, wa, wb, wc, wd, we, wf, k1, k2, k3, k4, k5, q0, q1]) | (refine a_cond _ (by (try simp (maxSteps := 2000000) only [Ty.w, simprocAttr, g1, g5, g6, g7, g8, g9, Bool.not_true, Bool.not_false, wa, wb, wc, wd, we, wf, k1, k2, k3, k4, k5, q0, q1]); rfl) (fun hb => ?_) (fun hb => ?_) <;> (try simp only [hb0, decide_eq_true_eq, decide_eq_false_iff_not, simprocAttr] at hb) <;> (try (exfalso; omega))) | (refine hK _ _ ?_; clear hK; try simp only [pst0, simprocAttr]))
            all_goals rfl
           | true =>
            simp only [q1, Bool.true_and, Bool.and_true] at hF
            cases q2 : ((exprs.length : Int) == 2) with
            | false =>
             simp only [q2, Bool.false_and, Bool.and_false] at hF
             subst hF
             repeat' (first | refine a_seq fun K hK => ?_ | ((first | refine a_regionS ?_ | refine a_ret ?_); simp (maxSteps := 2000000) only [Ty.w, simprocAttr, g1, g5, g6, g7, g8, g9, Bool.not_true, Bool.not_false, wa, wb, wc, wd, we, wf, k1, k2, k3, k4, k5, q0, q1, q2]) | (refine a_cond _ (by (try simp (maxSteps := 2000000) only [Ty.w, simprocAttr, g1, g5, g6, g7, g8, g9, Bool.not_true, Bool.not_false, wa, wb, wc, wd, we, wf, k1, k2, k3, k4, k5, q0, q1, q2]); rfl) (fun hb => ?_) (fun hb => ?_) <;> (try simp only [hb0, decide_eq_true_eq, decide_eq_false_iff_not, simprocAttr] at hb) <;> (try (exfalso; omega))) | (refine hK _ _ ?_; clear hK; try simp only [pst0, simprocAttr]))
             all_goals rfl
            | true =>
             simp only [q2, Bool.true_and, Bool.and_true] at hF
             subst hF
             repeat' (first | refine a_seq fun K hK => ?_ | ((first | refine a_regionS ?_ | refine a_ret ?_); simp (maxSteps := 2000000) only [Ty.w, simprocAttr, g1, g5, g6, g7, g8, g9, Bool.not_true, Bool.not_false, wa, wb, wc, wd, we, wf, k1, k2, k3, k4, k5, q0, q1, q2]) | (refine a_cond _ (by (try simp (maxSteps := 2000000) only [Ty.w, simprocAttr, g1, g5, g6, g7, g8, g9, Bool.not_true, Bool.not_false, wa, wb, wc, wd, we, wf, k1, k2, k3, k4, k5, q0, q1, q2]); rfl) (fun hb => ?_) (fun hb => ?_) <;> (try simp only [hb0, decide_eq_true_eq, decide_eq_false_iff_not, simprocAttr] at hb) <;> (try (exfalso; omega))) | (refine hK _ _ ?_; clear hK; try simp only [pst0, simprocAttr]))
             all_goals rfl
         | false =>
          simp only [k5, Bool.true_or, Bool.or_true, Bool.false_or, if_true, Bool.false_eq_true, if_false] at hF
          cases k6 : (op.data.toList == (#[97, 110, 100] : Array UInt8).toList) with
          | true =>
           simp only [k6, Bool.true_or, Bool.or_true, Bool.false_or, if_true, Bool.false_eq_true, if_false] at hF
           cases q0 : (name.data.toList == (#[] : Array UInt8).toList) with
           | false =>
            simp only [q0, Bool.false_and, Bool.and_false] at hF
            subst hF
            repeat' (first | refine a_seq fun K hK => ?_ | ((first | refine a_regionS ?_ | refine a_ret ?_); simp (maxSteps := 2000000) only [Ty.w, simprocAttr, g1, g5, g6, g7, g8, g9, Bool.not_true, Bool.not_false, wa, wb, wc, wd, we, wf, k1, k2, k3, k4, k5, k6, q0]) | (refine a_skip ?_; try simp only [pst0, simprocAttr]) | (refine a_cond _ (by (try simp (maxSteps := 2000000) only [Ty.w, simprocAttr, g1, g5, g6, g7, g8, g9, Bool.not_true, Bool.not_false, wa, wb, wc, wd, we, wf, k1, k2, k3, k4, k5, k6, q0]); rfl) (fun hb => ?_) (fun hb => ?_) <;> (try simp only [hb0, decide_eq_true_eq, decide_eq_false_iff_not, simprocAttr] at hb) <;> (try (exfalso; omega))) | (refine hK _ _ ?_; clear hK; try simp only [pst0, simprocAttr]))
            all_goals rfl
           | true =>
            simp only [q0, Bool.true_and, Bool.and_true] at hF
            cases q1 : ((((args.length : Int) + params.length) + exprs.length) == 0) with
            | false =>
             simp only [q1, Bool.false_and, Bool.and_false] at hF
             subst hF
             repeat' (first | refine a_seq fun K hK => ?_ | ((first | refine a_regionS ?_ | refine a_ret ?_); simp (maxSteps := 2000000) only [Ty.w, simprocAttr, g1, g5, g6, g7, g8, g9, Bool.not_true, Bool.not_false, wa, wb, wc, wd, we, wf, k1, k2, k3, k4, k5, k6, q0, q1]) | (refine a_skip ?_; try simp only [pst0, simprocAttr]) | (refine a_cond _ (by (try simp (maxSteps := 2000000) only [Ty.w, simprocAttr, g1, g5, g6, g7, g8, g9, Bool.not_true, Bool.not_false, wa, wb, wc, wd, we, wf, k1, k2, k3, k4, k5, k6, q0, q1]); rfl) (fun hb => ?_) (fun hb => ?_) <;> (try simp only [hb0, decide_eq_true_eq, decide_eq_false_iff_not, simprocAttr] at hb) <;> (try (exfalso; omega))) | (refine hK _ _ ?_; clear hK; try simp only [pst0, simprocAttr]))
             all_goals rfl
            | true =>
             simp only [q1, Bool.true_and, Bool.and_true] at hF
             subst hF
             repeat' (first | refine a_seq fun K hK => ?_ | ((first | refine a_regionS ?_ | refine a_ret ?_); simp (maxSteps := 2000000) only [Ty.w, simprocAttr, g1, g5, g6, g7, g8, g9, Bool.not_true, Bool.not_false, wa, wb, wc, wd, we, wf, k1, k2, k3, k4, k5, k6, q0, q1]) | (refine a_skip ?_; try simp only [pst0, simprocAttr]) | (refine a_cond _ (by (try simp (maxSteps := 2000000) only [Ty.w, simprocAttr, g1, g5, g6, g7, g8, g9, Bool.not_true, Bool.not_false, wa, wb, wc, wd, we, wf, k1, k2, k3, k4, k5, k6, q0, q1]); rfl) (fun hb => ?_) (fun hb => ?_) <;> (try simp only [hb0, decide_eq_true_eq, decide_eq_false_iff_not, simprocAttr] at hb) <;> (try (exfalso; omega))) | (refine hK _ _ ?_; clear hK; try simp only [pst0, simprocAttr]))
             all_goals rfl
          | false =>
           simp only [k6, Bool.true_or, Bool.or_true, Bool.false_or, if_true, Bool.false_eq_true, if_false] at hF
           cases k7 : (op.data.toList == (#[111, 114] : Array UInt8).toList) with
           | true =>
            simp only [k7, Bool.true_or, Bool.or_true, Bool.false_or, if_true, Bool.false_eq_true, if_false] at hF
            cases q0 : (name.data.toList == (#[] : Array UInt8).toList) with
            | false =>
             simp only [q0, Bool.false_and, Bool.and_false] at hF
             subst hF
             repeat' (first | refine a_seq fun K hK => ?_ | ((first | refine a_regionS ?_ | refine a_ret ?_); simp (maxSteps := 2000000) only [Ty.w, simprocAttr, g1, g5, g6, g7, g8, g9, Bool.not_true, Bool.not_false, wa, wb, wc, wd, we, wf, k1, k2, k3, k4, k5, k6, k7, q0]) | (refine a_cond _ (by (try simp (maxSteps := 2000000) only [Ty.w, simprocAttr, g1, g5, g6, g7, g8, g9, Bool.not_true, Bool.not_false, wa, wb, wc, wd, we, wf, k1, k2, k3, k4, k5, k6, k7, q0]); rfl) (fun hb => ?_) (fun hb => ?_) <;> (try simp only [hb0, decide_eq_true_eq, decide_eq_false_iff_not, simprocAttr] at hb) <;> (try (exfalso; omega))) | (refine hK _ _ ?_; clear hK; try simp only [pst0, simprocAttr]))
             all_goals rfl
            | true =>
             simp only [q0, Bool.true_and, Bool.and_true] at hF
             cases q1 : ((((args.length : Int) + params.length) + exprs.length) == 0) with
             | false =>
              simp only [q1, Bool.false_and, Bool.and_false] at hF
              subst hF
              repeat' (first | refine a_seq fun K hK => ?_ | ((first | refine a_regionS ?_ | refine a_ret ?_); simp (maxSteps := 2000000) only [Ty.w, simprocAttr, g1, g5, g6, g7, g8, g9, Bool.not_true, Bool.not_false, wa, wb, wc, wd, we, wf, k1, k2, k3, k4, k5, k6, k7, q0, q1]) | (refine a_cond _ (by (try simp (maxSteps := 2000000) only [Ty.w, simprocAttr, g1, g5, g6, g7, g8, g9, Bool.not_true, Bool.not_false, wa, wb, wc, wd, we, wf, k1, k2, k3, k4, k5, k6, k7, q0, q1]); rfl) (fun hb => ?_) (fun hb => ?_) <;> (try simp only [hb0, decide_eq_true_eq, decide_eq_false_iff_not, simprocAttr] at hb) <;> (try (exfalso; omega))) | (refine hK _ _ ?_; clear hK; try simp only [pst0, simprocAttr]))
              all_goals rfl
             | true =>
              simp only [q1, Bool.true_and, Bool.and_true] at hF
              subst hF
              repeat' (first | refine a_seq fun K hK => ?_ | ((first | refine a_regionS ?_ | refine a_ret ?_); simp (maxSteps := 2000000) only [Ty.w, simprocAttr, g1, g5, g6, g7, g8, g9, Bool.not_true, Bool.not_false, wa, wb, wc, wd, we, wf, k1, k2, k3, k4, k5, k6, k7, q0, q1]) | (refine a_cond _ (by (try simp (maxSteps := 2000000) only [Ty.w, simprocAttr, g1, g5, g6, g7, g8, g9, Bool.not_true, Bool.not_false, wa, wb, wc, wd, we, wf, k1, k2, k3, k4, k5, k6, k7, q0, q1]); rfl) (fun hb => ?_) (fun hb => ?_) <;> (try simp only [hb0, decide_eq_true_eq, decide_eq_false_iff_not, simprocAttr] at hb) <;> (try (exfalso; omega))) | (refine hK _ _ ?_; clear hK; try simp only [pst0, simprocAttr]))
              all_goals rfl
           | false =>
            simp only [k7, Bool.true_or, Bool.or_true, Bool.false_or, if_true, Bool.false_eq_true, if_false] at hF
            cases k8 : (op.data.toList == (#[110, 111, 116] : Array UInt8).toList) with
            | true =>
             simp only [k8, Bool.true_or, Bool.or_true, Bool.false_or, if_true, Bool.false_eq_true, if_false] at hF
             cases q0 : (name.data.toList == (#[] : Array UInt8).toList) with
             | false =>
              simp only [q0, Bool.false_and, Bool.and_false] at hF
              subst hF
              repeat' (first | refine a_seq fun K hK => ?_ | ((first | refine a_regionS ?_ | refine a_ret ?_); simp (maxSteps := 2000000) only [Ty.w, simprocAttr, g1, g5, g6, g7, g8, g9, Bool.not_true, Bool.not_false, wa, wb, wc, wd, we, wf, k1, k2, k3, k4, k5, k6, k7, k8, q0]) | (refine a_cond _ (by (try simp (maxSteps := 2000000) only [Ty.w, simprocAttr, g1, g5, g6, g7, g8, g9, Bool.not_true, Bool.not_false, wa, wb, wc, wd, we, wf, k1, k2, k3, k4, k5, k6, k7, k8, q0]); rfl) (fun hb => ?_) (fun hb => ?_) <;> (try simp only [hb0, decide_eq_true_eq, decide_eq_false_iff_not, simprocAttr] at hb) <;> (try (exfalso; omega))) | (refine hK _ _ ?_; clear hK; try simp only [pst0, simprocAttr]))
              all_goals rfl
             | true =>
              simp only [q0, Bool.true_and, Bool.and_true] at hF
              cases q1 : ((((args.length : Int) + params.length) + exprs.length) == 0) with
              | false =>
               simp only [q1, Bool.false_and, Bool.and_false] at hF
               subst hF
               repeat' (first | refine a_seq fun K hK => ?_ | ((first | refine a_regionS ?_ | refine a_ret ?_); simp (maxSteps := 2000000) only [Ty.w, simprocAttr, g1, g5, g6, g7, g8, g9, Bool.not_true, Bool.not_false, wa, wb, wc, wd, we, wf, k1, k2, k3, k4, k5, k6, k7, k8, q0, q1]) | (refine a_cond _ (by (try simp (maxSteps := 2000000) only [Ty.w, simprocAttr, g1, g5, g6, g7, g8, g9, Bool.not_true, Bool.not_false, wa, wb, wc, wd, we, wf, k1, k2, k3, k4, k5, k6, k7, k8, q0, q1]); rfl) (fun hb => ?_) (fun hb => ?_) <;> (try simp only [hb0, decide_eq_true_eq, decide_eq_false_iff_not, simprocAttr] at hb) <;> (try (exfalso; omega))) | (refine hK _ _ ?_; clear hK; try simp only [pst0, simprocAttr]))
               all_goals rfl
              | true =>
               simp only [q1, Bool.true_and, Bool.and_true] at hF
               cases q2 : ((kids.length : Int) == 1) with
               | false =>
                simp only [q2, Bool.false_and, Bool.and_false] at hF
                subst hF
                repeat' (first | refine a_seq fun K hK => ?_ | ((first | refine a_regionS ?_ | refine a_ret ?_); simp (maxSteps := 2000000) only [Ty.w, simprocAttr, g1, g5, g6, g7, g8, g9, Bool.not_true, Bool.not_false, wa, wb, wc, wd, we, wf, k1, k2, k3, k4, k5, k6, k7, k8, q0, q1, q2]) | (refine a_cond _ (by (try simp (maxSteps := 2000000) only [Ty.w, simprocAttr, g1, g5, g6, g7, g8, g9, Bool.not_true, Bool.not_false, wa, wb, wc, wd, we, wf, k1, k2, k3, k4, k5, k6, k7, k8, q0, q1, q2]); rfl) (fun hb => ?_) (fun hb => ?_) <;> (try simp only [hb0, decide_eq_true_eq, decide_eq_false_iff_not, simprocAttr] at hb) <;> (try (exfalso; omega))) | (refine hK _ _ ?_; clear hK; try simp only [pst0, simprocAttr]))
                all_goals rfl
               | true =>
                simp only [q2, Bool.true_and, Bool.and_true] at hF
                subst hF
                repeat' (first | refine a_seq fun K hK => ?_ | ((first | refine a_regionS ?_ | refine a_ret ?_); simp (maxSteps := 2000000) only [Ty.w, simprocAttr, g1, g5, g6, g7, g8, g9, Bool.not_true, Bool.not_false, wa, wb, wc, wd, we, wf, k1, k2, k3, k4, k5, k6, k7, k8, q0, q1, q2]) | (refine a_cond _ (by (try simp (maxSteps := 2000000) only [Ty.w, simprocAttr, g1, g5, g6, g7, g8, g9, Bool.not_true, Bool.not_false, wa, wb, wc, wd, we, wf, k1, k2, k3, k4, k5, k6, k7, k8, q0, q1, q2]); rfl) (fun hb => ?_) (fun hb => ?_) <;> (try simp only [hb0, decide_eq_true_eq, decide_eq_false_iff_not, simprocAttr] at hb) <;> (try (exfalso; omega))) | (refine hK _ _ ?_; clear hK; try simp only [pst0, simprocAttr]))
                all_goals rfl
            | false =>
             simp only [k8, Bool.true_or, Bool.or_true, Bool.false_or, if_true, Bool.false_eq_true, if_false] at hF
             cases k9 : (op.data.toList == (#[105, 109, 112, 108, 121] : Array UInt8).toList) with
             | true =>
              simp only [k9, Bool.true_or, Bool.or_true, Bool.false_or, if_true, Bool.false_eq_true, if_false] at hF
              cases q0 : (name.data.toList == (#[] : Array UInt8).toList) with
              | false =>
               simp only [q0, Bool.false_and, Bool.and_false] at hF
               subst hF
               repeat' (first | refine a_seq fun K hK => ?_ | ((first | refine a_regionS ?_ | refine a_ret ?_); simp (maxSteps := 2000000) only [Ty.w, simprocAttr, g1, g5, g6, g7, g8, g9, Bool.not_true, Bool.not_false, wa, wb, wc, wd, we, wf, k1, k2, k3, k4, k5, k6, k7, k8, k9, q0]) | (refine a_cond _ (by (try simp (maxSteps := 2000000) only [Ty.w, simprocAttr, g1, g5, g6, g7, g8, g9, Bool.not_true, Bool.not_false, wa, wb, wc, wd, we, wf, k1, k2, k3, k4, k5, k6, k7, k8, k9, q0]); rfl) (fun hb => ?_) (fun hb => ?_) <;> (try simp only [hb0, decide_eq_true_eq, decide_eq_false_iff_not, simprocAttr] at hb) <;> (try (exfalso; omega))) | (refine hK _ _ ?_; clear hK; try simp only [pst0, simprocAttr]))
               all_goals rfl
              | true =>
               simp only [q0, Bool.true_and, Bool.and_true] at hF
               cases q1 : ((((args.length : Int) + params.length) + exprs.length) == 0) with
               | false =>
                simp only [q1, Bool.false_and, Bool.and_false] at hF
                subst hF
                repeat' (first | refine a_seq fun K hK => ?_ | ((first | refine a_regionS ?_ | refine a_ret ?_); simp (maxSteps := 2000000) only [Ty.w, simprocAttr, g1, g5, g6, g7, g8, g9, Bool.not_true, Bool.not_false, wa, wb, wc, wd, we, wf, k1, k2, k3, k4, k5, k6, k7, k8, k9, q0, q1]) | (refine a_cond _ (by (try simp (maxSteps := 2000000) only [Ty.w, simprocAttr, g1, g5, g6, g7, g8, g9, Bool.not_true, Bool.not_false, wa, wb, wc, wd, we, wf, k1, k2, k3, k4, k5, k6, k7, k8, k9, q0, q1]); rfl) (fun hb => ?_) (fun hb => ?_) <;> (try simp only [hb0, decide_eq_true_eq, decide_eq_false_iff_not, simprocAttr] at hb) <;> (try (exfalso; omega))) | (refine hK _ _ ?_; clear hK; try simp only [pst0, simprocAttr]))
                all_goals rfl
               | true =>
                simp only [q1, Bool.true_and, Bool.and_true] at hF
                cases q2 : ((kids.length : Int) == 2) with
                | false =>
                 simp only [q2, Bool.false_and, Bool.and_false] at hF
                 subst hF
                 repeat' (first | refine a_seq fun K hK => ?_ | ((first | refine a_regionS ?_ | refine a_ret ?_); simp (maxSteps := 2000000) only [Ty.w, simprocAttr, g1, g5, g6, g7, g8, g9, Bool.not_true, Bool.not_false, wa, wb, wc, wd, we, wf, k1, k2, k3, k4, k5, k6, k7, k8, k9, q0, q1, q2]) | (refine a_cond _ (by (try simp (maxSteps := 2000000) only [Ty.w, simprocAttr, g1, g5, g6, g7, g8, g9, Bool.not_true, Bool.not_false, wa, wb, wc, wd, we, wf, k1, k2, k3, k4, k5, k6, k7, k8, k9, q0, q1, q2]); rfl) (fun hb => ?_) (fun hb => ?_) <;> (try simp only [hb0, decide_eq_true_eq, decide_eq_false_iff_not, simprocAttr] at hb) <;> (try (exfalso; omega))) | (refine hK _ _ ?_; clear hK; try simp only [pst0, simprocAttr]))
                 all_goals rfl
                | true =>
                 simp only [q2, Bool.true_and, Bool.and_true] at hF
                 subst hF
                 repeat' (first | refine a_seq fun K hK => ?_ | ((first | refine a_regionS ?_ | refine a_ret ?_); simp (maxSteps := 2000000) only [Ty.w, simprocAttr, g1, g5, g6, g7, g8, g9, Bool.not_true, Bool.not_false, wa, wb, wc, wd, we, wf, k1, k2, k3, k4, k5, k6, k7, k8, k9, q0, q1, q2]) | (refine a_cond _ (by (try simp (maxSteps := 2000000) only [Ty.w, simprocAttr, g1, g5, g6, g7, g8, g9, Bool.not_true, Bool.not_false, wa, wb, wc, wd, we, wf, k1, k2, k3, k4, k5, k6, k7, k8, k9, q0, q1, q2]); rfl) (fun hb => ?_) (fun hb => ?_) <;> (try simp only [hb0, decide_eq_true_eq, decide_eq_false_iff_not, simprocAttr] at hb) <;> (try (exfalso; omega))) | (refine hK _ _ ?_; clear hK; try simp only [pst0, simprocAttr]))
                 all_goals rfl
             | false =>
              simp only [k9, Bool.true_or, Bool.or_true, Bool.false_or, if_true, Bool.false_eq_true, if_false] at hF
              cases k10 : (op.data.toList == (#[102, 111, 114, 97, 108, 108] : Array UInt8).toList) with
              | true =>
               simp only [k10, Bool.true_or, Bool.or_true, Bool.false_or, if_true, Bool.false_eq_true, if_false] at hF
               cases q0 : (name.data.toList == (#[] : Array UInt8).toList) with
               | false =>
                simp only [q0, Bool.false_and, Bool.and_false] at hF
                subst hF
                repeat' (first | refine a_seq fun K hK => ?_ | ((first | refine a_regionS ?_ | refine a_ret ?_); simp (maxSteps := 2000000) only [Ty.w, simprocAttr, g1, g5, g6, g7, g8, g9, Bool.not_true, Bool.not_false, wa, wb, wc, wd, we, wf, k1, k2, k3, k4, k5, k6, k7, k8, k9, k10, q0]) | (refine a_skip ?_; try simp only [pst0, simprocAttr]) | (refine a_cond _ (by (try simp (maxSteps := 2000000) only [Ty.w, simprocAttr, g1, g5, g6, g7, g8, g9, Bool.not_true, Bool.not_false, wa, wb, wc, wd, we, wf, k1, k2, k3, k4, k5, k6, k7, k8, k9, k10, q0]); rfl) (fun hb => ?_) (fun hb => ?_) <;> (try simp only [hb0, decide_eq_true_eq, decide_eq_false_iff_not, simprocAttr] at hb) <;> (try (exfalso; omega))) | (refine hK _ _ ?_; clear hK; try simp only [pst0, simprocAttr]))
                all_goals rfl
               | true =>
                simp only [q0, Bool.true_and, Bool.and_true] at hF
                cases q1 : (((args.length : Int) + exprs.length) == 0) with
                | false =>
                 simp only [q1, Bool.false_and, Bool.and_false] at hF
                 subst hF
                 repeat' (first | refine a_seq fun K hK => ?_ | ((first | refine a_regionS ?_ | refine a_ret ?_); simp (maxSteps := 2000000) only [Ty.w, simprocAttr, g1, g5, g6, g7, g8, g9, Bool.not_true, Bool.not_false, wa, wb, wc, wd, we, wf, k1, k2, k3, k4, k5, k6, k7, k8, k9, k10, q0, q1]) | (refine a_skip ?_; try simp only [pst0, simprocAttr]) | (refine a_cond _ (by (try simp (maxSteps := 2000000) only [Ty.w, simprocAttr, g1, g5, g6, g7, g8, g9, Bool.not_true, Bool.not_false, wa, wb, wc, wd, we, wf, k1, k2, k3, k4, k5, k6, k7, k8, k9, k10, q0, q1]); rfl) (fun hb => ?_) (fun hb => ?_) <;> (try simp only [hb0, decide_eq_true_eq, decide_eq_false_iff_not, simprocAttr] at hb) <;> (try (exfalso; omega))) | (refine hK _ _ ?_; clear hK; try simp only [pst0, simprocAttr]))
                 all_goals rfl
                | true =>
                 simp only [q1, Bool.true_and, Bool.and_true] at hF
                 cases q2 : ((kids.length : Int) == 1) with
                 | false =>
                  simp only [q2, Bool.false_and, Bool.and_false] at hF
                  subst hF
                  repeat' (first | refine a_seq fun K hK => ?_ | ((first | refine a_regionS ?_ | refine a_ret ?_); simp (maxSteps := 2000000) only [Ty.w, simprocAttr, g1, g5, g6, g7, g8, g9, Bool.not_true, Bool.not_false, wa, wb, wc, wd, we, wf, k1, k2, k3, k4, k5, k6, k7, k8, k9, k10, q0, q1, q2]) | (refine a_skip ?_; try simp only [pst0, simprocAttr]) | (refine a_cond _ (by (try simp (maxSteps := 2000000) only [Ty.w, simprocAttr, g1, g5, g6, g7, g8, g9, Bool.not_true, Bool.not_false, wa, wb, wc, wd, we, wf, k1, k2, k3, k4, k5, k6, k7, k8, k9, k10, q0, q1, q2]); rfl) (fun hb => ?_) (fun hb => ?_) <;> (try simp only [hb0, decide_eq_true_eq, decide_eq_false_iff_not, simprocAttr] at hb) <;> (try (exfalso; omega))) | (refine hK _ _ ?_; clear hK; try simp only [pst0, simprocAttr]))
                  all_goals rfl
                 | true =>
                  simp only [q2, Bool.true_and, Bool.and_true] at hF
                  generalize params.all pmOk = bP at hP hF
                  cases bP with
                  | false =>
                   try simp only [Bool.false_and, Bool.and_false] at hF
                   subst hF
                   have W := And.intro g1 (And.intro g5 (And.intro g6 (And.intro g7 (And.intro g8 (And.intro g9 (And.intro wa (And.intro wb (And.intro wc (And.intro wd (And.intro we (And.intro wf (And.intro k1 (And.intro k2 (And.intro k3 (And.intro k4 (And.intro k5 (And.intro k6 (And.intro k7 (And.intro k8 (And.intro k9 (And.intro k10 (And.intro q0 (And.intro q1 q2)))))))))))))))))))))))
                   repeat' (first | refine a_seq fun K hK => ?_ | (refine a_regionS ?_; simp (maxSteps := 2000000) only [Ty.w, simprocAttr, W, Bool.not_true, Bool.not_false]) | (refine a_skip ?_; try simp only [pst0, simprocAttr]) | (refine a_cond _ (by (try simp (maxSteps := 2000000) only [Ty.w, simprocAttr, W, Bool.not_true, Bool.not_false]); rfl) (fun hb => ?_) (fun hb => ?_) <;> (try simp only [hb0, decide_eq_true_eq, decide_eq_false_iff_not, simprocAttr] at hb) <;> (try (exfalso; omega))) | (refine hK _ _ ?_; clear hK; try simp only [pst0, simprocAttr]))
                   refine owp_useQ (hP _) (by (try simp only [Ty.w, simprocAttr, W, Bool.not_true, Bool.not_false]); try rfl) ?_; simp (maxSteps := 2000000) only [Ty.w, simprocAttr, W, Bool.not_true, Bool.not_false]
                   repeat' (first | (refine a_ret ?_; simp (maxSteps := 2000000) only [Ty.w, simprocAttr, W, Bool.not_true, Bool.not_false]) | (refine hK _ _ ?_; clear hK; try simp only [pst0, simprocAttr]))
                   all_goals rfl
                  | true =>
                   try simp only [Bool.true_and, Bool.and_true] at hF
                   subst hF
                   have W := And.intro g1 (And.intro g5 (And.intro g6 (And.intro g7 (And.intro g8 (And.intro g9 (And.intro wa (And.intro wb (And.intro wc (And.intro wd (And.intro we (And.intro wf (And.intro k1 (And.intro k2 (And.intro k3 (And.intro k4 (And.intro k5 (And.intro k6 (And.intro k7 (And.intro k8 (And.intro k9 (And.intro k10 (And.intro q0 (And.intro q1 q2)))))))))))))))))))))))
                   repeat' (first | refine a_seq fun K hK => ?_ | (refine a_regionS ?_; simp (maxSteps := 2000000) only [Ty.w, simprocAttr, W, Bool.not_true, Bool.not_false]) | (refine a_skip ?_; try simp only [pst0, simprocAttr]) | (refine a_cond _ (by (try simp (maxSteps := 2000000) only [Ty.w, simprocAttr, W, Bool.not_true, Bool.not_false]); rfl) (fun hb => ?_) (fun hb => ?_) <;> (try simp only [hb0, decide_eq_true_eq, decide_eq_false_iff_not, simprocAttr] at hb) <;> (try (exfalso; omega))) | (refine hK _ _ ?_; clear hK; try simp only [pst0, simprocAttr]))
                   refine owp_useQ (hP _) (by (try simp only [Ty.w, simprocAttr, W, Bool.not_true, Bool.not_false]); try rfl) ?_; simp (maxSteps := 2000000) only [Ty.w, simprocAttr, W, Bool.not_true, Bool.not_false]
                   repeat' (first | (refine a_ret ?_; simp (maxSteps := 2000000) only [Ty.w, simprocAttr, W, Bool.not_true, Bool.not_false]) | (refine hK _ _ ?_; clear hK; try simp only [pst0, simprocAttr]))
                   all_goals rfl
              | false =>
               simp only [k10, Bool.true_or, Bool.or_true, Bool.false_or, if_true, Bool.false_eq_true, if_false] at hF
               cases k11 : (op.data.toList == (#[101, 120, 105, 115, 116, 115] : Array UInt8).toList) with
               | true =>
                simp only [k11, Bool.true_or, Bool.or_true, Bool.false_or, if_true, Bool.false_eq_true, if_false] at hF
                cases q0 : (name.data.toList == (#[] : Array UInt8).toList) with
                | false =>
                 simp only [q0, Bool.false_and, Bool.and_false] at hF
                 subst hF
                 repeat' (first | refine a_seq fun K hK => ?_ | ((first | refine a_regionS ?_ | refine a_ret ?_); simp (maxSteps := 2000000) only [Ty.w, simprocAttr, g1, g5, g6, g7, g8, g9, Bool.not_true, Bool.not_false, wa, wb, wc, wd, we, wf, k1, k2, k3, k4, k5, k6, k7, k8, k9, k10, k11, q0]) | (refine a_cond _ (by (try simp (maxSteps := 2000000) only [Ty.w, simprocAttr, g1, g5, g6, g7, g8, g9, Bool.not_true, Bool.not_false, wa, wb, wc, wd, we, wf, k1, k2, k3, k4, k5, k6, k7, k8, k9, k10, k11, q0]); rfl) (fun hb => ?_) (fun hb => ?_) <;> (try simp only [hb0, decide_eq_true_eq, decide_eq_false_iff_not, simprocAttr] at hb) <;> (try (exfalso; omega))) | (refine hK _ _ ?_; clear hK; try simp only [pst0, simprocAttr]))
                 all_goals rfl
                | true =>
                 simp only [q0, Bool.true_and, Bool.and_true] at hF
                 cases q1 : (((args.length : Int) + exprs.length) == 0) with
                 | false =>
                  simp only [q1, Bool.false_and, Bool.and_false] at hF
                  subst hF
                  repeat' (first | refine a_seq fun K hK => ?_ | ((first | refine a_regionS ?_ | refine a_ret ?_); simp (maxSteps := 2000000) only [Ty.w, simprocAttr, g1, g5, g6, g7, g8, g9, Bool.not_true, Bool.not_false, wa, wb, wc, wd, we, wf, k1, k2, k3, k4, k5, k6, k7, k8, k9, k10, k11, q0, q1]) | (refine a_cond _ (by (try simp (maxSteps := 2000000) only [Ty.w, simprocAttr, g1, g5, g6, g7, g8, g9, Bool.not_true, Bool.not_false, wa, wb, wc, wd, we, wf, k1, k2, k3, k4, k5, k6, k7, k8, k9, k10, k11, q0, q1]); rfl) (fun hb => ?_) (fun hb => ?_) <;> (try simp only [hb0, decide_eq_true_eq, decide_eq_false_iff_not, simprocAttr] at hb) <;> (try (exfalso; omega))) | (refine hK _ _ ?_; clear hK; try simp only [pst0, simprocAttr]))
                  all_goals rfl
                 | true =>
                  simp only [q1, Bool.true_and, Bool.and_true] at hF
                  cases q2 : ((kids.length : Int) == 1) with
                  | false =>
                   simp only [q2, Bool.false_and, Bool.and_false] at hF
                   subst hF
                   repeat' (first | refine a_seq fun K hK => ?_ | ((first | refine a_regionS ?_ | refine a_ret ?_); simp (maxSteps := 2000000) only [Ty.w, simprocAttr, g1, g5, g6, g7, g8, g9, Bool.not_true, Bool.not_false, wa, wb, wc, wd, we, wf, k1, k2, k3, k4, k5, k6, k7, k8, k9, k10, k11, q0, q1, q2]) | (refine a_cond _ (by (try simp (maxSteps := 2000000) only [Ty.w, simprocAttr, g1, g5, g6, g7, g8, g9, Bool.not_true, Bool.not_false, wa, wb, wc, wd, we, wf, k1, k2, k3, k4, k5, k6, k7, k8, k9, k10, k11, q0, q1, q2]); rfl) (fun hb => ?_) (fun hb => ?_) <;> (try simp only [hb0, decide_eq_true_eq, decide_eq_false_iff_not, simprocAttr] at hb) <;> (try (exfalso; omega))) | (refine hK _ _ ?_; clear hK; try simp only [pst0, simprocAttr]))
                   all_goals rfl
                  | true =>
                   simp only [q2, Bool.true_and, Bool.and_true] at hF
                   generalize params.all pmOk = bP at hP hF
                   cases bP with
                   | false =>
                    try simp only [Bool.false_and, Bool.and_false] at hF
                    subst hF
                    have W := And.intro g1 (And.intro g5 (And.intro g6 (And.intro g7 (And.intro g8 (And.intro g9 (And.intro wa (And.intro wb (And.intro wc (And.intro wd (And.intro we (And.intro wf (And.intro k1 (And.intro k2 (And.intro k3 (And.intro k4 (And.intro k5 (And.intro k6 (And.intro k7 (And.intro k8 (And.intro k9 (And.intro k10 (And.intro k11 (And.intro q0 (And.intro q1 q2))))))))))))))))))))))))
                    repeat' (first | refine a_seq fun K hK => ?_ | (refine a_regionS ?_; simp (maxSteps := 2000000) only [Ty.w, simprocAttr, W, Bool.not_true, Bool.not_false]) | (refine a_cond _ (by (try simp (maxSteps := 2000000) only [Ty.w, simprocAttr, W, Bool.not_true, Bool.not_false]); rfl) (fun hb => ?_) (fun hb => ?_) <;> (try simp only [hb0, decide_eq_true_eq, decide_eq_false_iff_not, simprocAttr] at hb) <;> (try (exfalso; omega))) | (refine hK _ _ ?_; clear hK; try simp only [pst0, simprocAttr]))
                    refine owp_useQ (hP _) (by (try simp only [Ty.w, simprocAttr, W, Bool.not_true, Bool.not_false]); try rfl) ?_; simp (maxSteps := 2000000) only [Ty.w, simprocAttr, W, Bool.not_true, Bool.not_false]
                    repeat' (first | (refine a_ret ?_; simp (maxSteps := 2000000) only [Ty.w, simprocAttr, W, Bool.not_true, Bool.not_false]) | (refine hK _ _ ?_; clear hK; try simp only [pst0, simprocAttr]))
                    all_goals rfl
                   | true =>
                    try simp only [Bool.true_and, Bool.and_true] at hF
                    subst hF
                    have W := And.intro g1 (And.intro g5 (And.intro g6 (And.intro g7 (And.intro g8 (And.intro g9 (And.intro wa (And.intro wb (And.intro wc (And.intro wd (And.intro we (And.intro wf (And.intro k1 (And.intro k2 (And.intro k3 (And.intro k4 (And.intro k5 (And.intro k6 (And.intro k7 (And.intro k8 (And.intro k9 (And.intro k10 (And.intro k11 (And.intro q0 (And.intro q1 q2))))))))))))))))))))))))
                    repeat' (first | refine a_seq fun K hK => ?_ | (refine a_regionS ?_; simp (maxSteps := 2000000) only [Ty.w, simprocAttr, W, Bool.not_true, Bool.not_false]) | (refine a_cond _ (by (try simp (maxSteps := 2000000) only [Ty.w, simprocAttr, W, Bool.not_true, Bool.not_false]); rfl) (fun hb => ?_) (fun hb => ?_) <;> (try simp only [hb0, decide_eq_true_eq, decide_eq_false_iff_not, simprocAttr] at hb) <;> (try (exfalso; omega))) | (refine hK _ _ ?_; clear hK; try simp only [pst0, simprocAttr]))
                    refine owp_useQ (hP _) (by (try simp only [Ty.w, simprocAttr, W, Bool.not_true, Bool.not_false]); try rfl) ?_; simp (maxSteps := 2000000) only [Ty.w, simprocAttr, W, Bool.not_true, Bool.not_false]
                    repeat' (first | (refine a_ret ?_; simp (maxSteps := 2000000) only [Ty.w, simprocAttr, W, Bool.not_true, Bool.not_false]) | (refine hK _ _ ?_; clear hK; try simp only [pst0, simprocAttr]))
                    all_goals rfl
               | false =>
                simp only [k11, Bool.true_or, Bool.or_true, Bool.false_or, if_true, Bool.false_eq_true, if_false] at hF
                subst hF
                repeat' (first | refine a_seq fun K hK => ?_ | (refine a_block ?_) | ((first | refine a_regionS ?_ | refine a_ret ?_); simp (maxSteps := 2000000) only [Ty.w, simprocAttr, g1, g5, g6, g7, g8, g9, Bool.not_true, Bool.not_false, wa, wb, wc, wd, we, wf, k1, k2, k3, k4, k5, k6, k7, k8, k9, k10, k11]) | (refine a_skip ?_; try simp only [pst0, simprocAttr]) | (refine a_cond _ (by (try simp (maxSteps := 2000000) only [Ty.w, simprocAttr, g1, g5, g6, g7, g8, g9, Bool.not_true, Bool.not_false, wa, wb, wc, wd, we, wf, k1, k2, k3, k4, k5, k6, k7, k8, k9, k10, k11]); rfl) (fun hb => ?_) (fun hb => ?_) <;> (try simp only [hb0, decide_eq_true_eq, decide_eq_false_iff_not, simprocAttr] at hb) <;> (try (exfalso; omega))) | (refine hK _ _ ?_; clear hK; try simp only [pst0, simprocAttr]))
end Go.Proofs.Ytjlkapgpjamnkaa
namespace Go.Proofs.Ytjlkapgpjamnkaa
open Go.AM
set_option maxHeartbeats 4000000
set_option maxRecDepth 20000
theorem rwriteParams_c {l : List Pm} (hl : l.length ≤ 1048576) (h : Heap) : PCall Try.prog 72 [.imm 2 (pmRows l)] h fun r h' => r = .imm 6 (Sx.rows (paramsW l)) ∧ h' = h := by
 refine PCall.frz Ty.hb_72 ?_
 have hll := pmRows_len l
 have hw : ∀ (s : ByteArray) (h : Heap), PCall Try.prog 71 [sPV s] h fun r h' => r = .agg (wordM s).cells ∧ h' = h := fun s h => rwd_c
 simp only [wordM, Sx.cells, Sx.rows] at hw
 refine pcall_body (ow := fun _ => false) (wf := fun _ => false) Ty.mixed Try.func72 rfl Ty.hb_72 (by rw [Try.ntmps72]; simp) ?_
 rw [Try.ntmps72, Try.results72]
 repeat' (first | refine a_seq fun K hK => ?_ | (refine a_block ?_) | (refine a_regionS ?_; simp (maxSteps := 2000000) only [Ty.w, simprocAttr, hll]) | (refine hK _ _ ?_; clear hK; try simp only [pst0, simprocAttr]))
 refine a_loop (fun m S h' => S 0 = .imm 2 (pmRows l) ∧ ∃ (k : Nat) (o : PV), S 4 = .sc (.int .i64 k) ∧ S 3 = o ∧ k ≤ l.length ∧ m = l.length - k ∧ Grow h h' ∧ Tl h' h.next 6 o (Sx.rows (paramsW (l.take k)))) l.length ?_ ?_
 ·simp only [Ty.w, simprocAttr]
  exact ⟨0, _, rfl, rfl, by omega, rfl, Grow.refl _, Tl.nil⟩
 ·rintro m S h' ⟨g0, k, o, g4, g3, hk, rfl, hg, tl⟩
  by_cases hlt : k < l.length
  ·have hd : decide ((k : Int) < (l.length : Int)) = true := by simp; omega
   have w7 : IntKind.i64.wrap ((k : Int) + 1) = k + 1 := by rw [wrap64 (by omega) (by omega)]
   obtain ⟨p, hx⟩ : ∃ p, l[k]? = some p := ⟨_, List.getElem?_eq_getElem hlt⟩
   have hr := pmRows_get hx
   obtain ⟨H, t1, t2, t3, t4, t5⟩ := tl.tail
   have hpr : (Sx.rows (paramsW (l.take k))).length = 3 * k := by rw [Sx.rows_len, paramsW_len, List.length_take]; omega
   have hb : (3 * k + 3) * 72 ≤ 140737488355328 := by omega
   have hR : Sx.rows (paramsW (l.take (k + 1))) = Sx.rows (paramsW (l.take k)) ++ [[.sc (.int .i64 1), .sc (.int .i64 0), .sc (.int .i64 0), .sc (.int .i64 0), sPV p.name, .imm 6 []], [.sc (.int .i64 1), .sc (.int .i64 0), .sc (.int .i64 0), .sc (.int .i64 0), sPV ⟨#[45]⟩, .imm 6 []], [.sc (.int .i64 1), .sc (.int .i64 0), .sc (.int .i64 0), .sc (.int .i64 0), sPV p.type, .imm 6 []]] := by
    rw [List.take_add_one, hx, paramsW_append]
    simp only [Sx.rows_map, List.map_append, Option.toList_some, paramsW, List.map_cons, List.map_nil, wordM, Sx.cells]
   generalize Sx.rows (paramsW (l.take k)) = R at tl t1 t2 hpr hR
   have W := And.intro g0 (And.intro g4 (And.intro g3 (And.intro hr (And.intro w7 (And.intro t1 (And.intro t2 (And.intro hpr hb)))))))
   repeat' (first | refine a_seq fun K hK => ?_ | (refine a_block ?_) | ((first | refine a_regionS ?_ | refine a_draw (by decide +kernel) (fun K hK => ?_)); simp (maxSteps := 2000000) only [Ty.w, simprocAttr, W, hd, hll]) | (refine a_skip ?_; try simp only [pst0, simprocAttr]) | (refine a_cond _ (by (try simp (maxSteps := 2000000) only [Ty.w, simprocAttr, W, hd, hll]); rfl) (fun hb => ?_) (fun hb => ?_) <;> (try simp only [hb0, decide_eq_true_eq, decide_eq_false_iff_not, simprocAttr] at hb) <;> (try (exfalso; omega))) | (refine hK _ _ ?_; clear hK; try simp only [pst0, simprocAttr]))
   (first | refine a_dcall0 (hw p.name _) (by (try simp only [Ty.w, simprocAttr, W]); try rfl) ?_ | refine a_dcallA (hw p.name _) (by (try simp only [Ty.w, simprocAttr, W]); try rfl) (by simp only [Ty.w, simprocAttr, W]; try trivial) ?_); simp (maxSteps := 2000000) only [Ty.w, simprocAttr, W, Option.getD_some]
   skip
   (first | refine a_dcall0 (hw ⟨#[45]⟩ _) (by (try simp only [Ty.w, simprocAttr, W]); try rfl) ?_ | refine a_dcallA (hw ⟨#[45]⟩ _) (by (try simp only [Ty.w, simprocAttr, W]); try rfl) (by simp only [Ty.w, simprocAttr, W]; try trivial) ?_); simp (maxSteps := 2000000) only [Ty.w, simprocAttr, W, Option.getD_some]
   skip
   (first | refine a_dcall0 (hw p.type _) (by (try simp only [Ty.w, simprocAttr, W]); try rfl) ?_ | refine a_dcallA (hw p.type _) (by (try simp only [Ty.w, simprocAttr, W]); try rfl) (by simp only [Ty.w, simprocAttr, W]; try trivial) ?_); simp (maxSteps := 2000000) only [Ty.w, simprocAttr, W, Option.getD_some]
   repeat' (first | (refine a_regionS ?_; simp (maxSteps := 2000000) only [Ty.w, simprocAttr, W]) | (refine hK _ _ ?_; clear hK; try simp only [pst0, simprocAttr]) | (with_reducible refine a_past2 (by simp only [List.forall_mem_cons, Ty.w, simprocAttr, g0, g4, g3, hr, w7, t1, t2, hpr, hb]; (repeat' apply And.intro) <;> first | trivial | exact .inl (by decide +kernel)) ?_; try simp (maxSteps := 2000000) only [Ty.w, simprocAttr, W]) | (rw [if_pos]; rotate_left 1; omega; simp (maxSteps := 2000000) only [Ty.w, simprocAttr, W]))
   have hkp := t5 h ⟨hg.le, hg.old⟩ (Nat.le_refl _)
   have hgH : Grow h H := ⟨hkp.1, hkp.2⟩
   rw [← hR]
   have hRl : 3 * k + 3 = (Sx.rows (paramsW (l.take (k + 1)))).length := by rw [Sx.rows_len, paramsW_len, List.length_take]; omega
   exact ⟨l.length - (k + 1), by omega, k + 1, .own H.next 0 (3 * k + 3), by simp, by first | rfl | rw [t3], by omega, rfl, hgH.new _, Tl.grow hkp.1 hRl⟩
  ·have hd : decide ((k : Int) < (l.length : Int)) = false := by simp; omega
   have hke : k = l.length := by omega
   subst hke
   rw [List.take_length] at tl
   repeat' (first | refine a_seq fun K hK => ?_ | ((first | refine a_regionS ?_ | refine a_ret ?_); simp (maxSteps := 2000000) only [Ty.w, simprocAttr, g0, g4, g3, hd, hll]) | (refine a_exit ?_; try simp only [pst0, simprocAttr]) | (refine a_cond _ (by (try simp (maxSteps := 2000000) only [Ty.w, simprocAttr, g0, g4, g3, hd, hll]); rfl) (fun hb => ?_) (fun hb => ?_) <;> (try simp only [hb0, decide_eq_true_eq, decide_eq_false_iff_not, simprocAttr] at hb) <;> (try (exfalso; omega))) | ((first | refine hK _ _ ?_ | (clear hK; refine hK _ _ ?_)); clear hK; try simp only [pst0, simprocAttr]))
   exact ⟨tl_frzX tl, hg⟩
theorem rwriteF_c : ∀ f : Fm, f.small → shapedF f = true → ∀ h : Heap, PCall Try.prog 31 [.agg f.cells] h fun r h' => r = .agg (fmW f).cells ∧ h' = h := by
 refine Fm.ind ?_
 intro op name args params exprs kids ih hsm hsh h
 simp only [Fm.small] at hsm
 obtain ⟨hal, hpl, hes, hkl, hks⟩ := hsm
 rw [Ex.smalls_iff] at hes
 rw [Fm.smalls_iff] at hks
 simp only [shapedF, Bool.and_eq_true] at hsh
 obtain ⟨⟨hpo, hse⟩, hsk⟩ := hsh
 rw [shapedFs_iff] at hsk
 rw [List.all_eq_true] at hse
 have hlK := Fm.rows_len kids
 unfold fmW
 refine PCall.frz Ty.hb_31 ?_
 cases k1 : (op.data.toList == (#[97, 116, 111, 109] : Array UInt8).toList) with
 | true =>
  rw [if_pos (show bEq op opAtom = true from k1)]
  have hw : ∀ h : Heap, PCall Try.prog 70 [sPV name, .imm 1 (strRows args)] h fun r h' => r = .agg (wordsM name args).cells ∧ h' = h := fun h => rlist_c hal
  have hfz := fun (n : Nat) (h : Heap) => sx_frz n h (wordsM name args)
  simp only [Fm.cells]
  generalize wordsM name args = X at hw hfz ⊢
  obtain ⟨ki, va, li, co, te, ks⟩ := X
  simp only [Sx.cells] at hw hfz ⊢
  refine pcall_body (ow := fun _ => false) (wf := fun _ => false) Ty.mixed Try.func31 rfl Ty.hb_31 (by rw [Try.ntmps31]; simp) ?_
  rw [Try.ntmps31, Try.results31]
  repeat' (first | refine a_seq fun K hK => ?_ | (refine a_regionS ?_; simp (maxSteps := 2000000) only [Ty.w, simprocAttr, k1]) | (refine hK _ _ ?_; clear hK; try simp only [pst0, simprocAttr]))
  refine owp_useQ (hw _) (by (try simp only [Ty.w, simprocAttr, k1]); try rfl) ?_; simp (maxSteps := 2000000) only [Ty.w, simprocAttr, k1]
  repeat' (first | (refine a_ret ?_; simp (maxSteps := 2000000) only [Ty.w, simprocAttr]) | (refine hK _ _ ?_; clear hK; try simp only [pst0, simprocAttr]))
  refine ⟨?_, ((Grow.refl h).new _).set (Nat.le_refl _) _⟩
  simp only [FrzTo]
  exact ⟨_, rfl, hfz _ _⟩
 | false =>
  cases k2 : (op.data.toList == (#[115, 97, 109, 101] : Array UInt8).toList) with
  | true =>
   rw [if_neg (by rw [(show bEq op opAtom = false from k1)]; simp)]
   rw [if_pos (show bEq op opSame = true from k2)]
   have hw : ∀ h : Heap, PCall Try.prog 70 [sPV ⟨#[61]⟩, .imm 1 (strRows args)] h fun r h' => r = .agg (wordsM opEq args).cells ∧ h' = h := fun h => rlist_c hal
   have hfz := fun (n : Nat) (h : Heap) => sx_frz n h (wordsM opEq args)
   simp only [Fm.cells]
   generalize wordsM opEq args = X at hw hfz ⊢
   obtain ⟨ki, va, li, co, te, ks⟩ := X
   simp only [Sx.cells] at hw hfz ⊢
   refine pcall_body (ow := fun _ => false) (wf := fun _ => false) Ty.mixed Try.func31 rfl Ty.hb_31 (by rw [Try.ntmps31]; simp) ?_
   rw [Try.ntmps31, Try.results31]
   repeat' (first | refine a_seq fun K hK => ?_ | (refine a_regionS ?_; simp (maxSteps := 2000000) only [Ty.w, simprocAttr, k1, k2]) | (refine hK _ _ ?_; clear hK; try simp only [pst0, simprocAttr]))
   refine owp_useQ (hw _) (by (try simp only [Ty.w, simprocAttr, k1, k2]); try rfl) ?_; simp (maxSteps := 2000000) only [Ty.w, simprocAttr, k1, k2]
   repeat' (first | (refine a_ret ?_; simp (maxSteps := 2000000) only [Ty.w, simprocAttr]) | (refine hK _ _ ?_; clear hK; try simp only [pst0, simprocAttr]))
   refine ⟨?_, ((Grow.refl h).new _).set (Nat.le_refl _) _⟩
   simp only [FrzTo]
   exact ⟨_, rfl, hfz _ _⟩
  | false =>
   rw [if_neg (by rw [(show bEq op opAtom = false from k1)]; simp), if_neg (by rw [(show bEq op opSame = false from k2)]; simp)]
   cases k3 : (op.data.toList == (#[60] : Array UInt8).toList) with
   | true =>
    rw [if_pos (by simp [isCmp, (show bEq op opAtom = false from k1), (show bEq op opSame = false from k2), (show bEq op opLt = true from k3)])]
    have hx2 : exprs.length = 2 := by have q := hpo; simp [partsOk, shapeOf, (show bEq op opAtom = false from k1), (show bEq op opSame = false from k2), (show bEq op opLt = true from k3)] at q; omega
    obtain ⟨a, b, rfl⟩ : ∃ a b, exprs = [a, b] := by
     match exprs, hx2 with
     | [a, b], _ => exact ⟨a, b, rfl⟩
    have ca := rwriteE_c a (hes a (by simp)) (hse a (by simp))
    have cb := rwriteE_c b (hes b (by simp)) (hse b (by simp))
    have hw := fun h : Heap => rwd_c (h := h) (s := op)
    simp only [List.map_cons, List.map_nil]
    have hfz := fun (n : Nat) (h : Heap) => sx_frz n h (listM [wordM op, exW a, exW b])
    generalize exW a = xa at ca hfz ⊢
    generalize exW b = xb at cb hfz ⊢
    clear ih hks hpo hse hsk hes
    obtain ⟨aop, aname, an, aargs, akids⟩ := a
    obtain ⟨bop, bname, bn, bargs, bkids⟩ := b
    obtain ⟨ki, va, li, co, te, ks⟩ := xa
    obtain ⟨ki2, va2, li2, co2, te2, ks2⟩ := xb
    simp only [Fm.cells, Ex.cells, Ex.rows, listM, Sx.cells, Sx.rows, wordM] at ca cb hw hfz ⊢
    refine pcall_body (ow := fun _ => false) (wf := fun _ => false) Ty.mixed Try.func31 rfl Ty.hb_31 (by rw [Try.ntmps31]; simp) ?_
    rw [Try.ntmps31, Try.results31]
    repeat' (first | refine a_seq fun K hK => ?_ | ((first | refine a_regionS ?_ | refine a_drawS (by decide +kernel) ?_); simp (maxSteps := 2000000) only [Ty.w, simprocAttr, k1, k2, k3]) | (refine a_skip ?_; try simp only [pst0, simprocAttr]) | (refine a_cond _ (by (try simp (maxSteps := 2000000) only [Ty.w, simprocAttr, k1, k2, k3]); rfl) (fun hb => ?_) (fun hb => ?_) <;> (try simp only [hb0, decide_eq_true_eq, decide_eq_false_iff_not, simprocAttr] at hb) <;> (try (exfalso; omega))) | (refine hK _ _ ?_; clear hK; try simp only [pst0, simprocAttr]))
    (first | refine a_dcall0 (hw _) (by (try simp only [Ty.w, simprocAttr, ]); try rfl) ?_ | refine a_dcallA (hw _) (by (try simp only [Ty.w, simprocAttr, ]); try rfl) (by simp only [Ty.w, simprocAttr, ]; try trivial) ?_); simp (maxSteps := 2000000) only [Ty.w, simprocAttr, Option.getD_some, ]
    skip
    (first | refine a_dcall0 (ca _) (by (try simp only [Ty.w, simprocAttr, ]); try rfl) ?_ | refine a_dcallA (ca _) (by (try simp only [Ty.w, simprocAttr, ]); try rfl) (by simp only [Ty.w, simprocAttr, ]; try trivial) ?_); simp (maxSteps := 2000000) only [Ty.w, simprocAttr, Option.getD_some, ]
    skip
    (first | refine a_dcall0 (cb _) (by (try simp only [Ty.w, simprocAttr, ]); try rfl) ?_ | refine a_dcallA (cb _) (by (try simp only [Ty.w, simprocAttr, ]); try rfl) (by simp only [Ty.w, simprocAttr, ]; try trivial) ?_); simp (maxSteps := 2000000) only [Ty.w, simprocAttr, Option.getD_some, ]
    repeat' (first | (refine a_ret ?_; simp (maxSteps := 2000000) only [Ty.w, simprocAttr]) | (refine hK _ _ ?_; clear hK; try simp only [pst0, simprocAttr]) | (with_reducible refine a_past2 (by simp only [List.forall_mem_cons, Ty.w, simprocAttr]; (repeat' apply And.intro) <;> first | trivial | exact .inl (by decide +kernel)) ?_; try simp (maxSteps := 2000000) only [Ty.w, simprocAttr]))
    refine ⟨?_, ((Grow.refl h).new _).set (Nat.le_refl _) _⟩
    simp only [FrzTo]
    exact ⟨_, rfl, hfz _ _⟩
   | false =>
    cases k4 : (op.data.toList == (#[60, 61] : Array UInt8).toList) with
    | true =>
     rw [if_pos (by simp [isCmp, (show bEq op opAtom = false from k1), (show bEq op opSame = false from k2), (show bEq op opLt = false from k3), (show bEq op opLe = true from k4)])]
     have hx2 : exprs.length = 2 := by have q := hpo; simp [partsOk, shapeOf, (show bEq op opAtom = false from k1), (show bEq op opSame = false from k2), (show bEq op opLt = false from k3), (show bEq op opLe = true from k4)] at q; omega
     obtain ⟨a, b, rfl⟩ : ∃ a b, exprs = [a, b] := by
      match exprs, hx2 with
      | [a, b], _ => exact ⟨a, b, rfl⟩
     have ca := rwriteE_c a (hes a (by simp)) (hse a (by simp))
     have cb := rwriteE_c b (hes b (by simp)) (hse b (by simp))
     have hw := fun h : Heap => rwd_c (h := h) (s := op)
     simp only [List.map_cons, List.map_nil]
     have hfz := fun (n : Nat) (h : Heap) => sx_frz n h (listM [wordM op, exW a, exW b])
     generalize exW a = xa at ca hfz ⊢
     generalize exW b = xb at cb hfz ⊢
     clear ih hks hpo hse hsk hes
     obtain ⟨aop, aname, an, aargs, akids⟩ := a
     obtain ⟨bop, bname, bn, bargs, bkids⟩ := b
     obtain ⟨ki, va, li, co, te, ks⟩ := xa
     obtain ⟨ki2, va2, li2, co2, te2, ks2⟩ := xb
     simp only [Fm.cells, Ex.cells, Ex.rows, listM, Sx.cells, Sx.rows, wordM] at ca cb hw hfz ⊢
     refine pcall_body (ow := fun _ => false) (wf := fun _ => false) Ty.mixed Try.func31 rfl Ty.hb_31 (by rw [Try.ntmps31]; simp) ?_
     rw [Try.ntmps31, Try.results31]
     repeat' (first | refine a_seq fun K hK => ?_ | ((first | refine a_regionS ?_ | refine a_drawS (by decide +kernel) ?_); simp (maxSteps := 2000000) only [Ty.w, simprocAttr, k1, k2, k3, k4]) | (refine a_skip ?_; try simp only [pst0, simprocAttr]) | (refine a_cond _ (by (try simp (maxSteps := 2000000) only [Ty.w, simprocAttr, k1, k2, k3, k4]); rfl) (fun hb => ?_) (fun hb => ?_) <;> (try simp only [hb0, decide_eq_true_eq, decide_eq_false_iff_not, simprocAttr] at hb) <;> (try (exfalso; omega))) | (refine hK _ _ ?_; clear hK; try simp only [pst0, simprocAttr]))
     (first | refine a_dcall0 (hw _) (by (try simp only [Ty.w, simprocAttr, ]); try rfl) ?_ | refine a_dcallA (hw _) (by (try simp only [Ty.w, simprocAttr, ]); try rfl) (by simp only [Ty.w, simprocAttr, ]; try trivial) ?_); simp (maxSteps := 2000000) only [Ty.w, simprocAttr, Option.getD_some, ]
     skip
     (first | refine a_dcall0 (ca _) (by (try simp only [Ty.w, simprocAttr, ]); try rfl) ?_ | refine a_dcallA (ca _) (by (try simp only [Ty.w, simprocAttr, ]); try rfl) (by simp only [Ty.w, simprocAttr, ]; try trivial) ?_); simp (maxSteps := 2000000) only [Ty.w, simprocAttr, Option.getD_some, ]
     skip
     (first | refine a_dcall0 (cb _) (by (try simp only [Ty.w, simprocAttr, ]); try rfl) ?_ | refine a_dcallA (cb _) (by (try simp only [Ty.w, simprocAttr, ]); try rfl) (by simp only [Ty.w, simprocAttr, ]; try trivial) ?_); simp (maxSteps := 2000000) only [Ty.w, simprocAttr, Option.getD_some, ]
     repeat' (first | (refine a_ret ?_; simp (maxSteps := 2000000) only [Ty.w, simprocAttr]) | (refine hK _ _ ?_; clear hK; try simp only [pst0, simprocAttr]) | (with_reducible refine a_past2 (by simp only [List.forall_mem_cons, Ty.w, simprocAttr]; (repeat' apply And.intro) <;> first | trivial | exact .inl (by decide +kernel)) ?_; try simp (maxSteps := 2000000) only [Ty.w, simprocAttr]))
     refine ⟨?_, ((Grow.refl h).new _).set (Nat.le_refl _) _⟩
     simp only [FrzTo]
     exact ⟨_, rfl, hfz _ _⟩
    | false =>
     cases k5 : (op.data.toList == (#[61] : Array UInt8).toList) with
     | true =>
      rw [if_pos (by simp [isCmp, (show bEq op opAtom = false from k1), (show bEq op opSame = false from k2), (show bEq op opLt = false from k3), (show bEq op opLe = false from k4), (show bEq op opEq = true from k5)])]
      have hx2 : exprs.length = 2 := by have q := hpo; simp [partsOk, shapeOf, (show bEq op opAtom = false from k1), (show bEq op opSame = false from k2), (show bEq op opLt = false from k3), (show bEq op opLe = false from k4), (show bEq op opEq = true from k5)] at q; omega
      obtain ⟨a, b, rfl⟩ : ∃ a b, exprs = [a, b] := by
       match exprs, hx2 with
       | [a, b], _ => exact ⟨a, b, rfl⟩
      have ca := rwriteE_c a (hes a (by simp)) (hse a (by simp))
      have cb := rwriteE_c b (hes b (by simp)) (hse b (by simp))
      have hw := fun h : Heap => rwd_c (h := h) (s := op)
      simp only [List.map_cons, List.map_nil]
      have hfz := fun (n : Nat) (h : Heap) => sx_frz n h (listM [wordM op, exW a, exW b])
      generalize exW a = xa at ca hfz ⊢
      generalize exW b = xb at cb hfz ⊢
      clear ih hks hpo hse hsk hes
      obtain ⟨aop, aname, an, aargs, akids⟩ := a
      obtain ⟨bop, bname, bn, bargs, bkids⟩ := b
      obtain ⟨ki, va, li, co, te, ks⟩ := xa
      obtain ⟨ki2, va2, li2, co2, te2, ks2⟩ := xb
      simp only [Fm.cells, Ex.cells, Ex.rows, listM, Sx.cells, Sx.rows, wordM] at ca cb hw hfz ⊢
      refine pcall_body (ow := fun _ => false) (wf := fun _ => false) Ty.mixed Try.func31 rfl Ty.hb_31 (by rw [Try.ntmps31]; simp) ?_
      rw [Try.ntmps31, Try.results31]
      repeat' (first | refine a_seq fun K hK => ?_ | ((first | refine a_regionS ?_ | refine a_drawS (by decide +kernel) ?_); simp (maxSteps := 2000000) only [Ty.w, simprocAttr, k1, k2, k3, k4, k5]) | (refine a_cond _ (by (try simp (maxSteps := 2000000) only [Ty.w, simprocAttr, k1, k2, k3, k4, k5]); rfl) (fun hb => ?_) (fun hb => ?_) <;> (try simp only [hb0, decide_eq_true_eq, decide_eq_false_iff_not, simprocAttr] at hb) <;> (try (exfalso; omega))) | (refine hK _ _ ?_; clear hK; try simp only [pst0, simprocAttr]))
      (first | refine a_dcall0 (hw _) (by (try simp only [Ty.w, simprocAttr, ]); try rfl) ?_ | refine a_dcallA (hw _) (by (try simp only [Ty.w, simprocAttr, ]); try rfl) (by simp only [Ty.w, simprocAttr, ]; try trivial) ?_); simp (maxSteps := 2000000) only [Ty.w, simprocAttr, Option.getD_some, ]
      skip
      (first | refine a_dcall0 (ca _) (by (try simp only [Ty.w, simprocAttr, ]); try rfl) ?_ | refine a_dcallA (ca _) (by (try simp only [Ty.w, simprocAttr, ]); try rfl) (by simp only [Ty.w, simprocAttr, ]; try trivial) ?_); simp (maxSteps := 2000000) only [Ty.w, simprocAttr, Option.getD_some, ]
      skip
      (first | refine a_dcall0 (cb _) (by (try simp only [Ty.w, simprocAttr, ]); try rfl) ?_ | refine a_dcallA (cb _) (by (try simp only [Ty.w, simprocAttr, ]); try rfl) (by simp only [Ty.w, simprocAttr, ]; try trivial) ?_); simp (maxSteps := 2000000) only [Ty.w, simprocAttr, Option.getD_some, ]
      repeat' (first | (refine a_ret ?_; simp (maxSteps := 2000000) only [Ty.w, simprocAttr]) | (refine hK _ _ ?_; clear hK; try simp only [pst0, simprocAttr]) | (with_reducible refine a_past2 (by simp only [List.forall_mem_cons, Ty.w, simprocAttr]; (repeat' apply And.intro) <;> first | trivial | exact .inl (by decide +kernel)) ?_; try simp (maxSteps := 2000000) only [Ty.w, simprocAttr]))
      refine ⟨?_, ((Grow.refl h).new _).set (Nat.le_refl _) _⟩
      simp only [FrzTo]
      exact ⟨_, rfl, hfz _ _⟩
     | false =>
      rw [if_neg (by simp [isCmp, (show bEq op opLt = false from k3), (show bEq op opLe = false from k4), (show bEq op opEq = false from k5)])]
      clear hse hes hpo
      have n6 : bEq op opAnd = (op.data.toList == (#[97, 110, 100] : Array UInt8).toList) := rfl
      by_cases hz : (bEq op opAnd && kids.isEmpty) = true
      ·have hz2 := hz
       rw [Bool.and_eq_true] at hz2
       have k6 : (op.data.toList == (#[97, 110, 100] : Array UInt8).toList) = true := hz2.1
       have hk0 : kids = [] := List.isEmpty_iff.1 hz2.2
       have hq : isQ op = false := by rw [bEq_eq hz2.1]; try rfl
       subst hk0
       rw [if_pos hz, hq]
       simp only [Bool.false_eq_true, if_false, fmWs, List.append_nil, Fm.cells, Fm.rows]
       refine pcall_body (ow := fun _ => false) (wf := fun _ => false) Ty.mixed Try.func31 rfl Ty.hb_31 (by rw [Try.ntmps31]; simp) ?_
       rw [Try.ntmps31, Try.results31]
       repeat' (first | refine a_seq fun K hK => ?_ | (refine a_block ?_) | ((first | refine a_regionS ?_ | refine a_ret ?_); simp (maxSteps := 2000000) only [Ty.w, simprocAttr, k1, k2, k3, k4, k5, k6]) | (refine a_skip ?_; try simp only [pst0, simprocAttr]) | (refine a_cond _ (by (try simp (maxSteps := 2000000) only [Ty.w, simprocAttr, k1, k2, k3, k4, k5, k6]); rfl) (fun hb => ?_) (fun hb => ?_) <;> (try simp only [hb0, decide_eq_true_eq, decide_eq_false_iff_not, simprocAttr] at hb) <;> (try (exfalso; omega))) | (refine hK _ _ ?_; clear hK; try simp only [pst0, simprocAttr]))
       refine ⟨?_, ((Grow.refl h).new _).set (Nat.le_refl _) _⟩
       simp only [listM, Sx.cells, Sx.rows, FrzTo, FrzL]
       exact ⟨_, rfl, rfl, rfl, rfl, rfl, rfl, .inr (.inl ⟨rfl, .inr rfl⟩), trivial⟩
      ·rw [if_neg hz]
       have hw : ∀ (s : ByteArray) (h : Heap), PCall Try.prog 71 [sPV s] h fun r h' => r = .agg (wordM s).cells ∧ h' = h := fun s h => rwd_c
       simp only [wordM, Sx.cells, Sx.rows] at hw
       simp only [Fm.cells]
       refine pcall_body (ow := fun t => t == 51) (wf := fun _ => false) Ty.mixed Try.func31 rfl Ty.hb_31 (by rw [Try.ntmps31]; simp) ?_
       rw [Try.ntmps31, Try.results31]
       repeat' (first | (with_reducible refine a_hold 10 ?_) | refine a_seq fun K hK => ?_ | (refine a_block ?_) | (refine a_regionS ?_; simp (maxSteps := 2000000) only [Ty.w, simprocAttr, k1, k2, k3, k4, k5]) | (refine a_skip ?_; try simp only [pst0, simprocAttr]) | (refine a_cond _ (by (try simp (maxSteps := 2000000) only [Ty.w, simprocAttr, k1, k2, k3, k4, k5]); rfl) (fun hb => ?_) (fun hb => ?_) <;> (try simp only [hb0, decide_eq_true_eq, decide_eq_false_iff_not, simprocAttr] at hb) <;> (try (exfalso; omega))) | (refine hK _ _ ?_; clear hK; try simp only [pst0, simprocAttr]))
       refine ⟨?_⟩
       refine a_cut (fun S h' => S 1 = .cptr (Fm.mk op name args params exprs kids).cells ∧ S 2 = .ptr h.next 0 0 ∧ h' = h.new (.arr 6 [[.sc (.int .i64 0), .sc (.int .i64 0), .sc (.int .i64 0), .sc (.int .i64 0), .sc (.string ⟨#[]⟩), .sc (.slice none 0 0)]])) ?_ ?_
       ·cases k6 : (op.data.toList == (#[97, 110, 100] : Array UInt8).toList) with
        | false =>
         repeat' (first | refine a_seq fun K hK => ?_ | (refine a_regionS ?_; simp (maxSteps := 2000000) only [Ty.w, simprocAttr, k6]) | (refine a_skip ?_; try simp only [pst0, simprocAttr]) | (refine a_cond _ (by (try simp (maxSteps := 2000000) only [Ty.w, simprocAttr, k6]); rfl) (fun hb => ?_) (fun hb => ?_) <;> (try simp only [hb0, decide_eq_true_eq, decide_eq_false_iff_not, simprocAttr] at hb) <;> (try (exfalso; omega))) | (refine hK _ _ ?_; clear hK; try simp only [pst0, simprocAttr]))
         all_goals first | rfl | trivial | ((try refine ⟨?_, ?_, ?_⟩) <;> first | rfl | trivial) | ((try refine ⟨?_, ?_⟩) <;> first | rfl | trivial)
        | true =>
         have hk0 : ((kids.length : Int) == 0) = false := by
          cases kids with
          | nil => exact absurd (by rw [n6, k6]; try rfl) hz
          | cons a l => simp; omega
         repeat' (first | refine a_seq fun K hK => ?_ | (refine a_regionS ?_; simp (maxSteps := 2000000) only [Ty.w, simprocAttr, k6, hk0, hlK]) | (refine a_skip ?_; try simp only [pst0, simprocAttr]) | (refine a_cond _ (by (try simp (maxSteps := 2000000) only [Ty.w, simprocAttr, k6, hk0, hlK]); rfl) (fun hb => ?_) (fun hb => ?_) <;> (try simp only [hb0, decide_eq_true_eq, decide_eq_false_iff_not, simprocAttr] at hb) <;> (try (exfalso; omega))) | (refine hK _ _ ?_; clear hK; try simp only [pst0, simprocAttr]))
         all_goals first | rfl | trivial | ((try refine ⟨?_, ?_, ?_⟩) <;> first | rfl | trivial) | ((try refine ⟨?_, ?_⟩) <;> first | rfl | trivial)
       ·rintro S h' ⟨g1, g2, rfl⟩
        simp only [Fm.cells] at g1
        repeat' (first | refine a_seq fun K hK => ?_ | (refine a_regionS ?_; simp (maxSteps := 2000000) only [Ty.w, simprocAttr, g1, g2]))
        refine owp_useQ (hw op _) (by (try simp only [Ty.w, simprocAttr, g1, g2]); try rfl) ?_; simp (maxSteps := 2000000) only [Ty.w, simprocAttr, g1, g2]
        repeat' (first | (with_reducible refine a_hold 13 ?_) | (refine hK _ _ ?_; clear hK; try simp only [pst0, simprocAttr]))
        refine ⟨?_⟩
        refine a_cut (fun S h' => S 1 = .cptr (Fm.mk op name args params exprs kids).cells ∧ S 2 = .ptr h.next 0 0 ∧ ∃ id, S 3 = .own id 0 (wordM op :: (if isQ op = true then [listM (paramsW params)] else [])).length ∧ Grow h h' ∧ h.next < id ∧ id < h'.next ∧ h'.obj h.next = some (.arr 6 [[.sc (.int .i64 0), .sc (.int .i64 0), .sc (.int .i64 0), .sc (.int .i64 0), .sc (.string ⟨#[]⟩), .sc (.slice none 0 0)]]) ∧ h'.obj id = some (.arr 6 (Sx.rows (wordM op :: (if isQ op = true then [listM (paramsW params)] else []))))) ?_ ?_
        ·have n7 : bEq op opAll = (op.data.toList == (#[102, 111, 114, 97, 108, 108] : Array UInt8).toList) := rfl
         have n8 : bEq op opSome = (op.data.toList == (#[101, 120, 105, 115, 116, 115] : Array UInt8).toList) := rfl
         cases k7 : (op.data.toList == (#[102, 111, 114, 97, 108, 108] : Array UInt8).toList) with
         | true =>
          rw [if_pos (by simp [isQ, n7, n8, k7])]
          have hwp := rwriteParams_c (l := params) hpl
          simp only [listM, wordM, Sx.rows, Sx.cells, List.length_cons, List.length_nil]
          generalize Sx.rows (paramsW params) = PR at hwp ⊢
          repeat' (first | refine a_seq fun K hK => ?_ | (refine a_regionS ?_; simp (maxSteps := 2000000) only [Ty.w, simprocAttr, g1, g2, k7, nsucc, Nat.add_eq_left, Nat.one_ne_zero]) | (refine a_cond _ (by (try simp (maxSteps := 2000000) only [Ty.w, simprocAttr, g1, g2, k7, nsucc, Nat.add_eq_left, Nat.one_ne_zero]); rfl) (fun hb => ?_) (fun hb => ?_) <;> (try simp only [hb0, decide_eq_true_eq, decide_eq_false_iff_not, simprocAttr] at hb) <;> (try (exfalso; omega))) | (refine hK _ _ ?_; clear hK; try simp only [pst0, simprocAttr]))
          refine owp_useQ (hwp _) (by (try simp only [Ty.w, simprocAttr, g1, g2, k7]); try rfl) ?_; simp (maxSteps := 2000000) only [Ty.w, simprocAttr, g1, g2, k7]
          skip
          refine ⟨rfl, h.next + 1 + 1, ?_, ((((Grow.refl h).new _).new _).kill (Nat.le_succ _)).new _, by omega, by simp [Heap.new, Heap.kill], ?_, ?_⟩
          all_goals first | rfl | (simp [Heap.new, Heap.kill]; done) | (simp [Heap.new, Heap.kill]; omega)
         | false =>
          cases k8 : (op.data.toList == (#[101, 120, 105, 115, 116, 115] : Array UInt8).toList) with
          | true =>
           rw [if_pos (by simp [isQ, n7, n8, k7, k8])]
           have hwp := rwriteParams_c (l := params) hpl
           simp only [listM, wordM, Sx.rows, Sx.cells, List.length_cons, List.length_nil]
           generalize Sx.rows (paramsW params) = PR at hwp ⊢
           repeat' (first | refine a_seq fun K hK => ?_ | (refine a_regionS ?_; simp (maxSteps := 2000000) only [Ty.w, simprocAttr, g1, g2, k7, k8, nsucc, Nat.add_eq_left, Nat.one_ne_zero]) | (refine a_cond _ (by (try simp (maxSteps := 2000000) only [Ty.w, simprocAttr, g1, g2, k7, k8, nsucc, Nat.add_eq_left, Nat.one_ne_zero]); rfl) (fun hb => ?_) (fun hb => ?_) <;> (try simp only [hb0, decide_eq_true_eq, decide_eq_false_iff_not, simprocAttr] at hb) <;> (try (exfalso; omega))) | (refine hK _ _ ?_; clear hK; try simp only [pst0, simprocAttr]))
           refine owp_useQ (hwp _) (by (try simp only [Ty.w, simprocAttr, g1, g2, k7, k8]); try rfl) ?_; simp (maxSteps := 2000000) only [Ty.w, simprocAttr, g1, g2, k7, k8]
           skip
           refine ⟨rfl, h.next + 1 + 1, ?_, ((((Grow.refl h).new _).new _).kill (Nat.le_succ _)).new _, by omega, by simp [Heap.new, Heap.kill], ?_, ?_⟩
           all_goals first | rfl | (simp [Heap.new, Heap.kill]; done) | (simp [Heap.new, Heap.kill]; omega)
          | false =>
           rw [if_neg (by simp [isQ, n7, n8, k7, k8])]
           simp only [wordM, Sx.rows, Sx.cells, List.length_cons, List.length_nil]
           repeat' (first | refine a_seq fun K hK => ?_ | (refine a_regionS ?_; simp (maxSteps := 2000000) only [Ty.w, simprocAttr, g1, g2, k7, k8]) | (refine a_skip ?_; try simp only [pst0, simprocAttr]) | (refine a_cond _ (by (try simp (maxSteps := 2000000) only [Ty.w, simprocAttr, g1, g2, k7, k8]); rfl) (fun hb => ?_) (fun hb => ?_) <;> (try simp only [hb0, decide_eq_true_eq, decide_eq_false_iff_not, simprocAttr] at hb) <;> (try (exfalso; omega))) | (refine hK _ _ ?_; clear hK; try simp only [pst0, simprocAttr]))
           (try simp (maxSteps := 2000000) only [Ty.w, simprocAttr, Ty.all, g1, g2])
           refine ⟨rfl, h.next + 1, ?_, ((Grow.refl h).new _).new _, by omega, by simp [Heap.new], ?_, ?_⟩
           all_goals first | rfl | simp [Heap.new]
        ·clear g1 g2 S
         obtain ⟨L1, hL1, hl1⟩ : ∃ L1 : List Sx, (wordM op :: (if isQ op = true then [listM (paramsW params)] else [])) = L1 ∧ L1.length ≤ 2 := ⟨_, rfl, by split <;> simp⟩
         have hfin : [wordM op] ++ (if isQ op = true then [listM (paramsW params)] else []) ++ fmWs kids = L1 ++ kids.map fmW := by rw [← hL1, fmWs_map]; try rfl
         rw [hfin, hL1]
         clear hL1 hfin
         rintro S h' ⟨g1, g2, id, g3, hg, hlo, hhi, o1, o2⟩
         simp only [Fm.cells] at g1
         have hrl : ∀ k, (L1 ++ (kids.take k).map fmW).length ≤ 1048578 := fun k => by simp; omega
         repeat' (first | refine a_seq fun K hK => ?_ | (refine a_block ?_) | (refine a_regionS ?_; simp (maxSteps := 2000000) only [Ty.w, simprocAttr, g1, g2, g3, hlK]) | (refine hK _ _ ?_; clear hK; try simp only [pst0, simprocAttr]))
         refine a_loop (fun c S h' => S 1 = .cptr (Fm.mk op name args params exprs kids).cells ∧ S 2 = .ptr h.next 0 0 ∧ ∃ k id : Nat, S 4 = .sc (.int .i64 k) ∧ S 3 = .own id 0 (L1 ++ (kids.take k).map fmW).length ∧ k ≤ kids.length ∧ c = kids.length - k ∧ Grow h h' ∧ h.next < id ∧ id < h'.next ∧ h'.obj h.next = some (.arr 6 [[.sc (.int .i64 0), .sc (.int .i64 0), .sc (.int .i64 0), .sc (.int .i64 0), .sc (.string ⟨#[]⟩), .sc (.slice none 0 0)]]) ∧ h'.obj id = some (.arr 6 (Sx.rows (L1 ++ (kids.take k).map fmW)))) kids.length ?_ ?_
         ·simp only [Ty.w, simprocAttr, g1, g2, g3]
          exact ⟨rfl, 0, id, rfl, by simp, by omega, rfl, hg, hlo, hhi, o1, by simpa using o2⟩
         ·clear g1 g2 g3 o1 o2 hg hlo hhi S
          rintro c S h' ⟨g1, g2, k, id, g4, g3, hk, rfl, hg, hlo, hhi, o1, o2⟩
          simp only [Fm.cells] at g1
          by_cases hlt : k < kids.length
          ·have hdk : decide ((k : Int) < (kids.length : Int)) = true := by simp; omega
           have w7 : IntKind.i64.wrap ((k : Int) + 1) = k + 1 := by rw [wrap64 (by omega) (by omega)]
           obtain ⟨x, hx⟩ : ∃ x, kids[k]? = some x := ⟨_, List.getElem?_eq_getElem hlt⟩
           have hmem := List.mem_of_getElem? hx
           have hr := Fm.rows_get hx
           have hcx := ih x hmem (hks x hmem) (hsk x hmem)
           have hL : L1 ++ (kids.take (k + 1)).map fmW = L1 ++ (kids.take k).map fmW ++ [fmW x] := by rw [List.take_add_one, hx]; simp
           have hrk := hrl k
           generalize L1 ++ (kids.take k).map fmW = L2 at g3 o2 hrk hL
           generalize fmW x = X at hcx hL
           obtain ⟨xo, xn, xa, xp, xe, xk⟩ := x
           obtain ⟨ki, va, li, co, te, ks⟩ := X
           simp only [Fm.cells, Sx.cells] at hr hcx
           have hR : Sx.rows (L2 ++ [.mk ki va li co te ks]) = Sx.rows L2 ++ [[.sc (.int .i64 ki), .sc (.int .i64 va), .sc (.int .i64 li), .sc (.int .i64 co), sPV te, .imm 6 (Sx.rows ks)]] := by simp [Sx.rows_map, Sx.cells]
           have hpr := Sx.rows_len L2
           generalize Sx.rows L2 = R at o2 hpr hR
           have htk : List.take L2.length R = R := List.take_of_length_le (by omega)
           have hb : (L2.length + 1) * 72 ≤ 140737488355328 := by omega
           have W := And.intro g1 (And.intro g2 (And.intro g3 (And.intro g4 (And.intro hpr (And.intro htk (And.intro o2 hb))))))
           repeat' (first | refine a_seq fun K hK => ?_ | (refine a_block ?_) | ((first | refine a_regionS ?_ | refine a_region (fun K hK => ?_)); simp (maxSteps := 2000000) only [Ty.w, simprocAttr, W, hlK, hdk, hr]) | (refine a_skip ?_; try simp only [pst0, simprocAttr]) | (refine a_cond _ (by (try simp (maxSteps := 2000000) only [Ty.w, simprocAttr, W, hlK, hdk, hr]); rfl) (fun hb => ?_) (fun hb => ?_) <;> (try simp only [hb0, decide_eq_true_eq, decide_eq_false_iff_not, simprocAttr] at hb) <;> (try (exfalso; omega))) | (refine hK _ _ ?_; clear hK; try simp only [pst0, simprocAttr]))
           refine owp_useQ (hcx _) (by (try simp only [Ty.w, simprocAttr, W]); try rfl) ?_; simp (maxSteps := 2000000) only [Ty.w, simprocAttr, W]
           repeat' (first | (refine a_regionS ?_; simp (maxSteps := 2000000) only [Ty.w, simprocAttr, W, w7]) | (refine hK _ _ ?_; clear hK; try simp only [pst0, simprocAttr]) | (rw [if_pos]; rotate_left 1; omega; simp (maxSteps := 2000000) only [Ty.w, simprocAttr, W, w7]))
           refine ⟨kids.length - (k + 1), by omega, rfl, k + 1, h'.next, by simp, ?_, by omega, rfl, (hg.kill (by omega)).new _, by omega, by simp [Heap.new, Heap.kill], ?_, ?_⟩
           ·rw [hL]; simp
           ·rw [if_neg (by omega), if_neg (by omega)]
            exact o1
           ·rw [hL, hR]; simp [Heap.new, Heap.kill]
          ·have hdk : decide ((k : Int) < (kids.length : Int)) = false := by simp; omega
           have hke : k = kids.length := by omega
           subst hke
           rw [List.take_length] at o2 g3
           repeat' (first | refine a_seq fun K hK => ?_ | ((first | refine a_regionS ?_ | refine a_ret ?_); simp (maxSteps := 2000000) only [Ty.w, simprocAttr, g1, g2, g3, g4, hlK, hdk, o1, o2]) | (refine a_exit ?_; try simp only [pst0, simprocAttr]) | (refine a_cond _ (by (try simp (maxSteps := 2000000) only [Ty.w, simprocAttr, g1, g2, g3, g4, hlK, hdk, o1, o2]); rfl) (fun hb => ?_) (fun hb => ?_) <;> (try simp only [hb0, decide_eq_true_eq, decide_eq_false_iff_not, simprocAttr] at hb) <;> (try (exfalso; omega))) | ((first | refine hK _ _ ?_ | (clear hK; refine hK _ _ ?_)); clear hK; try simp only [pst0, simprocAttr]))
           refine ⟨?_, hg.set (Nat.le_refl _) _⟩
           simp only [listM, Sx.cells, FrzTo, FrzL]
           refine ⟨_, rfl, rfl, rfl, rfl, rfl, rfl, .inr (.inr ⟨id, 0, _, Sx.rows (L1 ++ kids.map fmW), rfl, by omega, ?_, ?_, ?_⟩), trivial⟩
           ·simp only [Heap.set]; rw [if_neg (by omega)]; exact o2
           ·rw [Sx.rows_len]; omega
           ·rw [List.drop_zero, List.take_of_length_le (by rw [Sx.rows_len]; omega)]
            exact sxs_frz _ _ _
end Go.Proofs.Ytjlkapgpjamnkaa
namespace Go.Proofs.Ytjlkapgpjamnkaa
open Go.AM
set_option maxHeartbeats 4000000
set_option maxRecDepth 20000
theorem rvalidF_c {f : Fm} (hok : f.ok) (hsm : f.small) (hd : (fmW f).depth ≤ bigN) (h : Heap) : PCall Try.prog 20 [.agg f.cells] h fun r h' => r = .sc (.bool (shapedF f && rvalidB (fmW f))) ∧ h' = h := by
 have hs := rshapedF_c f hok
 cases hb : shapedF f with
 | false =>
  rw [hb] at hs
  obtain ⟨op, name, args, params, exprs, kids⟩ := f
  simp only [Fm.cells] at hs ⊢
  refine pcall_body (ow := fun _ => false) (wf := fun _ => false) Ty.mixed Try.func20 rfl Ty.hb_20 (by rw [Try.ntmps20]; simp) ?_
  rw [Try.ntmps20, Try.results20]
  repeat' (first | refine a_seq fun K hK => ?_ | (refine a_regionS ?_; simp (maxSteps := 2000000) only [Ty.w, simprocAttr]) | (refine hK _ _ ?_; clear hK; try simp only [pst0, simprocAttr]))
  refine owp_useQ (hs _) (by (try simp only [Ty.w, simprocAttr, ]); try rfl) ?_; simp (maxSteps := 2000000) only [Ty.w, simprocAttr, ]
  repeat' (first | (refine a_ret ?_; simp (maxSteps := 2000000) only [Ty.w, simprocAttr]) | (refine hK _ _ ?_; clear hK; try simp only [pst0, simprocAttr]))
  all_goals rfl
 | true =>
  rw [hb] at hs
  have hx := fmW_ok f hok hsm hb
  have hw := rwriteF_c f hsm hb
  have hv := rvalid_c hx hd
  have hq : rvalidB (fmW f) = (shapedS (fmW f) && decide (((fmW f).depth : Int) ≤ 32) && decide ((fmW f).count ≤ 4096)) := rfl
  rw [← hq] at hv
  clear hq
  generalize rvalidB (fmW f) = bb at hv ⊢
  generalize fmW f = X at hw hv
  obtain ⟨op, name, args, params, exprs, kids⟩ := f
  obtain ⟨ki, va, li, co, te, ks⟩ := X
  simp only [Fm.cells, Sx.cells, Bool.true_and] at hs hw hv ⊢
  refine pcall_body (ow := fun _ => false) (wf := fun _ => false) Ty.mixed Try.func20 rfl Ty.hb_20 (by rw [Try.ntmps20]; simp) ?_
  rw [Try.ntmps20, Try.results20]
  repeat' (first | refine a_seq fun K hK => ?_ | (refine a_regionS ?_; simp (maxSteps := 2000000) only [Ty.w, simprocAttr]) | (refine hK _ _ ?_; clear hK; try simp only [pst0, simprocAttr]))
  refine owp_useQ (hs _) (by (try simp only [Ty.w, simprocAttr, ]); try rfl) ?_; simp (maxSteps := 2000000) only [Ty.w, simprocAttr, ]
  skip
  refine owp_useQ (hw _) (by (try simp only [Ty.w, simprocAttr, ]); try rfl) ?_; simp (maxSteps := 2000000) only [Ty.w, simprocAttr, ]
  skip
  refine owp_useQ (hv _) (by (try simp only [Ty.w, simprocAttr, ]); try rfl) ?_; simp (maxSteps := 2000000) only [Ty.w, simprocAttr, ]
  repeat' (first | (refine a_ret ?_; simp (maxSteps := 2000000) only [Ty.w, simprocAttr]) | (refine hK _ _ ?_; clear hK; try simp only [pst0, simprocAttr]))
end Go.Proofs.Ytjlkapgpjamnkaa
namespace Go.Proofs.Ytjlkapgpjamnkaa
open Go.AM
set_option maxHeartbeats 4000000
set_option maxRecDepth 20000
theorem rsameE_c : ∀ a : Ex, a.ok → ∀ b : Ex, b.ok → ∀ h : Heap, PCall Try.prog 38 [.agg a.cells, .agg b.cells] h fun r h' => r = .sc (.bool (a.same b)) ∧ h' = h := by
 refine Ex.ind ?_
 intro op name n args kids ih hok
 rintro ⟨op3, name3, n3, args3, kids3⟩ hok3 h
 simp only [Ex.ok] at hok hok3
 obtain ⟨_, _, _, ⟨ha, _⟩, hk, hks⟩ := hok
 obtain ⟨_, _, _, ⟨ha3, _⟩, hk3, hks3⟩ := hok3
 rw [Ex.oks_iff] at hks hks3
 have hfk : ∀ a ∈ kids, ∀ b ∈ kids3, ∀ h : Heap, PCall Try.prog 38 [.agg a.cells, .agg b.cells] h fun r h' => r = .sc (.bool (a.same b)) ∧ h' = h := fun a ha b hb => ih a ha (hks a ha) b (hks3 b hb)
 clear ih
 have hl_kids := Ex.rows_len kids
 have hl_kids3 := Ex.rows_len kids3
 have cellsA : (Ex.mk op name n args kids).cells = (Ex.mk op name n args kids).cells := rfl
 have cellsB : (Ex.mk op3 name3 n3 args3 kids3).cells = (Ex.mk op3 name3 n3 args3 kids3).cells := rfl
 conv at cellsA => rhs; simp only [Ex.cells]
 conv at cellsB => rhs; simp only [Ex.cells]
 rw [cellsA, cellsB]
 refine pcall_body (ow := fun _ => false) (wf := fun _ => false) Ty.mixed Try.func38 rfl Ty.hb_38 (by rw [Try.ntmps38]; simp) ?_
 rw [Try.ntmps38, Try.results38]
 cases e0 : (op.data.toList == op3.data.toList) with
 | false =>
  have hs : (Ex.mk op name n args kids).same (.mk op3 name3 n3 args3 kids3) = false := by simp only [Ex.same, bEq, e0, Bool.false_and, Bool.and_false]
  repeat' (first | refine a_seq fun K hK => ?_ | ((first | refine a_regionS ?_ | refine a_ret ?_); simp (maxSteps := 2000000) only [Ty.w, simprocAttr, Bool.not_true, Bool.not_false, e0]) | (refine hK _ _ ?_; clear hK; try simp only [pst0, simprocAttr]))
  rw [hs]
 | true =>
  cases e1 : (name.data.toList == name3.data.toList) with
  | false =>
   have hs : (Ex.mk op name n args kids).same (.mk op3 name3 n3 args3 kids3) = false := by simp only [Ex.same, bEq, e0, e1, Bool.false_and, Bool.and_false]
   repeat' (first | refine a_seq fun K hK => ?_ | ((first | refine a_regionS ?_ | refine a_ret ?_); simp (maxSteps := 2000000) only [Ty.w, simprocAttr, Bool.not_true, Bool.not_false, e0, e1]) | (refine hK _ _ ?_; clear hK; try simp only [pst0, simprocAttr]))
   rw [hs]
  | true =>
   cases e2 : (n != n3) with
   | true =>
    have en : (n == n3) = false := by simpa using e2
    have hs : (Ex.mk op name n args kids).same (.mk op3 name3 n3 args3 kids3) = false := by simp only [Ex.same, bEq, e0, e1, en, Bool.false_and, Bool.and_false]
    repeat' (first | refine a_seq fun K hK => ?_ | ((first | refine a_regionS ?_ | refine a_ret ?_); simp (maxSteps := 2000000) only [Ty.w, simprocAttr, Bool.not_true, Bool.not_false, e0, e1, e2]) | (refine hK _ _ ?_; clear hK; try simp only [pst0, simprocAttr]))
    rw [hs]
   | false =>
    have en : (n == n3) = true := by simpa using e2
    repeat' (first | refine a_seq fun K hK => ?_ | (refine a_regionS ?_; simp (maxSteps := 2000000) only [Ty.w, simprocAttr, Bool.not_true, Bool.not_false, e0, e1, e2]) | (refine hK _ _ ?_; clear hK; try simp only [pst0, simprocAttr]))
    cases e3 : bsEq args args3 with
    | false =>
     have hs : (Ex.mk op name n args kids).same (.mk op3 name3 n3 args3 kids3) = false := by simp only [Ex.same, bEq, e0, e1, en, e3, Bool.false_and, Bool.and_false]
     refine owp_useQ (rtexts_c (l := args) (m := args3) ha ha3) (by (try simp only [Ty.w, simprocAttr, Bool.not_true, Bool.not_false, e0, e1, e2, e3]); try rfl) ?_; simp (maxSteps := 2000000) only [Ty.w, simprocAttr, Bool.not_true, Bool.not_false, e0, e1, e2, e3]
     repeat' (first | refine a_seq fun K hK => ?_ | ((first | refine a_regionS ?_ | refine a_ret ?_); simp (maxSteps := 2000000) only [Ty.w, simprocAttr, Bool.not_true, Bool.not_false, e0, e1, e2, e3]) | (refine hK _ _ ?_; clear hK; try simp only [pst0, simprocAttr]))
     rw [hs]
    | true =>
     cases l_kids : ((kids.length : Int) != kids3.length) with
     | true =>
      have hlen : Ex.sames kids kids3 = false := Ex.sames_len (by simp at l_kids; omega)
      have hs : (Ex.mk op name n args kids).same (.mk op3 name3 n3 args3 kids3) = false := by simp only [Ex.same, bEq, e0, e1, en, e3, hlen, Bool.false_and, Bool.and_false]
      refine owp_useQ (rtexts_c (l := args) (m := args3) ha ha3) (by (try simp only [Ty.w, simprocAttr, Bool.not_true, Bool.not_false, e0, e1, e2, e3, l_kids, hl_kids, hl_kids3]); try rfl) ?_; simp (maxSteps := 2000000) only [Ty.w, simprocAttr, Bool.not_true, Bool.not_false, e0, e1, e2, e3, l_kids, hl_kids, hl_kids3]
      repeat' (first | refine a_seq fun K hK => ?_ | ((first | refine a_regionS ?_ | refine a_ret ?_); simp (maxSteps := 2000000) only [Ty.w, simprocAttr, Bool.not_true, Bool.not_false, e0, e1, e2, e3, l_kids, hl_kids, hl_kids3]) | (refine hK _ _ ?_; clear hK; try simp only [pst0, simprocAttr]))
      rw [hs]
     | false =>
      have hn_kids : kids.length = kids3.length := by simp at l_kids; omega
      refine owp_useQ (rtexts_c (l := args) (m := args3) ha ha3) (by (try simp only [Ty.w, simprocAttr, Bool.not_true, Bool.not_false, e0, e1, e2, e3, l_kids, hl_kids, hl_kids3]); try rfl) ?_; simp (maxSteps := 2000000) only [Ty.w, simprocAttr, Bool.not_true, Bool.not_false, e0, e1, e2, e3, l_kids, hl_kids, hl_kids3]
      repeat' (first | refine a_seq fun K hK => ?_ | (refine a_block ?_) | (refine a_regionS ?_; simp (maxSteps := 2000000) only [Ty.w, simprocAttr, Bool.not_true, Bool.not_false, e0, e1, e2, e3, l_kids, hl_kids, hl_kids3]) | (refine a_skip ?_; try simp only [pst0, simprocAttr]) | (refine a_cond _ (by (try simp (maxSteps := 2000000) only [Ty.w, simprocAttr, Bool.not_true, Bool.not_false, e0, e1, e2, e3, l_kids, hl_kids, hl_kids3]); rfl) (fun hb => ?_) (fun hb => ?_) <;> (try simp only [hb0, decide_eq_true_eq, decide_eq_false_iff_not, simprocAttr] at hb) <;> (try (exfalso; omega))) | (refine hK _ _ ?_; clear hK; try simp only [pst0, simprocAttr]))
      refine a_loop (fun c S h7 => h7 = h ∧ S 2 = .cptr (Ex.mk op name n args kids).cells ∧ S 3 = .cptr (Ex.mk op3 name3 n3 args3 kids3).cells ∧ ∃ k : Nat, S 5 = .sc (.int .i64 k) ∧ k ≤ kids.length ∧ c = kids.length - k ∧ Ex.sames kids kids3 = Ex.sames (kids.drop k) (kids3.drop k)) kids.length ?_ ?_
      ·simp only [Ty.w, simprocAttr, cellsA, cellsB]
       exact ⟨0, rfl, by omega, rfl, by simp⟩
      ·rintro c S h7 ⟨rfl, g2, g3, k, gk, hkl, rfl, hinv⟩
       rw [cellsA] at g2
       rw [cellsB] at g3
       by_cases hlt : k < kids.length
       ·have hd : decide ((k : Int) < (kids.length : Int)) = true := by simp; omega
        have w7 : IntKind.i64.wrap ((k : Int) + 1) = k + 1 := by unfold bigN at hk; rw [wrap64 (by omega) (by omega)]
        obtain ⟨a, hx⟩ : ∃ a, kids[k]? = some a := ⟨_, List.getElem?_eq_getElem hlt⟩
        obtain ⟨b, hy⟩ : ∃ b, kids3[k]? = some b := ⟨_, List.getElem?_eq_getElem (by omega)⟩
        have hc := hfk a (List.mem_of_getElem? hx) b (List.mem_of_getElem? hy)
        rw [drop_of_get hx, drop_of_get hy] at hinv
        simp only [Ex.sames] at hinv
        have hr := Ex.rows_get hx
        have hr2 := Ex.rows_get hy
        generalize he : a.same b = e at hc hinv
        clear he
        obtain ⟨op2, name2, n2, args2, kids2⟩ := a
        obtain ⟨op4, name4, n4, args4, kids4⟩ := b
        simp only [Ex.cells] at hr hr2 hc
        cases e with
        | false =>
         have hs : (Ex.mk op name n args kids).same (.mk op3 name3 n3 args3 kids3) = false := by simp only [Ex.same, bEq, hinv, e0, e1, en, e3, Bool.false_and, Bool.and_false]
         have W := And.intro g2 (And.intro g3 (And.intro gk (And.intro hd (And.intro hr (And.intro hr2 w7)))))
         repeat' (first | refine a_seq fun K hK => ?_ | ((first | refine a_regionS ?_ | refine a_drawS (by decide +kernel) ?_); simp (maxSteps := 2000000) only [Ty.w, simprocAttr, W, hl_kids, hl_kids3, Bool.not_false]) | (refine a_skip ?_; try simp only [pst0, simprocAttr]) | (refine a_cond _ (by (try simp (maxSteps := 2000000) only [Ty.w, simprocAttr, W, hl_kids, hl_kids3, Bool.not_false]); rfl) (fun hb => ?_) (fun hb => ?_) <;> (try simp only [hb0, decide_eq_true_eq, decide_eq_false_iff_not, simprocAttr] at hb) <;> (try (exfalso; omega))) | (refine hK _ _ ?_; clear hK; try simp only [pst0, simprocAttr]))
         (first | refine a_dcall0 (hc _) (by (try simp only [Ty.w, simprocAttr, W, hl_kids, hl_kids3]); try rfl) ?_ | refine a_dcallA (hc _) (by (try simp only [Ty.w, simprocAttr, W, hl_kids, hl_kids3]); try rfl) (by simp only [Ty.w, simprocAttr, W, hl_kids, hl_kids3]; try trivial) ?_); simp (maxSteps := 2000000) only [Ty.w, simprocAttr, W, Option.getD_some, hl_kids, hl_kids3]
         repeat' (first | refine a_seq fun K hK => ?_ | ((first | refine a_regionS ?_ | refine a_ret ?_); simp (maxSteps := 2000000) only [Ty.w, simprocAttr, W, Bool.not_false]) | (refine hK _ _ ?_; clear hK; try simp only [pst0, simprocAttr]))
         rw [hs]
        | true =>
         rw [Bool.true_and] at hinv
         have W := And.intro g2 (And.intro g3 (And.intro gk (And.intro hd (And.intro hr (And.intro hr2 w7)))))
         repeat' (first | refine a_seq fun K hK => ?_ | ((first | refine a_regionS ?_ | refine a_drawS (by decide +kernel) ?_); simp (maxSteps := 2000000) only [Ty.w, simprocAttr, W, hl_kids, hl_kids3, Bool.not_true]) | (refine a_skip ?_; try simp only [pst0, simprocAttr]) | (refine a_cond _ (by (try simp (maxSteps := 2000000) only [Ty.w, simprocAttr, W, hl_kids, hl_kids3, Bool.not_true]); rfl) (fun hb => ?_) (fun hb => ?_) <;> (try simp only [hb0, decide_eq_true_eq, decide_eq_false_iff_not, simprocAttr] at hb) <;> (try (exfalso; omega))) | (refine hK _ _ ?_; clear hK; try simp only [pst0, simprocAttr]))
         (first | refine a_dcall0 (hc _) (by (try simp only [Ty.w, simprocAttr, W, hl_kids, hl_kids3]); try rfl) ?_ | refine a_dcallA (hc _) (by (try simp only [Ty.w, simprocAttr, W, hl_kids, hl_kids3]); try rfl) (by simp only [Ty.w, simprocAttr, W, hl_kids, hl_kids3]; try trivial) ?_); simp (maxSteps := 2000000) only [Ty.w, simprocAttr, W, Option.getD_some, hl_kids, hl_kids3]
         repeat' (first | (refine a_block ?_) | (refine a_regionS ?_; simp (maxSteps := 2000000) only [Ty.w, simprocAttr, W, Bool.not_true]) | (refine a_skip ?_; try simp only [pst0, simprocAttr]) | (refine hK _ _ ?_; clear hK; try simp only [pst0, simprocAttr]))
         exact ⟨kids.length - (k + 1), by omega, by rw [cellsA], by rw [cellsB], k + 1, by simp, by omega, rfl, hinv⟩
       ·have hd : decide ((k : Int) < (kids.length : Int)) = false := by simp; omega
        rw [List.drop_eq_nil_of_le (by omega), List.drop_eq_nil_of_le (by omega)] at hinv
        have hq0 := hinv
        simp only [Ex.sames] at hq0
        clear hinv
        have hs : (Ex.mk op name n args kids).same (.mk op3 name3 n3 args3 kids3) = true := by simp only [Ex.same, bEq, e0, e1, en, e3, hq0, Bool.true_and]
        repeat' (first | refine a_seq fun K hK => ?_ | ((first | refine a_regionS ?_ | refine a_ret ?_); simp (maxSteps := 2000000) only [Ty.w, simprocAttr, g2, g3, gk, hl_kids, hl_kids3, hd]) | (refine a_exit ?_; try simp only [pst0, simprocAttr]) | (refine a_cond _ (by (try simp (maxSteps := 2000000) only [Ty.w, simprocAttr, g2, g3, gk, hl_kids, hl_kids3, hd]); rfl) (fun hb => ?_) (fun hb => ?_) <;> (try simp only [hb0, decide_eq_true_eq, decide_eq_false_iff_not, simprocAttr] at hb) <;> (try (exfalso; omega))) | ((first | refine hK _ _ ?_ | (clear hK; refine hK _ _ ?_)); clear hK; try simp only [pst0, simprocAttr]))
        rw [hs]
theorem rsame_c : ∀ a : Fm, a.ok → ∀ b : Fm, b.ok → ∀ h : Heap, PCall Try.prog 21 [.agg a.cells, .agg b.cells] h fun r h' => r = .sc (.bool (a.same b)) ∧ h' = h := by
 refine Fm.ind ?_
 intro op name args params exprs kids ih hok
 rintro ⟨op3, name3, args3, params3, exprs3, kids3⟩ hok3 h
 simp only [Fm.ok] at hok hok3
 obtain ⟨_, _, ⟨ha, _⟩, ⟨hp, _⟩, ⟨he, hes⟩, hk, hks⟩ := hok
 obtain ⟨_, _, ⟨ha3, _⟩, ⟨hp3, _⟩, ⟨he3, hes3⟩, hk3, hks3⟩ := hok3
 rw [Fm.oks_iff] at hks hks3
 have hfk : ∀ a ∈ kids, ∀ b ∈ kids3, ∀ h : Heap, PCall Try.prog 21 [.agg a.cells, .agg b.cells] h fun r h' => r = .sc (.bool (a.same b)) ∧ h' = h := fun a ha b hb => ih a ha (hks a ha) b (hks3 b hb)
 rw [Ex.oks_iff] at hes hes3
 have hfe : ∀ a ∈ exprs, ∀ b ∈ exprs3, ∀ h : Heap, PCall Try.prog 38 [.agg a.cells, .agg b.cells] h fun r h' => r = .sc (.bool (a.same b)) ∧ h' = h := fun a ha b hb => rsameE_c a (hes a ha) b (hes3 b hb)
 clear ih
 have hl_exprs := Ex.rows_len exprs
 have hl_exprs3 := Ex.rows_len exprs3
 have hl_kids := Fm.rows_len kids
 have hl_kids3 := Fm.rows_len kids3
 have cellsA : (Fm.mk op name args params exprs kids).cells = (Fm.mk op name args params exprs kids).cells := rfl
 have cellsB : (Fm.mk op3 name3 args3 params3 exprs3 kids3).cells = (Fm.mk op3 name3 args3 params3 exprs3 kids3).cells := rfl
 conv at cellsA => rhs; simp only [Fm.cells]
 conv at cellsB => rhs; simp only [Fm.cells]
 rw [cellsA, cellsB]
 refine pcall_body (ow := fun _ => false) (wf := fun _ => false) Ty.mixed Try.func21 rfl Ty.hb_21 (by rw [Try.ntmps21]; simp) ?_
 rw [Try.ntmps21, Try.results21]
 cases e0 : (op.data.toList == op3.data.toList) with
 | false =>
  have hs : (Fm.mk op name args params exprs kids).same (.mk op3 name3 args3 params3 exprs3 kids3) = false := by simp only [Fm.same, bEq, e0, Bool.false_and, Bool.and_false]
  repeat' (first | refine a_seq fun K hK => ?_ | ((first | refine a_regionS ?_ | refine a_ret ?_); simp (maxSteps := 2000000) only [Ty.w, simprocAttr, Bool.not_true, Bool.not_false, e0]) | (refine hK _ _ ?_; clear hK; try simp only [pst0, simprocAttr]))
  rw [hs]
 | true =>
  cases e1 : (name.data.toList == name3.data.toList) with
  | false =>
   have hs : (Fm.mk op name args params exprs kids).same (.mk op3 name3 args3 params3 exprs3 kids3) = false := by simp only [Fm.same, bEq, e0, e1, Bool.false_and, Bool.and_false]
   repeat' (first | refine a_seq fun K hK => ?_ | ((first | refine a_regionS ?_ | refine a_ret ?_); simp (maxSteps := 2000000) only [Ty.w, simprocAttr, Bool.not_true, Bool.not_false, e0, e1]) | (refine hK _ _ ?_; clear hK; try simp only [pst0, simprocAttr]))
   rw [hs]
  | true =>
   repeat' (first | refine a_seq fun K hK => ?_ | (refine a_regionS ?_; simp (maxSteps := 2000000) only [Ty.w, simprocAttr, Bool.not_true, Bool.not_false, e0, e1]) | (refine hK _ _ ?_; clear hK; try simp only [pst0, simprocAttr]))
   cases e2 : bsEq args args3 with
   | false =>
    have hs : (Fm.mk op name args params exprs kids).same (.mk op3 name3 args3 params3 exprs3 kids3) = false := by simp only [Fm.same, bEq, e0, e1, e2, Bool.false_and, Bool.and_false]
    refine owp_useQ (rtexts_c (l := args) (m := args3) ha ha3) (by (try simp only [Ty.w, simprocAttr, Bool.not_true, Bool.not_false, e0, e1, e2]); try rfl) ?_; simp (maxSteps := 2000000) only [Ty.w, simprocAttr, Bool.not_true, Bool.not_false, e0, e1, e2]
    repeat' (first | refine a_seq fun K hK => ?_ | ((first | refine a_regionS ?_ | refine a_ret ?_); simp (maxSteps := 2000000) only [Ty.w, simprocAttr, Bool.not_true, Bool.not_false, e0, e1, e2]) | (refine hK _ _ ?_; clear hK; try simp only [pst0, simprocAttr]))
    rw [hs]
   | true =>
    refine owp_useQ (rtexts_c (l := args) (m := args3) ha ha3) (by (try simp only [Ty.w, simprocAttr, Bool.not_true, Bool.not_false, e0, e1, e2, hl_exprs, hl_exprs3, hl_kids, hl_kids3]); try rfl) ?_; simp (maxSteps := 2000000) only [Ty.w, simprocAttr, Bool.not_true, Bool.not_false, e0, e1, e2, hl_exprs, hl_exprs3, hl_kids, hl_kids3]
    skip
    cases e3 : pmsEq params params3 with
    | false =>
     have hs : (Fm.mk op name args params exprs kids).same (.mk op3 name3 args3 params3 exprs3 kids3) = false := by simp only [Fm.same, bEq, e0, e1, e2, e3, Bool.false_and, Bool.and_false]
     refine owp_useQ (rparams_c (l := params) (m := params3) hp hp3) (by (try simp only [Ty.w, simprocAttr, Bool.not_true, Bool.not_false, e0, e1, e2, e3]); try rfl) ?_; simp (maxSteps := 2000000) only [Ty.w, simprocAttr, Bool.not_true, Bool.not_false, e0, e1, e2, e3]
     repeat' (first | refine a_seq fun K hK => ?_ | ((first | refine a_regionS ?_ | refine a_ret ?_); simp (maxSteps := 2000000) only [Ty.w, simprocAttr, Bool.not_true, Bool.not_false, e0, e1, e2, e3]) | (refine hK _ _ ?_; clear hK; try simp only [pst0, simprocAttr]))
     rw [hs]
    | true =>
     cases l_exprs : ((exprs.length : Int) != exprs3.length) with
     | true =>
      have hlen : Ex.sames exprs exprs3 = false := Ex.sames_len (by simp at l_exprs; omega)
      have hs : (Fm.mk op name args params exprs kids).same (.mk op3 name3 args3 params3 exprs3 kids3) = false := by simp only [Fm.same, bEq, e0, e1, e2, e3, hlen, Bool.false_and, Bool.and_false]
      refine owp_useQ (rparams_c (l := params) (m := params3) hp hp3) (by (try simp only [Ty.w, simprocAttr, Bool.not_true, Bool.not_false, e0, e1, e2, e3, l_exprs, hl_exprs, hl_exprs3, hl_kids, hl_kids3]); try rfl) ?_; simp (maxSteps := 2000000) only [Ty.w, simprocAttr, Bool.not_true, Bool.not_false, e0, e1, e2, e3, l_exprs, hl_exprs, hl_exprs3, hl_kids, hl_kids3]
      repeat' (first | refine a_seq fun K hK => ?_ | ((first | refine a_regionS ?_ | refine a_ret ?_); simp (maxSteps := 2000000) only [Ty.w, simprocAttr, Bool.not_true, Bool.not_false, e0, e1, e2, e3, l_exprs, hl_exprs, hl_exprs3, hl_kids, hl_kids3]) | (refine hK _ _ ?_; clear hK; try simp only [pst0, simprocAttr]))
      rw [hs]
     | false =>
      have hn_exprs : exprs.length = exprs3.length := by simp at l_exprs; omega
      cases l_kids : ((kids.length : Int) != kids3.length) with
      | true =>
       have hlen : Fm.sames kids kids3 = false := Fm.sames_len (by simp at l_kids; omega)
       have hs : (Fm.mk op name args params exprs kids).same (.mk op3 name3 args3 params3 exprs3 kids3) = false := by simp only [Fm.same, bEq, e0, e1, e2, e3, hlen, Bool.false_and, Bool.and_false]
       refine owp_useQ (rparams_c (l := params) (m := params3) hp hp3) (by (try simp only [Ty.w, simprocAttr, Bool.not_true, Bool.not_false, e0, e1, e2, e3, l_exprs, l_kids, hl_exprs, hl_exprs3, hl_kids, hl_kids3]); try rfl) ?_; simp (maxSteps := 2000000) only [Ty.w, simprocAttr, Bool.not_true, Bool.not_false, e0, e1, e2, e3, l_exprs, l_kids, hl_exprs, hl_exprs3, hl_kids, hl_kids3]
       repeat' (first | refine a_seq fun K hK => ?_ | ((first | refine a_regionS ?_ | refine a_ret ?_); simp (maxSteps := 2000000) only [Ty.w, simprocAttr, Bool.not_true, Bool.not_false, e0, e1, e2, e3, l_exprs, l_kids, hl_exprs, hl_exprs3, hl_kids, hl_kids3]) | (refine hK _ _ ?_; clear hK; try simp only [pst0, simprocAttr]))
       rw [hs]
      | false =>
       have hn_kids : kids.length = kids3.length := by simp at l_kids; omega
       refine owp_useQ (rparams_c (l := params) (m := params3) hp hp3) (by (try simp only [Ty.w, simprocAttr, Bool.not_true, Bool.not_false, e0, e1, e2, e3, l_exprs, l_kids, hl_exprs, hl_exprs3, hl_kids, hl_kids3]); try rfl) ?_; simp (maxSteps := 2000000) only [Ty.w, simprocAttr, Bool.not_true, Bool.not_false, e0, e1, e2, e3, l_exprs, l_kids, hl_exprs, hl_exprs3, hl_kids, hl_kids3]
       repeat' (first | refine a_seq fun K hK => ?_ | (refine a_block ?_) | (refine a_regionS ?_; simp (maxSteps := 2000000) only [Ty.w, simprocAttr, Bool.not_true, Bool.not_false, e0, e1, e2, e3, l_exprs, l_kids, hl_exprs, hl_exprs3, hl_kids, hl_kids3]) | (refine a_skip ?_; try simp only [pst0, simprocAttr]) | (refine a_cond _ (by (try simp (maxSteps := 2000000) only [Ty.w, simprocAttr, Bool.not_true, Bool.not_false, e0, e1, e2, e3, l_exprs, l_kids, hl_exprs, hl_exprs3, hl_kids, hl_kids3]); rfl) (fun hb => ?_) (fun hb => ?_) <;> (try simp only [hb0, decide_eq_true_eq, decide_eq_false_iff_not, simprocAttr] at hb) <;> (try (exfalso; omega))) | (refine hK _ _ ?_; clear hK; try simp only [pst0, simprocAttr]))
       refine a_loop (fun c S h7 => h7 = h ∧ S 2 = .cptr (Fm.mk op name args params exprs kids).cells ∧ S 3 = .cptr (Fm.mk op3 name3 args3 params3 exprs3 kids3).cells ∧ ∃ k : Nat, S 5 = .sc (.int .i64 k) ∧ k ≤ exprs.length ∧ c = exprs.length - k ∧ Ex.sames exprs exprs3 = Ex.sames (exprs.drop k) (exprs3.drop k)) exprs.length ?_ ?_
       ·simp only [Ty.w, simprocAttr, cellsA, cellsB]
        exact ⟨0, rfl, by omega, rfl, by simp⟩
       ·rintro c S h7 ⟨rfl, g2, g3, k, gk, hkl, rfl, hinv⟩
        rw [cellsA] at g2
        rw [cellsB] at g3
        by_cases hlt : k < exprs.length
        ·have hd : decide ((k : Int) < (exprs.length : Int)) = true := by simp; omega
         have w7 : IntKind.i64.wrap ((k : Int) + 1) = k + 1 := by unfold bigN at he; rw [wrap64 (by omega) (by omega)]
         obtain ⟨a, hx⟩ : ∃ a, exprs[k]? = some a := ⟨_, List.getElem?_eq_getElem hlt⟩
         obtain ⟨b, hy⟩ : ∃ b, exprs3[k]? = some b := ⟨_, List.getElem?_eq_getElem (by omega)⟩
         have hc := hfe a (List.mem_of_getElem? hx) b (List.mem_of_getElem? hy)
         rw [drop_of_get hx, drop_of_get hy] at hinv
         simp only [Ex.sames] at hinv
         have hr := Ex.rows_get hx
         have hr2 := Ex.rows_get hy
         generalize he : a.same b = e at hc hinv
         clear he
         obtain ⟨op2, name2, n2, args2, kids2⟩ := a
         obtain ⟨op4, name4, n4, args4, kids4⟩ := b
         simp only [Ex.cells] at hr hr2 hc
         cases e with
         | false =>
          have hs : (Fm.mk op name args params exprs kids).same (.mk op3 name3 args3 params3 exprs3 kids3) = false := by simp only [Fm.same, bEq, hinv, e0, e1, e2, e3, Bool.false_and, Bool.and_false]
          have W := And.intro g2 (And.intro g3 (And.intro gk (And.intro hd (And.intro hr (And.intro hr2 w7)))))
          repeat' (first | refine a_seq fun K hK => ?_ | ((first | refine a_regionS ?_ | refine a_drawS (by decide +kernel) ?_); simp (maxSteps := 2000000) only [Ty.w, simprocAttr, W, hl_exprs, hl_exprs3, hl_kids, hl_kids3, Bool.not_false]) | (refine a_skip ?_; try simp only [pst0, simprocAttr]) | (refine a_cond _ (by (try simp (maxSteps := 2000000) only [Ty.w, simprocAttr, W, hl_exprs, hl_exprs3, hl_kids, hl_kids3, Bool.not_false]); rfl) (fun hb => ?_) (fun hb => ?_) <;> (try simp only [hb0, decide_eq_true_eq, decide_eq_false_iff_not, simprocAttr] at hb) <;> (try (exfalso; omega))) | (refine hK _ _ ?_; clear hK; try simp only [pst0, simprocAttr]))
          (first | refine a_dcall0 (hc _) (by (try simp only [Ty.w, simprocAttr, W, hl_exprs, hl_exprs3, hl_kids, hl_kids3]); try rfl) ?_ | refine a_dcallA (hc _) (by (try simp only [Ty.w, simprocAttr, W, hl_exprs, hl_exprs3, hl_kids, hl_kids3]); try rfl) (by simp only [Ty.w, simprocAttr, W, hl_exprs, hl_exprs3, hl_kids, hl_kids3]; try trivial) ?_); simp (maxSteps := 2000000) only [Ty.w, simprocAttr, W, Option.getD_some, hl_exprs, hl_exprs3, hl_kids, hl_kids3]
          repeat' (first | refine a_seq fun K hK => ?_ | ((first | refine a_regionS ?_ | refine a_ret ?_); simp (maxSteps := 2000000) only [Ty.w, simprocAttr, W, Bool.not_false]) | (refine hK _ _ ?_; clear hK; try simp only [pst0, simprocAttr]))
          rw [hs]
         | true =>
          rw [Bool.true_and] at hinv
          have W := And.intro g2 (And.intro g3 (And.intro gk (And.intro hd (And.intro hr (And.intro hr2 w7)))))
          repeat' (first | refine a_seq fun K hK => ?_ | ((first | refine a_regionS ?_ | refine a_drawS (by decide +kernel) ?_); simp (maxSteps := 2000000) only [Ty.w, simprocAttr, W, hl_exprs, hl_exprs3, hl_kids, hl_kids3, Bool.not_true]) | (refine a_skip ?_; try simp only [pst0, simprocAttr]) | (refine a_cond _ (by (try simp (maxSteps := 2000000) only [Ty.w, simprocAttr, W, hl_exprs, hl_exprs3, hl_kids, hl_kids3, Bool.not_true]); rfl) (fun hb => ?_) (fun hb => ?_) <;> (try simp only [hb0, decide_eq_true_eq, decide_eq_false_iff_not, simprocAttr] at hb) <;> (try (exfalso; omega))) | (refine hK _ _ ?_; clear hK; try simp only [pst0, simprocAttr]))
          (first | refine a_dcall0 (hc _) (by (try simp only [Ty.w, simprocAttr, W, hl_exprs, hl_exprs3, hl_kids, hl_kids3]); try rfl) ?_ | refine a_dcallA (hc _) (by (try simp only [Ty.w, simprocAttr, W, hl_exprs, hl_exprs3, hl_kids, hl_kids3]); try rfl) (by simp only [Ty.w, simprocAttr, W, hl_exprs, hl_exprs3, hl_kids, hl_kids3]; try trivial) ?_); simp (maxSteps := 2000000) only [Ty.w, simprocAttr, W, Option.getD_some, hl_exprs, hl_exprs3, hl_kids, hl_kids3]
          repeat' (first | (refine a_block ?_) | (refine a_regionS ?_; simp (maxSteps := 2000000) only [Ty.w, simprocAttr, W, Bool.not_true]) | (refine a_skip ?_; try simp only [pst0, simprocAttr]) | (refine hK _ _ ?_; clear hK; try simp only [pst0, simprocAttr]))
          exact ⟨exprs.length - (k + 1), by omega, by rw [cellsA], by rw [cellsB], k + 1, by simp, by omega, rfl, hinv⟩
        ·have hd : decide ((k : Int) < (exprs.length : Int)) = false := by simp; omega
         rw [List.drop_eq_nil_of_le (by omega), List.drop_eq_nil_of_le (by omega)] at hinv
         have hq0 := hinv
         simp only [Ex.sames] at hq0
         clear hinv
         repeat' (first | refine a_seq fun K hK => ?_ | (refine a_block ?_) | (refine a_regionS ?_; simp (maxSteps := 2000000) only [Ty.w, simprocAttr, g2, g3, gk, hl_exprs, hl_exprs3, hl_kids, hl_kids3, hd]) | (refine a_exit ?_; try simp only [pst0, simprocAttr]) | (refine a_cond _ (by (try simp (maxSteps := 2000000) only [Ty.w, simprocAttr, g2, g3, gk, hl_exprs, hl_exprs3, hl_kids, hl_kids3, hd]); rfl) (fun hb => ?_) (fun hb => ?_) <;> (try simp only [hb0, decide_eq_true_eq, decide_eq_false_iff_not, simprocAttr] at hb) <;> (try (exfalso; omega))) | ((first | refine hK _ _ ?_ | (clear hK; refine hK _ _ ?_)); clear hK; try simp only [pst0, simprocAttr]))
         clear gk
         refine a_loop (fun c S h8 => h8 = h7 ∧ S 2 = .cptr (Fm.mk op name args params exprs kids).cells ∧ S 3 = .cptr (Fm.mk op3 name3 args3 params3 exprs3 kids3).cells ∧ ∃ k : Nat, S 6 = .sc (.int .i64 k) ∧ k ≤ kids.length ∧ c = kids.length - k ∧ Fm.sames kids kids3 = Fm.sames (kids.drop k) (kids3.drop k)) kids.length ?_ ?_
         ·simp only [Ty.w, simprocAttr, cellsA, cellsB, g2, g3]
          exact ⟨0, rfl, by omega, rfl, by simp⟩
         ·clear g2 g3; rintro c S h8 ⟨rfl, g2, g3, k, gk, hkl, rfl, hinv⟩
          rw [cellsA] at g2
          rw [cellsB] at g3
          by_cases hlt : k < kids.length
          ·have hd : decide ((k : Int) < (kids.length : Int)) = true := by simp; omega
           have w7 : IntKind.i64.wrap ((k : Int) + 1) = k + 1 := by unfold bigN at hk; rw [wrap64 (by omega) (by omega)]
           obtain ⟨a, hx⟩ : ∃ a, kids[k]? = some a := ⟨_, List.getElem?_eq_getElem hlt⟩
           obtain ⟨b, hy⟩ : ∃ b, kids3[k]? = some b := ⟨_, List.getElem?_eq_getElem (by omega)⟩
           have hc := hfk a (List.mem_of_getElem? hx) b (List.mem_of_getElem? hy)
           rw [drop_of_get hx, drop_of_get hy] at hinv
           simp only [Fm.sames] at hinv
           have hr := Fm.rows_get hx
           have hr2 := Fm.rows_get hy
           generalize he : a.same b = e at hc hinv
           clear he
           obtain ⟨op2, name2, args2, params2, exprs2, kids2⟩ := a
           obtain ⟨op4, name4, args4, params4, exprs4, kids4⟩ := b
           simp only [Fm.cells] at hr hr2 hc
           cases e with
           | false =>
            have hs : (Fm.mk op name args params exprs kids).same (.mk op3 name3 args3 params3 exprs3 kids3) = false := by simp only [Fm.same, bEq, hinv, e0, e1, e2, e3, hq0, Bool.false_and, Bool.and_false]
            have W := And.intro g2 (And.intro g3 (And.intro gk (And.intro hd (And.intro hr (And.intro hr2 w7)))))
            repeat' (first | refine a_seq fun K hK => ?_ | ((first | refine a_regionS ?_ | refine a_drawS (by decide +kernel) ?_); simp (maxSteps := 2000000) only [Ty.w, simprocAttr, W, hl_exprs, hl_exprs3, hl_kids, hl_kids3, Bool.not_false]) | (refine a_skip ?_; try simp only [pst0, simprocAttr]) | (refine a_cond _ (by (try simp (maxSteps := 2000000) only [Ty.w, simprocAttr, W, hl_exprs, hl_exprs3, hl_kids, hl_kids3, Bool.not_false]); rfl) (fun hb => ?_) (fun hb => ?_) <;> (try simp only [hb0, decide_eq_true_eq, decide_eq_false_iff_not, simprocAttr] at hb) <;> (try (exfalso; omega))) | (refine hK _ _ ?_; clear hK; try simp only [pst0, simprocAttr]))
            (first | refine a_dcall0 (hc _) (by (try simp only [Ty.w, simprocAttr, W, hl_exprs, hl_exprs3, hl_kids, hl_kids3]); try rfl) ?_ | refine a_dcallA (hc _) (by (try simp only [Ty.w, simprocAttr, W, hl_exprs, hl_exprs3, hl_kids, hl_kids3]); try rfl) (by simp only [Ty.w, simprocAttr, W, hl_exprs, hl_exprs3, hl_kids, hl_kids3]; try trivial) ?_); simp (maxSteps := 2000000) only [Ty.w, simprocAttr, W, Option.getD_some, hl_exprs, hl_exprs3, hl_kids, hl_kids3]
            repeat' (first | refine a_seq fun K hK => ?_ | ((first | refine a_regionS ?_ | refine a_ret ?_); simp (maxSteps := 2000000) only [Ty.w, simprocAttr, W, Bool.not_false]) | (refine hK _ _ ?_; clear hK; try simp only [pst0, simprocAttr]))
            rw [hs]
           | true =>
            rw [Bool.true_and] at hinv
            have W := And.intro g2 (And.intro g3 (And.intro gk (And.intro hd (And.intro hr (And.intro hr2 w7)))))
            repeat' (first | refine a_seq fun K hK => ?_ | ((first | refine a_regionS ?_ | refine a_drawS (by decide +kernel) ?_); simp (maxSteps := 2000000) only [Ty.w, simprocAttr, W, hl_exprs, hl_exprs3, hl_kids, hl_kids3, Bool.not_true]) | (refine a_skip ?_; try simp only [pst0, simprocAttr]) | (refine a_cond _ (by (try simp (maxSteps := 2000000) only [Ty.w, simprocAttr, W, hl_exprs, hl_exprs3, hl_kids, hl_kids3, Bool.not_true]); rfl) (fun hb => ?_) (fun hb => ?_) <;> (try simp only [hb0, decide_eq_true_eq, decide_eq_false_iff_not, simprocAttr] at hb) <;> (try (exfalso; omega))) | (refine hK _ _ ?_; clear hK; try simp only [pst0, simprocAttr]))
            (first | refine a_dcall0 (hc _) (by (try simp only [Ty.w, simprocAttr, W, hl_exprs, hl_exprs3, hl_kids, hl_kids3]); try rfl) ?_ | refine a_dcallA (hc _) (by (try simp only [Ty.w, simprocAttr, W, hl_exprs, hl_exprs3, hl_kids, hl_kids3]); try rfl) (by simp only [Ty.w, simprocAttr, W, hl_exprs, hl_exprs3, hl_kids, hl_kids3]; try trivial) ?_); simp (maxSteps := 2000000) only [Ty.w, simprocAttr, W, Option.getD_some, hl_exprs, hl_exprs3, hl_kids, hl_kids3]
            repeat' (first | (refine a_block ?_) | (refine a_regionS ?_; simp (maxSteps := 2000000) only [Ty.w, simprocAttr, W, Bool.not_true]) | (refine a_skip ?_; try simp only [pst0, simprocAttr]) | (refine hK _ _ ?_; clear hK; try simp only [pst0, simprocAttr]))
            exact ⟨kids.length - (k + 1), by omega, by rw [cellsA], by rw [cellsB], k + 1, by simp, by omega, rfl, hinv⟩
          ·have hd : decide ((k : Int) < (kids.length : Int)) = false := by simp; omega
           rw [List.drop_eq_nil_of_le (by omega), List.drop_eq_nil_of_le (by omega)] at hinv
           have hq1 := hinv
           simp only [Fm.sames] at hq1
           clear hinv
           have hs : (Fm.mk op name args params exprs kids).same (.mk op3 name3 args3 params3 exprs3 kids3) = true := by simp only [Fm.same, bEq, e0, e1, e2, e3, hq0, hq1, Bool.true_and]
           repeat' (first | refine a_seq fun K hK => ?_ | ((first | refine a_regionS ?_ | refine a_ret ?_); simp (maxSteps := 2000000) only [Ty.w, simprocAttr, g2, g3, gk, hl_exprs, hl_exprs3, hl_kids, hl_kids3, hd]) | (refine a_exit ?_; try simp only [pst0, simprocAttr]) | (refine a_cond _ (by (try simp (maxSteps := 2000000) only [Ty.w, simprocAttr, g2, g3, gk, hl_exprs, hl_exprs3, hl_kids, hl_kids3, hd]); rfl) (fun hb => ?_) (fun hb => ?_) <;> (try simp only [hb0, decide_eq_true_eq, decide_eq_false_iff_not, simprocAttr] at hb) <;> (try (exfalso; omega))) | ((first | refine hK _ _ ?_ | (clear hK; refine hK _ _ ?_)); clear hK; try simp only [pst0, simprocAttr]))
           rw [hs]
end Go.Proofs.Ytjlkapgpjamnkaa
namespace Go.Proofs.Ytjlkapgpjamnkaa
open Go.AM
set_option maxHeartbeats 4000000
set_option maxRecDepth 20000
theorem zeroFm_fit : zeroFm.ok ∧ zeroFm.small := by
 constructor
 ·simp only [zeroFm, Fm.ok, Ex.oks, Fm.oks]
  exact ⟨by decide, by decide, ⟨by decide, fun a h => by simp at h⟩, ⟨by decide, fun a h => by simp at h⟩, ⟨by decide, trivial⟩, by decide, trivial⟩
 ·simp [zeroFm, Fm.small, Ex.smalls, Fm.smalls]
theorem formulaNormal_c {f : Fm} (hok : f.ok) (hb : PV.bulkL f.cells ≤ 1048576) : PCall Try.prog 4 [.agg f.cells] Heap.nil fun r _ => r = .sc (.bool true) := by
 have hsm := Fm.small_bulk f hb
 have cl := large_c hok
 have hR := fun h : Heap => rvalidF_c hok hsm (fmW_depth_big hb) h
 rw [← validF_same (fmW_nodes_big hb)] at hR
 have cn := fun H => Normal_c hok hsm (by omega) H
 cases l1 : decide (f.size > 5000) with
 | true =>
  generalize f.size = fs at cl l1
  obtain ⟨op, name, args, params, exprs, kids⟩ := f
  simp only [Fm.cells] at cl ⊢
  refine pcall_body (ow := fun _ => false) (wf := fun _ => false) Ty.mixed Try.func4 rfl Ty.hb_4 (by rw [Try.ntmps4]; simp) ?_
  rw [Try.ntmps4, Try.results4]
  repeat' (first | refine a_seq fun K hK => ?_ | (refine a_regionS ?_; simp (maxSteps := 2000000) only [Ty.w, simprocAttr]) | (refine hK _ _ ?_; clear hK; try simp only [pst0, simprocAttr]))
  refine owp_useQ (cl _) (by (try simp only [Ty.w, simprocAttr, l1]); try rfl) ?_; simp (maxSteps := 2000000) only [Ty.w, simprocAttr, l1]
  repeat' (first | refine a_seq fun K hK => ?_ | (refine a_regionS ?_; simp (maxSteps := 2000000) only [Ty.w, simprocAttr, l1]) | (refine hK _ _ ?_; clear hK; try simp only [pst0, simprocAttr]))
  refine owp_useQ (awake_c) (by (try simp only [Ty.w, simprocAttr, ]); try rfl) ?_; simp (maxSteps := 2000000) only [Ty.w, simprocAttr, ]
  repeat' (first | (refine a_ret ?_; simp (maxSteps := 2000000) only [Ty.w, simprocAttr]) | (refine hK _ _ ?_; clear hK; try simp only [pst0, simprocAttr]))
 | false =>
  cases hv : validF f with
  | false =>
   rw [hv] at hR
   have hN : normF f = zeroFm := if_neg (by rw [hv]; simp)
   rw [hN] at cn
   have cs := rsame_c zeroFm zeroFm_fit.1 zeroFm zeroFm_fit.1
   rw [same_self] at cs
   have cs2 : ∀ H : Heap, PCall Try.prog 21 [.agg zeroFm.cells, .agg [.sc (.string ⟨#[]⟩), .sc (.string ⟨#[]⟩), .sc (.slice none 0 0), .sc (.slice none 0 0), .sc (.slice none 0 0), .sc (.slice none 0 0)]] H fun r h' => r = .sc (.bool true) ∧ h' = H := fun H => by
    refine PCall.nz (cs H) ?_
    simp only [zeroFm, Fm.cells, Fm.rows, Ex.rows, sr_nil, pr_nil]
    refine nz_cons (Nz.refl _) (nz_cons (nz_agg ?_) (NzL.refl _))
    exact nz_cons (Nz.refl _) (nz_cons (Nz.refl _) (nz_cons nz_nil (nz_cons nz_nil (nz_cons nz_nil (nz_cons nz_nil (NzL.refl _))))))
   clear cs
   generalize zeroFm = g at cn cs2
   generalize f.size = fs at cl l1
   clear hv hN hok hsm hb
   obtain ⟨op, name, args, params, exprs, kids⟩ := f
   obtain ⟨gop, gname, gargs, gparams, gexprs, gkids⟩ := g
   simp only [Fm.cells] at cl hR cn cs2 ⊢
   refine pcall_body (ow := fun _ => false) (wf := fun _ => false) Ty.mixed Try.func4 rfl Ty.hb_4 (by rw [Try.ntmps4]; simp) ?_
   rw [Try.ntmps4, Try.results4]
   repeat' (first | refine a_seq fun K hK => ?_ | (refine a_regionS ?_; simp (maxSteps := 2000000) only [Ty.w, simprocAttr]) | (refine hK _ _ ?_; clear hK; try simp only [pst0, simprocAttr]))
   refine owp_useQ (cl _) (by (try simp only [Ty.w, simprocAttr, l1]); try rfl) ?_; simp (maxSteps := 2000000) only [Ty.w, simprocAttr, l1]
   skip
   refine owp_useQ (awake_c) (by (try simp only [Ty.w, simprocAttr, Bool.not_true]); try rfl) ?_; simp (maxSteps := 2000000) only [Ty.w, simprocAttr, Bool.not_true]
   repeat' (first | refine a_seq fun K hK => ?_ | (refine a_regionS ?_; simp (maxSteps := 2000000) only [Ty.w, simprocAttr, Bool.not_true]) | (refine a_skip ?_; try simp only [pst0, simprocAttr]) | (refine a_cond _ (by (try simp (maxSteps := 2000000) only [Ty.w, simprocAttr, Bool.not_true]); rfl) (fun hb => ?_) (fun hb => ?_) <;> (try simp only [hb0, decide_eq_true_eq, decide_eq_false_iff_not, simprocAttr] at hb) <;> (try (exfalso; omega))) | (refine hK _ _ ?_; clear hK; try simp only [pst0, simprocAttr]))
   refine owp_useQ (hR _) (by (try simp only [Ty.w, simprocAttr, Bool.not_false]); try rfl) ?_; simp (maxSteps := 2000000) only [Ty.w, simprocAttr, Bool.not_false]
   repeat' (first | refine a_seq fun K hK => ?_ | (refine a_regionS ?_; simp (maxSteps := 2000000) only [Ty.w, simprocAttr, Bool.not_false]) | (refine hK _ _ ?_; clear hK; try simp only [pst0, simprocAttr]))
   refine owp_useQ (cn _) (by (try simp only [Ty.w, simprocAttr, Bool.not_false]); try rfl) ?_; simp (maxSteps := 2000000) only [Ty.w, simprocAttr, Bool.not_false]
   skip
   refine owp_useQ (cs2 _) (by (try simp only [Ty.w, simprocAttr, Bool.not_false]); try rfl) ?_; simp (maxSteps := 2000000) only [Ty.w, simprocAttr, Bool.not_false]
   repeat' (first | (refine a_ret ?_; simp (maxSteps := 2000000) only [Ty.w, simprocAttr]) | (refine hK _ _ ?_; clear hK; try simp only [pst0, simprocAttr]))
  | true =>
   rw [hv] at hR
   obtain ⟨hsh, _, _⟩ := validF_iff.1 hv
   have hN : normF f = normalM f true := if_pos hv
   rw [hN] at cn
   obtain ⟨no, _⟩ := valid_fit hv hok hsm true
   have crn := fun H => RNormal_c hsh hsm (by omega) H
   have cs := rsame_c (normalM f true) no (normalM f true) no
   rw [same_self] at cs
   generalize normalM f true = g at cn crn cs
   generalize f.size = fs at cl l1
   clear hv hN hok hsm hb no hsh
   obtain ⟨op, name, args, params, exprs, kids⟩ := f
   obtain ⟨gop, gname, gargs, gparams, gexprs, gkids⟩ := g
   simp only [Fm.cells] at cl hR cn crn cs ⊢
   refine pcall_body (ow := fun _ => false) (wf := fun _ => false) Ty.mixed Try.func4 rfl Ty.hb_4 (by rw [Try.ntmps4]; simp) ?_
   rw [Try.ntmps4, Try.results4]
   repeat' (first | refine a_seq fun K hK => ?_ | (refine a_regionS ?_; simp (maxSteps := 2000000) only [Ty.w, simprocAttr]) | (refine hK _ _ ?_; clear hK; try simp only [pst0, simprocAttr]))
   refine owp_useQ (cl _) (by (try simp only [Ty.w, simprocAttr, l1]); try rfl) ?_; simp (maxSteps := 2000000) only [Ty.w, simprocAttr, l1]
   skip
   refine owp_useQ (awake_c) (by (try simp only [Ty.w, simprocAttr, Bool.not_true]); try rfl) ?_; simp (maxSteps := 2000000) only [Ty.w, simprocAttr, Bool.not_true]
   repeat' (first | refine a_seq fun K hK => ?_ | (refine a_regionS ?_; simp (maxSteps := 2000000) only [Ty.w, simprocAttr, Bool.not_true]) | (refine a_skip ?_; try simp only [pst0, simprocAttr]) | (refine a_cond _ (by (try simp (maxSteps := 2000000) only [Ty.w, simprocAttr, Bool.not_true]); rfl) (fun hb => ?_) (fun hb => ?_) <;> (try simp only [hb0, decide_eq_true_eq, decide_eq_false_iff_not, simprocAttr] at hb) <;> (try (exfalso; omega))) | (refine hK _ _ ?_; clear hK; try simp only [pst0, simprocAttr]))
   refine owp_useQ (hR _) (by (try simp only [Ty.w, simprocAttr, Bool.not_true]); try rfl) ?_; simp (maxSteps := 2000000) only [Ty.w, simprocAttr, Bool.not_true]
   repeat' (first | refine a_seq fun K hK => ?_ | (refine a_drawS (by decide +kernel) ?_; simp (maxSteps := 2000000) only [Ty.w, simprocAttr, Bool.not_true]) | (refine a_skip ?_; try simp only [pst0, simprocAttr]) | (refine a_cond _ (by (try simp (maxSteps := 2000000) only [Ty.w, simprocAttr, Bool.not_true]); rfl) (fun hb => ?_) (fun hb => ?_) <;> (try simp only [hb0, decide_eq_true_eq, decide_eq_false_iff_not, simprocAttr] at hb) <;> (try (exfalso; omega))) | (refine hK _ _ ?_; clear hK; try simp only [pst0, simprocAttr]))
   (first | refine a_dcall0 (cn _) (by (try simp only [Ty.w, simprocAttr, ]); try rfl) ?_ | refine a_dcallA (cn _) (by (try simp only [Ty.w, simprocAttr, ]); try rfl) (by simp only [Ty.w, simprocAttr, ]; try trivial) ?_); simp (maxSteps := 2000000) only [Ty.w, simprocAttr, Option.getD_some, ]
   skip
   (first | refine a_dcall0 (crn _) (by (try simp only [Ty.w, simprocAttr, ]); try rfl) ?_ | refine a_dcallA (crn _) (by (try simp only [Ty.w, simprocAttr, ]); try rfl) (by simp only [Ty.w, simprocAttr, ]; try trivial) ?_); simp (maxSteps := 2000000) only [Ty.w, simprocAttr, Option.getD_some, ]
   skip
   (first | refine a_dcall0 (cs _) (by (try simp only [Ty.w, simprocAttr, ]); try rfl) ?_ | refine a_dcallA (cs _) (by (try simp only [Ty.w, simprocAttr, ]); try rfl) (by simp only [Ty.w, simprocAttr, ]; try trivial) ?_); simp (maxSteps := 2000000) only [Ty.w, simprocAttr, Option.getD_some, ]
   repeat' (first | (refine a_ret ?_; simp (maxSteps := 2000000) only [Ty.w, simprocAttr]) | (refine hK _ _ ?_; clear hK; try simp only [pst0, simprocAttr]))
end Go.Proofs.Ytjlkapgpjamnkaa
namespace Go.AM
open Go.ChangeShapes Go.WideShapes
section
variable {P : Program} {c : Nat} {t e : TypeId} {ps : List PV} {a : PV}
theorem Arg_int {k : IntKind} (hu : P.underlying t = some (.int k)) (h : Arg P (c + 1) t ps) : ∃ n, (Lit.int k n).wf = true ∧ ps = [.sc (.int k n)] := by
  unfold Arg at h; rw [hu] at h; exact h
theorem Arg_slice (hu : P.underlying t = some (.slice e)) (h : Arg P (c + 1) t ps) : ∃ rows, ps = [.imm (P.cellsOf e) rows] ∧ rows.length * P.bytesOf e ≤ reachBytes ∧ rows.length ≤ maxLen ∧ ∀ r ∈ rows, r.length = P.cellsOf e ∧ Arg P c e r := by
  unfold Arg at h; rw [hu] at h; exact h
theorem Arg_struct {fs : Array Field} (hu : P.underlying t = some (.struct fs)) (h : Arg P (c + 1) t ps) : ps.length = P.cellsOf t ∧ ∀ p ∈ partsT P t, Arg P c p.2 ((ps.drop p.1).take (P.cellsOf p.2)) := by
  unfold Arg at h; rw [hu] at h; exact h
theorem rows_map {α : Type} {Q : α → Prop} {f : α → List PV} : (rows : List (List PV)) → (∀ r ∈ rows, ∃ x, Q x ∧ r = f x) → ∃ xs : List α, rows = xs.map f ∧ ∀ x ∈ xs, Q x
  | [], _ => ⟨[], rfl, by simp⟩
  | r :: rows, h => by
    obtain ⟨xs, h1, h2⟩ := rows_map rows (fun q hq => h q (by simp [hq]))
    obtain ⟨x, h3, h4⟩ := h r (by simp)
    refine ⟨x :: xs, by simp [h1, h4], fun y hy => ?_⟩
    rcases List.mem_cons.1 hy with rfl | hy
    · exact h3
    · exact h2 y hy
theorem i64_in {n : Int} (h : (Lit.int .i64 n).wf = true) : -9223372036854775808 ≤ n ∧ n ≤ 9223372036854775807 := by
  simp [Lit.wf, IntKind.min, IntKind.max, IntKind.bits, IntKind.signed] at h
  omega
end
end Go.AM
namespace Go.Proofs.Ytjlkapgpjamnkaa
open Go.AM
set_option maxHeartbeats 1000000
set_option maxRecDepth 20000
def recTs : List TypeId := [29, 57, 99, 9, 3, 24, 25, 26, 27]
theorem parts57 : partsT Try.prog 57 = [(0, 9), (1, 9), (2, 3), (3, 24), (4, 26)] := by kernel_rfl
theorem parts29 : partsT Try.prog 29 = [(0, 9), (1, 9), (2, 24), (3, 25), (4, 26), (5, 27)] := by kernel_rfl
theorem parts99 : partsT Try.prog 99 = [(0, 9), (1, 9)] := by kernel_rfl
theorem co9 : Try.prog.cellsOf 9 = 1 := by kernel_rfl
theorem co3 : Try.prog.cellsOf 3 = 1 := by kernel_rfl
theorem co24 : Try.prog.cellsOf 24 = 1 := by kernel_rfl
theorem co25 : Try.prog.cellsOf 25 = 1 := by kernel_rfl
theorem co26 : Try.prog.cellsOf 26 = 1 := by kernel_rfl
theorem co27 : Try.prog.cellsOf 27 = 1 := by kernel_rfl
theorem co57 : Try.prog.cellsOf 57 = 5 := by kernel_rfl
theorem co29 : Try.prog.cellsOf 29 = 6 := by kernel_rfl
theorem co99 : Try.prog.cellsOf 99 = 2 := by kernel_rfl
theorem by9 : 0 < Try.prog.bytesOf 9 := by rw [show Try.prog.bytesOf 9 = 16 by kernel_rfl]; omega
theorem by99 : 0 < Try.prog.bytesOf 99 := by rw [show Try.prog.bytesOf 99 = 32 by kernel_rfl]; omega
theorem by57 : 0 < Try.prog.bytesOf 57 := by rw [show Try.prog.bytesOf 57 = 88 by kernel_rfl]; omega
theorem by29 : 0 < Try.prog.bytesOf 29 := by rw [show Try.prog.bytesOf 29 = 128 by kernel_rfl]; omega
theorem len_le {n b : Nat} (h : n * b ≤ reachBytes) (hb : 0 < b) : n ≤ bigN := by
 have := Nat.le_mul_of_pos_right n hb
 unfold reachBytes at h
 unfold bigN
 omega
theorem arg_str {c : Nat} {ps : List PV} (h : Arg Try.prog c 9 ps) : ∃ s : ByteArray, s.size ≤ bigN ∧ ps = [sPV s] := by
 cases c with
 | zero => simp [Arg] at h
 | succ c =>
  unfold Arg at h
  rw [Try.underlying9] at h
  obtain ⟨s, h1, h2⟩ := h
  exact ⟨s, by unfold reachBytes at h1; unfold bigN; omega, h2⟩
theorem arg_i64 {c : Nat} {ps : List PV} (h : Arg Try.prog c 3 ps) : ∃ n : Int, (-9223372036854775808 ≤ n ∧ n ≤ 9223372036854775807) ∧ ps = [.sc (.int .i64 n)] := by
 cases c with
 | zero => simp [Arg] at h
 | succ c =>
  obtain ⟨n, h1, h2⟩ := Arg_int Try.underlying3 h
  exact ⟨n, i64_in h1, h2⟩
theorem arg_strs {c : Nat} {ps : List PV} (h : Arg Try.prog c 24 ps) : ∃ l : List ByteArray, (l.length ≤ bigN ∧ ∀ a ∈ l, a.size ≤ bigN) ∧ ps = [.imm 1 (strRows l)] := by
 cases c with
 | zero => simp [Arg] at h
 | succ c =>
  obtain ⟨rows, rfl, h1, _, h2⟩ := Arg_slice Try.underlying24 h
  obtain ⟨xs, rfl, h3⟩ := rows_map (Q := fun s : ByteArray => s.size ≤ bigN) (f := fun s => [sPV s]) rows (fun r hr => arg_str (h2 r hr).2)
  refine ⟨xs, ⟨len_le (by simpa using h1) by9, h3⟩, ?_⟩
  rw [co9]; try rfl
theorem arg_pm {c : Nat} {ps : List PV} (h : Arg Try.prog c 99 ps) : ∃ p : Pm, p.ok ∧ ps = pmRow p := by
 cases c with
 | zero => simp [Arg] at h
 | succ c =>
  obtain ⟨h1, h2⟩ := Arg_struct Try.underlying99 h
  rw [co99] at h1
  rw [parts99] at h2
  match ps, h1, h2 with
  | [p0, p1], _, h2 =>
   have a0 := h2 (0, 9) (by simp)
   have a1 := h2 (1, 9) (by simp)
   simp only [co9, List.drop_zero, List.drop_succ_cons, List.take_succ_cons, List.take_zero] at a0 a1
   obtain ⟨s, hs, e1⟩ := arg_str a0
   obtain ⟨t, ht, e2⟩ := arg_str a1
   simp at e1 e2
   exact ⟨⟨s, t⟩, ⟨hs, ht⟩, by simp [pmRow, e1, e2]⟩
theorem arg_pms {c : Nat} {ps : List PV} (h : Arg Try.prog c 25 ps) : ∃ l : List Pm, (l.length ≤ bigN ∧ ∀ a ∈ l, a.ok) ∧ ps = [.imm 2 (pmRows l)] := by
 cases c with
 | zero => simp [Arg] at h
 | succ c =>
  obtain ⟨rows, rfl, h1, _, h2⟩ := Arg_slice Try.underlying25 h
  obtain ⟨xs, rfl, h3⟩ := rows_map (Q := Pm.ok) (f := pmRow) rows (fun r hr => arg_pm (h2 r hr).2)
  refine ⟨xs, ⟨len_le (by simpa using h1) by99, h3⟩, ?_⟩
  rw [co99]; try rfl
theorem arg_ex : ∀ (c : Nat) {ps : List PV}, Arg Try.prog c 57 ps → ∃ e : Ex, e.ok ∧ ps = e.cells := by
 intro c
 induction c using Nat.strongRecOn with
 | _ c ih =>
  intro ps h
  cases c with
  | zero => simp [Arg] at h
  | succ c =>
   obtain ⟨h1, h2⟩ := Arg_struct Try.underlying57 h
   rw [co57] at h1
   rw [parts57] at h2
   match ps, h1, h2 with
   | [p0, p1, p2, p3, p4], _, h2 =>
    have a0 := h2 (0, 9) (by simp)
    have a1 := h2 (1, 9) (by simp)
    have a2 := h2 (2, 3) (by simp)
    have a3 := h2 (3, 24) (by simp)
    have a4 := h2 (4, 26) (by simp)
    simp only [co9, co3, co24, co26, List.drop_zero, List.drop_succ_cons, List.take_succ_cons, List.take_zero] at a0 a1 a2 a3 a4
    obtain ⟨op, hop, e0⟩ := arg_str a0
    obtain ⟨name, hname, e1⟩ := arg_str a1
    obtain ⟨n, hn, e2⟩ := arg_i64 a2
    obtain ⟨args, hargs, e3⟩ := arg_strs a3
    cases c with
    | zero => simp [Arg] at a4
    | succ c =>
     obtain ⟨rows, e4, h3, _, h4⟩ := Arg_slice Try.underlying26 a4
     obtain ⟨xs, rfl, h5⟩ := rows_map (Q := Ex.ok) (f := Ex.cells) rows (fun r hr => ih c (by omega) (h4 r hr).2)
     rw [co57] at e4
     simp at e0 e1 e2 e3 e4
     refine ⟨.mk op name n args xs, ?_, ?_⟩
     ·simp only [Ex.ok]
      exact ⟨hop, hname, hn, hargs, len_le (by simpa using h3) by57, Ex.oks_iff.2 h5⟩
     ·simp only [Ex.cells, e0, e1, e2, e3, e4, Ex.rows_map]
theorem arg_exs {c : Nat} {ps : List PV} (h : Arg Try.prog c 26 ps) : ∃ l : List Ex, (l.length ≤ bigN ∧ Ex.oks l) ∧ ps = [.imm 5 (Ex.rows l)] := by
 cases c with
 | zero => simp [Arg] at h
 | succ c =>
  obtain ⟨rows, rfl, h1, _, h2⟩ := Arg_slice Try.underlying26 h
  obtain ⟨xs, rfl, h3⟩ := rows_map (Q := Ex.ok) (f := Ex.cells) rows (fun r hr => arg_ex c (h2 r hr).2)
  refine ⟨xs, ⟨len_le (by simpa using h1) by57, Ex.oks_iff.2 h3⟩, ?_⟩
  rw [co57, Ex.rows_map]
theorem arg_fm : ∀ (c : Nat) {ps : List PV}, Arg Try.prog c 29 ps → ∃ f : Fm, f.ok ∧ ps = f.cells := by
 intro c
 induction c using Nat.strongRecOn with
 | _ c ih =>
  intro ps h
  cases c with
  | zero => simp [Arg] at h
  | succ c =>
   obtain ⟨h1, h2⟩ := Arg_struct Try.underlying29 h
   rw [co29] at h1
   rw [parts29] at h2
   match ps, h1, h2 with
   | [p0, p1, p2, p3, p4, p5], _, h2 =>
    have a0 := h2 (0, 9) (by simp)
    have a1 := h2 (1, 9) (by simp)
    have a2 := h2 (2, 24) (by simp)
    have a3 := h2 (3, 25) (by simp)
    have a4 := h2 (4, 26) (by simp)
    have a5 := h2 (5, 27) (by simp)
    simp only [co9, co24, co25, co26, co27, List.drop_zero, List.drop_succ_cons, List.take_succ_cons, List.take_zero] at a0 a1 a2 a3 a4 a5
    obtain ⟨op, hop, e0⟩ := arg_str a0
    obtain ⟨name, hname, e1⟩ := arg_str a1
    obtain ⟨args, hargs, e2⟩ := arg_strs a2
    obtain ⟨params, hparams, e3⟩ := arg_pms a3
    obtain ⟨exprs, hexprs, e4⟩ := arg_exs a4
    cases c with
    | zero => simp [Arg] at a5
    | succ c =>
     obtain ⟨rows, e5, h3, _, h4⟩ := Arg_slice Try.underlying27 a5
     obtain ⟨xs, rfl, h5⟩ := rows_map (Q := Fm.ok) (f := Fm.cells) rows (fun r hr => ih c (by omega) (h4 r hr).2)
     rw [co29] at e5
     simp at e0 e1 e2 e3 e4 e5
     refine ⟨.mk op name args params exprs xs, ?_, ?_⟩
     ·simp only [Fm.ok]
      exact ⟨hop, hname, hargs, hparams, hexprs, len_le (by simpa using h3) by29, Fm.oks_iff.2 h5⟩
     ·simp only [Fm.cells, e0, e1, e2, e3, e4, e5, Fm.rows_map]
end Go.Proofs.Ytjlkapgpjamnkaa
