/- What the claim rests on, part 6: the abstract machine, contracts of the functions, plain data. -/
import Derived.Test.YtjlkapgpjamnkaaZp5
set_option linter.unusedVariables false
set_option linter.unusedSimpArgs false
set_option linter.unusedSectionVars false
namespace Go.AM
mutual
def Fm.small : Fm → Prop
 | .mk _ _ args params exprs kids => args.length ≤ 1048576 ∧ params.length ≤ 1048576 ∧ Ex.smalls exprs ∧ kids.length ≤ 1048576 ∧ Fm.smalls kids
def Fm.smalls : List Fm → Prop
 | [] => True
 | k :: ks => k.small ∧ Fm.smalls ks
end
theorem Fm.smalls_iff : {l : List Fm} → (Fm.smalls l ↔ ∀ k ∈ l, k.small)
 | [] => by simp [Fm.smalls]
 | k :: ks => by simp [Fm.smalls, Fm.smalls_iff (l := ks)]
end Go.AM
namespace Go.Proofs.Ytjlkapgpjamnkaa
open Go.AM
set_option maxHeartbeats 4000000
set_option maxRecDepth 20000
structure WrI (h : Heap) (L : List Sx) (h' : Heap) : Prop where
 grow : Grow h h'
 ex : ∃ p H, h.next + 1 < h'.next ∧ h'.obj h.next = some (.arr 6 [[.sc (.int .i64 0), .sc (.int .i64 0), .sc (.int .i64 0), .sc (.int .i64 0), .sc (.string ⟨#[]⟩), .sc (.slice none 0 0)]]) ∧
  h'.obj (h.next + 1) = some (.arr 6 [[.sc (.int .i64 3), .sc (.int .i64 0), .sc (.int .i64 0), .sc (.int .i64 0), .sc (.string ⟨#[]⟩), p]]) ∧ Tl h' (h.next + 2) 6 p (Sx.rows L) ∧
  isTail h' p = some (H, Sx.rows L) ∧ zOk h' 6 p = true ∧ H.next = h'.next ∧ (∀ j, j < h.next + 2 → H.obj j = h'.obj j) ∧ Grow h H ∧ p.cells = [p] ∧ oneC p = true
theorem WrI.mk2 {h h' : Heap} {L : List Sx} {p : PV} (g : Grow h h') (hn : h.next + 1 < h'.next) (o1 : h'.obj h.next = some (.arr 6 [[.sc (.int .i64 0), .sc (.int .i64 0), .sc (.int .i64 0), .sc (.int .i64 0), .sc (.string ⟨#[]⟩), .sc (.slice none 0 0)]])) (o2 : h'.obj (h.next + 1) = some (.arr 6 [[.sc (.int .i64 3), .sc (.int .i64 0), .sc (.int .i64 0), .sc (.int .i64 0), .sc (.string ⟨#[]⟩), p]])) (tl : Tl h' (h.next + 2) 6 p (Sx.rows L)) : WrI h L h' := by
 obtain ⟨H, t1, t2, t3, t4, t5⟩ := tl.tail
 have hk := t5 h ⟨g.le, g.old⟩ (by omega)
 refine ⟨g, p, H, hn, o1, o2, tl, t1, t2, t3, t4, ⟨hk.1, hk.2⟩, ?_, ?_⟩
 ·rcases tl with ⟨_, rfl | rfl⟩ | ⟨_, _, _, rfl, _⟩ <;> rfl
 ·rcases tl with ⟨_, rfl | rfl⟩ | ⟨_, _, _, rfl, _⟩ <;> rfl
theorem Tl.low {h : Heap} {a b z : Nat} {p : PV} {rows : List (List PV)} (t : Tl h a z p rows) (hab : b ≤ a) : Tl h b z p rows := by
 rcases t with ht | ⟨id, h1, h2⟩
 ·exact .inl ht
 ·exact .inr ⟨id, by omega, h2⟩
theorem WrI.push {h h' H : Heap} {L : List Sx} {X : Sx} {m : Nat} (hn : h.next + 1 < h'.next) (o1 : h'.obj h.next = some (.arr 6 [[.sc (.int .i64 0), .sc (.int .i64 0), .sc (.int .i64 0), .sc (.int .i64 0), .sc (.string ⟨#[]⟩), .sc (.slice none 0 0)]])) (t3 : H.next = h'.next) (t4 : ∀ j, j < h.next + 2 → H.obj j = h'.obj j) (g : Grow h H) (hm : m = L.length + 1) :
  WrI h (L ++ [X]) ((H.new (.arr 6 (Sx.rows L ++ [X.cells]))).set (h.next + 1) (.arr 6 [[.sc (.int .i64 3), .sc (.int .i64 0), .sc (.int .i64 0), .sc (.int .i64 0), .sc (.string ⟨#[]⟩), .own h'.next 0 m]])) := by
 have e1 : Sx.rows (L ++ [X]) = Sx.rows L ++ [X.cells] := by simp [Sx.rows_map]
 have n1 : ¬ h.next = h.next + 1 := by omega
 have n2 : ¬ h.next = H.next := by omega
 refine WrI.mk2 (p := .own h'.next 0 m) ((g.new _).set (by omega) _) (by simp only [Heap.set, Heap.new]; omega) ?_ ?_ ?_
 rotate_left
 ·simp only [Heap.set, if_true]
 ·rw [e1, ← t3]
  have : Tl (H.new (.arr 6 (Sx.rows L ++ [X.cells]))) (h.next + 2) 6 (.own H.next 0 m) (Sx.rows L ++ [X.cells]) := Tl.grow (by omega) (by rw [hm]; simp [Sx.rows_len])
  exact this.up (Nat.le_refl _) (fun j hj _ => by simp only [Heap.set]; rw [if_neg (by omega)])
 ·simp only [Heap.set, Heap.new, n1, n2, if_false]
  rw [t4 _ (by omega)]; exact o1
theorem a_heap {P : Program} {ow : Nat → Bool} {wf : FuncId → Bool} {n : Nat} {Q : Post} {s : Slots} {h0 : Heap} {c : Code} (I : Heap → Prop) (hi : I h0) (hh : ∀ h', I h' → awp P ow wf n c Q s h') : awp P ow wf n c Q s h0 := hh _ hi
theorem write_c : ∀ f : Fm, f.small → shapedF f = true → ∀ h : Heap, PCall Try.prog 65 [.agg f.cells] h fun r h' => r = .agg (fmW f).cells ∧ h' = h := by
 refine Fm.ind ?_
 intro op name args params exprs kids ih hsm hsh h
 simp only [Fm.small] at hsm
 obtain ⟨hal, hpl, hes, hkl, hks⟩ := hsm
 rw [Ex.smalls_iff] at hes
 rw [Fm.smalls_iff] at hks
 simp only [shapedF, Bool.and_eq_true] at hsh
 obtain ⟨⟨hpo, hse⟩, hsk⟩ := hsh
 rw [shapedFs_iff] at hsk
 rw [List.all_eq_true] at hse
 have hlK := Fm.rows_len kids
 unfold fmW
 refine PCall.frz Ty.hb_65 ?_
 cases k1 : (op.data.toList == (#[97, 116, 111, 109] : Array UInt8).toList) with
 | true =>
  rw [if_pos (show bEq op opAtom = true from k1)]
  have hw : ∀ h : Heap, PCall Try.prog 109 [sPV name, .imm 1 (strRows args)] h fun r h' => r = .agg (wordsM name args).cells ∧ h' = h := fun h => words_c hal
  have hfz := fun (n : Nat) (h : Heap) => sx_frz n h (wordsM name args)
  simp only [Fm.cells]
  generalize wordsM name args = X at hw hfz ⊢
  obtain ⟨ki, va, li, co, te, ks⟩ := X
  simp only [Sx.cells] at hw hfz ⊢
  refine pcall_body (ow := fun _ => false) (wf := fun _ => false) Ty.mixed Try.func65 rfl Ty.hb_65 (by rw [Try.ntmps65]; simp) ?_
  rw [Try.ntmps65, Try.results65]
  repeat' (first | refine a_seq fun K hK => ?_ | (refine a_regionS ?_; simp (maxSteps := 2000000) only [Ty.w, simprocAttr, k1]) | (refine hK _ _ ?_; clear hK; try simp only [pst0, simprocAttr]))
  refine owp_useQ (hw _) (by (try simp only [Ty.w, simprocAttr, k1]); try rfl) ?_; simp (maxSteps := 2000000) only [Ty.w, simprocAttr, k1]
  repeat' (first | (refine a_ret ?_; simp (maxSteps := 2000000) only [Ty.w, simprocAttr]) | (refine hK _ _ ?_; clear hK; try simp only [pst0, simprocAttr]))
  refine ⟨?_, ((Grow.refl h).new _).set (Nat.le_refl _) _⟩
  simp only [FrzTo]
  exact ⟨_, rfl, hfz _ _⟩
 | false =>
  cases k2 : (op.data.toList == (#[115, 97, 109, 101] : Array UInt8).toList) with
  | true =>
   rw [if_neg (by rw [(show bEq op opAtom = false from k1)]; simp)]
   rw [if_pos (show bEq op opSame = true from k2)]
   have hw : ∀ h : Heap, PCall Try.prog 109 [sPV ⟨#[61]⟩, .imm 1 (strRows args)] h fun r h' => r = .agg (wordsM opEq args).cells ∧ h' = h := fun h => words_c hal
   have hfz := fun (n : Nat) (h : Heap) => sx_frz n h (wordsM opEq args)
   simp only [Fm.cells]
   generalize wordsM opEq args = X at hw hfz ⊢
   obtain ⟨ki, va, li, co, te, ks⟩ := X
   simp only [Sx.cells] at hw hfz ⊢
   refine pcall_body (ow := fun _ => false) (wf := fun _ => false) Ty.mixed Try.func65 rfl Ty.hb_65 (by rw [Try.ntmps65]; simp) ?_
   rw [Try.ntmps65, Try.results65]
   repeat' (first | refine a_seq fun K hK => ?_ | (refine a_regionS ?_; simp (maxSteps := 2000000) only [Ty.w, simprocAttr, k1, k2]) | (refine hK _ _ ?_; clear hK; try simp only [pst0, simprocAttr]))
   refine owp_useQ (hw _) (by (try simp only [Ty.w, simprocAttr, k1, k2]); try rfl) ?_; simp (maxSteps := 2000000) only [Ty.w, simprocAttr, k1, k2]
   repeat' (first | (refine a_ret ?_; simp (maxSteps := 2000000) only [Ty.w, simprocAttr]) | (refine hK _ _ ?_; clear hK; try simp only [pst0, simprocAttr]))
   refine ⟨?_, ((Grow.refl h).new _).set (Nat.le_refl _) _⟩
   simp only [FrzTo]
   exact ⟨_, rfl, hfz _ _⟩
  | false =>
   rw [if_neg (by rw [(show bEq op opAtom = false from k1)]; simp), if_neg (by rw [(show bEq op opSame = false from k2)]; simp)]
   cases k3 : (op.data.toList == (#[60] : Array UInt8).toList) with
   | true =>
    rw [if_pos (by simp [isCmp, (show bEq op opAtom = false from k1), (show bEq op opSame = false from k2), (show bEq op opLt = true from k3)])]
    have hx2 : exprs.length = 2 := by have q := hpo; simp [partsOk, shapeOf, (show bEq op opAtom = false from k1), (show bEq op opSame = false from k2), (show bEq op opLt = true from k3)] at q; omega
    obtain ⟨a, b, rfl⟩ : ∃ a b, exprs = [a, b] := by
     match exprs, hx2 with
     | [a, b], _ => exact ⟨a, b, rfl⟩
    have ca := writeE_c a (hes a (by simp)) (hse a (by simp))
    have cb := writeE_c b (hes b (by simp)) (hse b (by simp))
    have hw := fun h : Heap => word_c (h := h) (s := op)
    simp only [List.map_cons, List.map_nil]
    have hfz := fun (n : Nat) (h : Heap) => sx_frz n h (listM [wordM op, exW a, exW b])
    have hl := fun h : Heap => list_c (h := h) (p := .imm 6 (Sx.rows [wordM op, exW a, exW b])) rfl (fun _ => frz_imm (sxs_in _ _))
    generalize exW a = xa at ca hfz hl ⊢
    generalize exW b = xb at cb hfz hl ⊢
    clear ih hks hpo hse hsk hes
    obtain ⟨aop, aname, an, aargs, akids⟩ := a
    obtain ⟨bop, bname, bn, bargs, bkids⟩ := b
    obtain ⟨ki, va, li, co, te, ks⟩ := xa
    obtain ⟨ki2, va2, li2, co2, te2, ks2⟩ := xb
    simp only [Fm.cells, Ex.cells, Ex.rows, listM, Sx.cells, Sx.rows, wordM] at ca cb hw hfz hl ⊢
    refine pcall_body (ow := fun _ => false) (wf := fun _ => false) Ty.mixed Try.func65 rfl Ty.hb_65 (by rw [Try.ntmps65]; simp) ?_
    rw [Try.ntmps65, Try.results65]
    repeat' (first | refine a_seq fun K hK => ?_ | ((first | refine a_regionS ?_ | refine a_drawS (by decide +kernel) ?_); simp (maxSteps := 2000000) only [Ty.w, simprocAttr, k1, k2, k3]) | (refine a_skip ?_; try simp only [pst0, simprocAttr]) | (refine a_cond _ (by (try simp (maxSteps := 2000000) only [Ty.w, simprocAttr, k1, k2, k3]); rfl) (fun hb => ?_) (fun hb => ?_) <;> (try simp only [hb0, decide_eq_true_eq, decide_eq_false_iff_not, simprocAttr] at hb) <;> (try (exfalso; omega))) | (refine hK _ _ ?_; clear hK; try simp only [pst0, simprocAttr]))
    (first | refine a_dcall0 (hw _) (by (try simp only [Ty.w, simprocAttr, ]); try rfl) ?_ | refine a_dcallA (hw _) (by (try simp only [Ty.w, simprocAttr, ]); try rfl) (by simp only [Ty.w, simprocAttr, ]; try trivial) ?_); simp (maxSteps := 2000000) only [Ty.w, simprocAttr, Option.getD_some, ]
    skip
    (first | refine a_dcall0 (ca _) (by (try simp only [Ty.w, simprocAttr, ]); try rfl) ?_ | refine a_dcallA (ca _) (by (try simp only [Ty.w, simprocAttr, ]); try rfl) (by simp only [Ty.w, simprocAttr, ]; try trivial) ?_); simp (maxSteps := 2000000) only [Ty.w, simprocAttr, Option.getD_some, ]
    skip
    (first | refine a_dcall0 (cb _) (by (try simp only [Ty.w, simprocAttr, ]); try rfl) ?_ | refine a_dcallA (cb _) (by (try simp only [Ty.w, simprocAttr, ]); try rfl) (by simp only [Ty.w, simprocAttr, ]; try trivial) ?_); simp (maxSteps := 2000000) only [Ty.w, simprocAttr, Option.getD_some, ]
    skip
    (first | refine a_dcall0 (hl _) (by (try simp only [Ty.w, simprocAttr, ]); try rfl) ?_ | refine a_dcallA (hl _) (by (try simp only [Ty.w, simprocAttr, ]); try rfl) (by simp only [Ty.w, simprocAttr, ]; try trivial) ?_); simp (maxSteps := 2000000) only [Ty.w, simprocAttr, Option.getD_some, ]
    repeat' (first | (refine a_ret ?_; simp (maxSteps := 2000000) only [Ty.w, simprocAttr]) | (refine hK _ _ ?_; clear hK; try simp only [pst0, simprocAttr]) | (with_reducible refine a_past2 (by simp only [List.forall_mem_cons, Ty.w, simprocAttr]; (repeat' apply And.intro) <;> first | trivial | exact .inl (by decide +kernel)) ?_; try simp (maxSteps := 2000000) only [Ty.w, simprocAttr]))
    refine ⟨?_, ((Grow.refl h).new _).set (Nat.le_refl _) _⟩
    simp only [FrzTo]
    exact ⟨_, rfl, hfz _ _⟩
   | false =>
    cases k4 : (op.data.toList == (#[60, 61] : Array UInt8).toList) with
    | true =>
     rw [if_pos (by simp [isCmp, (show bEq op opAtom = false from k1), (show bEq op opSame = false from k2), (show bEq op opLt = false from k3), (show bEq op opLe = true from k4)])]
     have hx2 : exprs.length = 2 := by have q := hpo; simp [partsOk, shapeOf, (show bEq op opAtom = false from k1), (show bEq op opSame = false from k2), (show bEq op opLt = false from k3), (show bEq op opLe = true from k4)] at q; omega
     obtain ⟨a, b, rfl⟩ : ∃ a b, exprs = [a, b] := by
      match exprs, hx2 with
      | [a, b], _ => exact ⟨a, b, rfl⟩
     have ca := writeE_c a (hes a (by simp)) (hse a (by simp))
     have cb := writeE_c b (hes b (by simp)) (hse b (by simp))
     have hw := fun h : Heap => word_c (h := h) (s := op)
     simp only [List.map_cons, List.map_nil]
     have hfz := fun (n : Nat) (h : Heap) => sx_frz n h (listM [wordM op, exW a, exW b])
     have hl := fun h : Heap => list_c (h := h) (p := .imm 6 (Sx.rows [wordM op, exW a, exW b])) rfl (fun _ => frz_imm (sxs_in _ _))
     generalize exW a = xa at ca hfz hl ⊢
     generalize exW b = xb at cb hfz hl ⊢
     clear ih hks hpo hse hsk hes
     obtain ⟨aop, aname, an, aargs, akids⟩ := a
     obtain ⟨bop, bname, bn, bargs, bkids⟩ := b
     obtain ⟨ki, va, li, co, te, ks⟩ := xa
     obtain ⟨ki2, va2, li2, co2, te2, ks2⟩ := xb
     simp only [Fm.cells, Ex.cells, Ex.rows, listM, Sx.cells, Sx.rows, wordM] at ca cb hw hfz hl ⊢
     refine pcall_body (ow := fun _ => false) (wf := fun _ => false) Ty.mixed Try.func65 rfl Ty.hb_65 (by rw [Try.ntmps65]; simp) ?_
     rw [Try.ntmps65, Try.results65]
     repeat' (first | refine a_seq fun K hK => ?_ | ((first | refine a_regionS ?_ | refine a_drawS (by decide +kernel) ?_); simp (maxSteps := 2000000) only [Ty.w, simprocAttr, k1, k2, k3, k4]) | (refine a_skip ?_; try simp only [pst0, simprocAttr]) | (refine a_cond _ (by (try simp (maxSteps := 2000000) only [Ty.w, simprocAttr, k1, k2, k3, k4]); rfl) (fun hb => ?_) (fun hb => ?_) <;> (try simp only [hb0, decide_eq_true_eq, decide_eq_false_iff_not, simprocAttr] at hb) <;> (try (exfalso; omega))) | (refine hK _ _ ?_; clear hK; try simp only [pst0, simprocAttr]))
     (first | refine a_dcall0 (hw _) (by (try simp only [Ty.w, simprocAttr, ]); try rfl) ?_ | refine a_dcallA (hw _) (by (try simp only [Ty.w, simprocAttr, ]); try rfl) (by simp only [Ty.w, simprocAttr, ]; try trivial) ?_); simp (maxSteps := 2000000) only [Ty.w, simprocAttr, Option.getD_some, ]
     skip
     (first | refine a_dcall0 (ca _) (by (try simp only [Ty.w, simprocAttr, ]); try rfl) ?_ | refine a_dcallA (ca _) (by (try simp only [Ty.w, simprocAttr, ]); try rfl) (by simp only [Ty.w, simprocAttr, ]; try trivial) ?_); simp (maxSteps := 2000000) only [Ty.w, simprocAttr, Option.getD_some, ]
     skip
     (first | refine a_dcall0 (cb _) (by (try simp only [Ty.w, simprocAttr, ]); try rfl) ?_ | refine a_dcallA (cb _) (by (try simp only [Ty.w, simprocAttr, ]); try rfl) (by simp only [Ty.w, simprocAttr, ]; try trivial) ?_); simp (maxSteps := 2000000) only [Ty.w, simprocAttr, Option.getD_some, ]
     skip
     (first | refine a_dcall0 (hl _) (by (try simp only [Ty.w, simprocAttr, ]); try rfl) ?_ | refine a_dcallA (hl _) (by (try simp only [Ty.w, simprocAttr, ]); try rfl) (by simp only [Ty.w, simprocAttr, ]; try trivial) ?_); simp (maxSteps := 2000000) only [Ty.w, simprocAttr, Option.getD_some, ]
     repeat' (first | (refine a_ret ?_; simp (maxSteps := 2000000) only [Ty.w, simprocAttr]) | (refine hK _ _ ?_; clear hK; try simp only [pst0, simprocAttr]) | (with_reducible refine a_past2 (by simp only [List.forall_mem_cons, Ty.w, simprocAttr]; (repeat' apply And.intro) <;> first | trivial | exact .inl (by decide +kernel)) ?_; try simp (maxSteps := 2000000) only [Ty.w, simprocAttr]))
     refine ⟨?_, ((Grow.refl h).new _).set (Nat.le_refl _) _⟩
     simp only [FrzTo]
     exact ⟨_, rfl, hfz _ _⟩
    | false =>
     cases k5 : (op.data.toList == (#[61] : Array UInt8).toList) with
     | true =>
      rw [if_pos (by simp [isCmp, (show bEq op opAtom = false from k1), (show bEq op opSame = false from k2), (show bEq op opLt = false from k3), (show bEq op opLe = false from k4), (show bEq op opEq = true from k5)])]
      have hx2 : exprs.length = 2 := by have q := hpo; simp [partsOk, shapeOf, (show bEq op opAtom = false from k1), (show bEq op opSame = false from k2), (show bEq op opLt = false from k3), (show bEq op opLe = false from k4), (show bEq op opEq = true from k5)] at q; omega
      obtain ⟨a, b, rfl⟩ : ∃ a b, exprs = [a, b] := by
       match exprs, hx2 with
       | [a, b], _ => exact ⟨a, b, rfl⟩
      have ca := writeE_c a (hes a (by simp)) (hse a (by simp))
      have cb := writeE_c b (hes b (by simp)) (hse b (by simp))
      have hw := fun h : Heap => word_c (h := h) (s := op)
      simp only [List.map_cons, List.map_nil]
      have hfz := fun (n : Nat) (h : Heap) => sx_frz n h (listM [wordM op, exW a, exW b])
      have hl := fun h : Heap => list_c (h := h) (p := .imm 6 (Sx.rows [wordM op, exW a, exW b])) rfl (fun _ => frz_imm (sxs_in _ _))
      generalize exW a = xa at ca hfz hl ⊢
      generalize exW b = xb at cb hfz hl ⊢
      clear ih hks hpo hse hsk hes
      obtain ⟨aop, aname, an, aargs, akids⟩ := a
      obtain ⟨bop, bname, bn, bargs, bkids⟩ := b
      obtain ⟨ki, va, li, co, te, ks⟩ := xa
      obtain ⟨ki2, va2, li2, co2, te2, ks2⟩ := xb
      simp only [Fm.cells, Ex.cells, Ex.rows, listM, Sx.cells, Sx.rows, wordM] at ca cb hw hfz hl ⊢
      refine pcall_body (ow := fun _ => false) (wf := fun _ => false) Ty.mixed Try.func65 rfl Ty.hb_65 (by rw [Try.ntmps65]; simp) ?_
      rw [Try.ntmps65, Try.results65]
      repeat' (first | refine a_seq fun K hK => ?_ | ((first | refine a_regionS ?_ | refine a_drawS (by decide +kernel) ?_); simp (maxSteps := 2000000) only [Ty.w, simprocAttr, k1, k2, k3, k4, k5]) | (refine a_cond _ (by (try simp (maxSteps := 2000000) only [Ty.w, simprocAttr, k1, k2, k3, k4, k5]); rfl) (fun hb => ?_) (fun hb => ?_) <;> (try simp only [hb0, decide_eq_true_eq, decide_eq_false_iff_not, simprocAttr] at hb) <;> (try (exfalso; omega))) | (refine hK _ _ ?_; clear hK; try simp only [pst0, simprocAttr]))
      (first | refine a_dcall0 (hw _) (by (try simp only [Ty.w, simprocAttr, ]); try rfl) ?_ | refine a_dcallA (hw _) (by (try simp only [Ty.w, simprocAttr, ]); try rfl) (by simp only [Ty.w, simprocAttr, ]; try trivial) ?_); simp (maxSteps := 2000000) only [Ty.w, simprocAttr, Option.getD_some, ]
      skip
      (first | refine a_dcall0 (ca _) (by (try simp only [Ty.w, simprocAttr, ]); try rfl) ?_ | refine a_dcallA (ca _) (by (try simp only [Ty.w, simprocAttr, ]); try rfl) (by simp only [Ty.w, simprocAttr, ]; try trivial) ?_); simp (maxSteps := 2000000) only [Ty.w, simprocAttr, Option.getD_some, ]
      skip
      (first | refine a_dcall0 (cb _) (by (try simp only [Ty.w, simprocAttr, ]); try rfl) ?_ | refine a_dcallA (cb _) (by (try simp only [Ty.w, simprocAttr, ]); try rfl) (by simp only [Ty.w, simprocAttr, ]; try trivial) ?_); simp (maxSteps := 2000000) only [Ty.w, simprocAttr, Option.getD_some, ]
      skip
      (first | refine a_dcall0 (hl _) (by (try simp only [Ty.w, simprocAttr, ]); try rfl) ?_ | refine a_dcallA (hl _) (by (try simp only [Ty.w, simprocAttr, ]); try rfl) (by simp only [Ty.w, simprocAttr, ]; try trivial) ?_); simp (maxSteps := 2000000) only [Ty.w, simprocAttr, Option.getD_some, ]
      repeat' (first | (refine a_ret ?_; simp (maxSteps := 2000000) only [Ty.w, simprocAttr]) | (refine hK _ _ ?_; clear hK; try simp only [pst0, simprocAttr]) | (with_reducible refine a_past2 (by simp only [List.forall_mem_cons, Ty.w, simprocAttr]; (repeat' apply And.intro) <;> first | trivial | exact .inl (by decide +kernel)) ?_; try simp (maxSteps := 2000000) only [Ty.w, simprocAttr]))
      refine ⟨?_, ((Grow.refl h).new _).set (Nat.le_refl _) _⟩
      simp only [FrzTo]
      exact ⟨_, rfl, hfz _ _⟩
     | false =>
      rw [if_neg (by simp [isCmp, (show bEq op opLt = false from k3), (show bEq op opLe = false from k4), (show bEq op opEq = false from k5)])]
      clear hse hes hpo
      simp only [Fm.cells]
      refine pcall_body (ow := fun _ => false) (wf := fun _ => false) Ty.mixed Try.func65 rfl Ty.hb_65 (by rw [Try.ntmps65]; simp) ?_
      rw [Try.ntmps65, Try.results65]
      repeat' (first | refine a_seq fun K hK => ?_ | (refine a_block ?_) | (refine a_regionS ?_; simp (maxSteps := 2000000) only [Ty.w, simprocAttr, k1, k2, k3, k4, k5]) | (refine a_skip ?_; try simp only [pst0, simprocAttr]) | (refine a_cond _ (by (try simp (maxSteps := 2000000) only [Ty.w, simprocAttr, k1, k2, k3, k4, k5]); rfl) (fun hb => ?_) (fun hb => ?_) <;> (try simp only [hb0, decide_eq_true_eq, decide_eq_false_iff_not, simprocAttr] at hb) <;> (try (exfalso; omega))) | (refine hK _ _ ?_; clear hK; try simp only [pst0, simprocAttr]))
      refine owp_useQ (list_c (p := .sc (.slice none 0 0)) rfl (fun _ => by simp only [FrzTo])) (by (try simp only [Ty.w, simprocAttr, k1]); try rfl) ?_; simp (maxSteps := 2000000) only [Ty.w, simprocAttr, k1]
      repeat' (first | (with_reducible refine a_hold 11 ?_) | (refine hK _ _ ?_; clear hK; try simp only [pst0, simprocAttr]))
      refine ⟨?_⟩
      refine a_heap (WrI h []) ?_ (fun H0 hI => ?_)
      ·refine WrI.mk2 (p := .sc (.slice none 0 0)) ((((Grow.refl h).new _).new _).set (by omega) _) (by simp [Heap.new, Heap.set]) (by simp [Heap.new, Heap.set]) (by simp [Heap.new, Heap.set]) Tl.nil
      refine a_cut (fun S h' => S 1 = .cptr (Fm.mk op name args params exprs kids).cells ∧ S 2 = .ptr h.next 0 0 ∧ S 3 = .ptr (h.next + 1) 0 0 ∧ WrI h (if (bEq op opAnd && kids.isEmpty) = true then [] else [wordM op]) h') ?_ ?_
      ·have n6 : bEq op opAnd = (op.data.toList == (#[97, 110, 100] : Array UInt8).toList) := rfl
       cases k6 : (op.data.toList == (#[97, 110, 100] : Array UInt8).toList) with
       | false =>
        rw [if_neg (by rw [n6, k6]; simp)]
        obtain ⟨hg, p, H, hn, o1, o2, tl, t1, t2, t3, t4, hgH, hpc, hp1⟩ := hI
        have hw : ∀ (s : ByteArray) (h : Heap), PCall Try.prog 111 [sPV s] h fun r h' => r = .agg (wordM s).cells ∧ h' = h := fun s h => word_c
        simp only [wordM, Sx.cells, Sx.rows] at hw
        have o2H : H.obj (h.next + 1) = _ := (t4 _ (by omega)).trans o2
        have n2 : (h.next + 1 = H.next) = False := by simp; omega
        have hpr : (Sx.rows ([] : List Sx)).length = 0 := rfl
        have hpush := fun X : Sx => WrI.push (L := []) (X := X) (m := 1) hn o1 t3 t4 hgH rfl
        generalize Sx.rows [] = R at t1 hpr hpush
        have W := And.intro k6 (And.intro o2 (And.intro o2H (And.intro n2 (And.intro t1 (And.intro t2 (And.intro hpr (And.intro hpc hp1)))))))
        repeat' (first | refine a_seq fun K hK => ?_ | ((first | refine a_regionS ?_ | refine a_drawS (by decide +kernel) ?_); simp (maxSteps := 2000000) only [Ty.w, simprocAttr, W, Bool.not_false]) | (refine a_cond _ (by (try simp (maxSteps := 2000000) only [Ty.w, simprocAttr, W, Bool.not_false]); rfl) (fun hb => ?_) (fun hb => ?_) <;> (try simp only [hb0, decide_eq_true_eq, decide_eq_false_iff_not, simprocAttr] at hb) <;> (try (exfalso; omega))) | (refine hK _ _ ?_; clear hK; try simp only [pst0, simprocAttr]))
        (first | refine a_dcall0 (hw op _) (by (try simp only [Ty.w, simprocAttr, W, Bool.not_false]); try rfl) ?_ | refine a_dcallA (hw op _) (by (try simp only [Ty.w, simprocAttr, W, Bool.not_false]); try rfl) (by simp only [Ty.w, simprocAttr, W, Bool.not_false]; try trivial) ?_); simp (maxSteps := 2000000) only [Ty.w, simprocAttr, W, Option.getD_some, Bool.not_false]
        repeat' (first | (with_reducible refine a_past2 (by simp only [List.forall_mem_cons, Ty.w, simprocAttr, k6, Bool.not_false, o2, o2H, n2, t1, t2, hpr, hpc, hp1]; (repeat' apply And.intro) <;> first | trivial | exact .inl (by decide +kernel)) ?_; try simp (maxSteps := 2000000) only [Ty.w, simprocAttr, W, Bool.not_false]) | (rw [if_pos]; rotate_left 1; omega; simp (maxSteps := 2000000) only [Ty.w, simprocAttr, W, Bool.not_false]))
        (simp (maxSteps := 2000000) only [Ty.w, simprocAttr, Ty.all, Fm.cells])
        exact hpush (wordM op)
       | true =>
        cases q6 : decide ((kids.length : Int) > 0) with
        | false =>
         have hk0 : kids.isEmpty = true := by cases kids with | nil => rfl | cons a l => simp at q6
         rw [if_pos (by rw [n6, k6, hk0]; try rfl)]
         repeat' (first | refine a_seq fun K hK => ?_ | (refine a_regionS ?_; simp (maxSteps := 2000000) only [Ty.w, simprocAttr, k6, q6, hlK, Bool.not_true]) | (refine a_skip ?_; try simp only [pst0, simprocAttr]) | (refine a_cond _ (by (try simp (maxSteps := 2000000) only [Ty.w, simprocAttr, k6, q6, hlK, Bool.not_true]); rfl) (fun hb => ?_) (fun hb => ?_) <;> (try simp only [hb0, decide_eq_true_eq, decide_eq_false_iff_not, simprocAttr] at hb) <;> (try (exfalso; omega))) | (refine hK _ _ ?_; clear hK; try simp only [pst0, simprocAttr]))
         (simp (maxSteps := 2000000) only [Ty.w, simprocAttr, Ty.all, Fm.cells])
         exact hI
        | true =>
         have hk0 : kids.isEmpty = false := by cases kids with | nil => simp at q6 | cons a l => rfl
         rw [if_neg (by rw [hk0]; simp)]
         obtain ⟨hg, p, H, hn, o1, o2, tl, t1, t2, t3, t4, hgH, hpc, hp1⟩ := hI
         have hw : ∀ (s : ByteArray) (h : Heap), PCall Try.prog 111 [sPV s] h fun r h' => r = .agg (wordM s).cells ∧ h' = h := fun s h => word_c
         simp only [wordM, Sx.cells, Sx.rows] at hw
         have o2H : H.obj (h.next + 1) = _ := (t4 _ (by omega)).trans o2
         have n2 : (h.next + 1 = H.next) = False := by simp; omega
         have hpr : (Sx.rows ([] : List Sx)).length = 0 := rfl
         have hpush := fun X : Sx => WrI.push (L := []) (X := X) (m := 1) hn o1 t3 t4 hgH rfl
         generalize Sx.rows [] = R at t1 hpr hpush
         have W := And.intro k6 (And.intro q6 (And.intro hlK (And.intro o2 (And.intro o2H (And.intro n2 (And.intro t1 (And.intro t2 (And.intro hpr (And.intro hpc hp1)))))))))
         repeat' (first | refine a_seq fun K hK => ?_ | ((first | refine a_regionS ?_ | refine a_drawS (by decide +kernel) ?_); simp (maxSteps := 2000000) only [Ty.w, simprocAttr, W, Bool.not_true]) | (refine a_cond _ (by (try simp (maxSteps := 2000000) only [Ty.w, simprocAttr, W, Bool.not_true]); rfl) (fun hb => ?_) (fun hb => ?_) <;> (try simp only [hb0, decide_eq_true_eq, decide_eq_false_iff_not, simprocAttr] at hb) <;> (try (exfalso; omega))) | (refine hK _ _ ?_; clear hK; try simp only [pst0, simprocAttr]))
         (first | refine a_dcall0 (hw op _) (by (try simp only [Ty.w, simprocAttr, W, Bool.not_true]); try rfl) ?_ | refine a_dcallA (hw op _) (by (try simp only [Ty.w, simprocAttr, W, Bool.not_true]); try rfl) (by simp only [Ty.w, simprocAttr, W, Bool.not_true]; try trivial) ?_); simp (maxSteps := 2000000) only [Ty.w, simprocAttr, W, Option.getD_some, Bool.not_true]
         repeat' (first | (with_reducible refine a_past2 (by simp only [List.forall_mem_cons, Ty.w, simprocAttr, k6, q6, hlK, Bool.not_true, o2, o2H, n2, t1, t2, hpr, hpc, hp1]; (repeat' apply And.intro) <;> first | trivial | exact .inl (by decide +kernel)) ?_; try simp (maxSteps := 2000000) only [Ty.w, simprocAttr, W, Bool.not_true]) | (rw [if_pos]; rotate_left 1; omega; simp (maxSteps := 2000000) only [Ty.w, simprocAttr, W, Bool.not_true]))
         (simp (maxSteps := 2000000) only [Ty.w, simprocAttr, Ty.all, Fm.cells])
         exact hpush (wordM op)
      ·clear hI
       obtain ⟨L0, hL0, hl0⟩ : ∃ L0 : List Sx, (if (bEq op opAnd && kids.isEmpty) = true then [] else [wordM op]) = L0 ∧ L0.length ≤ 1 := ⟨_, rfl, by split <;> simp⟩
       rw [hL0]
       rintro S h' ⟨g1, g2, g3, hI⟩
       simp only [Fm.cells] at g1
       repeat' (with_reducible refine a_hold 13 ?_)
       refine ⟨?_⟩
       refine a_cut (fun S h' => S 1 = .cptr (Fm.mk op name args params exprs kids).cells ∧ S 2 = .ptr h.next 0 0 ∧ S 3 = .ptr (h.next + 1) 0 0 ∧ WrI h (L0 ++ (if isQ op = true then [listM (paramsW params)] else [])) h') ?_ ?_
       ·have n7 : bEq op opAll = (op.data.toList == (#[102, 111, 114, 97, 108, 108] : Array UInt8).toList) := rfl
        have n8 : bEq op opSome = (op.data.toList == (#[101, 120, 105, 115, 116, 115] : Array UInt8).toList) := rfl
        cases k7 : (op.data.toList == (#[102, 111, 114, 97, 108, 108] : Array UInt8).toList) with
        | true =>
         rw [if_pos (by simp [isQ, n7, n8, k7])]
         obtain ⟨hg, p, H, hn, o1, o2, tl, t1, t2, t3, t4, hgH, hpc, hp1⟩ := hI
         have hwp := writeParams_c (l := params) hpl
         have hli : ∀ h : Heap, PCall Try.prog 110 [.imm 6 (Sx.rows (paramsW params))] h fun r h' => r = .agg (listM (paramsW params)).cells ∧ h' = h := fun h => list_c rfl (fun _ => frz_imm (sxs_in _ _))
         generalize hX : listM (paramsW params) = X at hli ⊢
         clear hX
         generalize Sx.rows (paramsW params) = PR at hwp hli
         have o2H : H.obj (h.next + 1) = _ := (t4 _ (by omega)).trans o2
         have n2 : (h.next + 1 = H.next) = False := by simp; omega
         have hpr := Sx.rows_len L0
         have hpush := WrI.push (L := L0) (X := X) (m := L0.length + 1) hn o1 t3 t4 hgH rfl
         generalize Sx.rows L0 = R at t1 hpr hpush
         have hb : (L0.length + 1) * 72 ≤ 140737488355328 := by omega
         obtain ⟨ki, va, li, co, te, ks⟩ := X
         simp only [Sx.cells] at hli hpush
         have W := And.intro g1 (And.intro g2 (And.intro g3 (And.intro k7 (And.intro o2 (And.intro o2H (And.intro n2 (And.intro t1 (And.intro t2 (And.intro hpr (And.intro hpc (And.intro hp1 hb)))))))))))
         repeat' (first | refine a_seq fun K hK => ?_ | ((first | refine a_regionS ?_ | refine a_drawS (by decide +kernel) ?_); simp (maxSteps := 2000000) only [Ty.w, simprocAttr, W]) | (refine a_cond _ (by (try simp (maxSteps := 2000000) only [Ty.w, simprocAttr, W]); rfl) (fun hb => ?_) (fun hb => ?_) <;> (try simp only [hb0, decide_eq_true_eq, decide_eq_false_iff_not, simprocAttr] at hb) <;> (try (exfalso; omega))) | (refine hK _ _ ?_; clear hK; try simp only [pst0, simprocAttr]))
         (first | refine a_dcall0 (hwp _) (by (try simp only [Ty.w, simprocAttr, W]); try rfl) ?_ | refine a_dcallA (hwp _) (by (try simp only [Ty.w, simprocAttr, W]); try rfl) (by simp only [Ty.w, simprocAttr, W]; try trivial) ?_); simp (maxSteps := 2000000) only [Ty.w, simprocAttr, W, Option.getD_some]
         skip
         (first | refine a_dcall0 (hli _) (by (try simp only [Ty.w, simprocAttr, W]); try rfl) ?_ | refine a_dcallA (hli _) (by (try simp only [Ty.w, simprocAttr, W]); try rfl) (by simp only [Ty.w, simprocAttr, W]; try trivial) ?_); simp (maxSteps := 2000000) only [Ty.w, simprocAttr, W, Option.getD_some]
         repeat' (first | (with_reducible refine a_past2 (by simp only [List.forall_mem_cons, Ty.w, simprocAttr, g1, g2, g3, k7, o2, o2H, n2, t1, t2, hpr, hpc, hp1, hb]; (repeat' apply And.intro) <;> first | trivial | exact .inl (by decide +kernel)) ?_; try simp (maxSteps := 2000000) only [Ty.w, simprocAttr, W]) | (rw [if_pos]; rotate_left 1; omega; simp (maxSteps := 2000000) only [Ty.w, simprocAttr, W]))
         (simp (maxSteps := 2000000) only [Ty.w, simprocAttr, W, Ty.all, Fm.cells])
         exact hpush
        | false =>
         cases k8 : (op.data.toList == (#[101, 120, 105, 115, 116, 115] : Array UInt8).toList) with
         | true =>
          rw [if_pos (by simp [isQ, n7, n8, k8])]
          obtain ⟨hg, p, H, hn, o1, o2, tl, t1, t2, t3, t4, hgH, hpc, hp1⟩ := hI
          have hwp := writeParams_c (l := params) hpl
          have hli : ∀ h : Heap, PCall Try.prog 110 [.imm 6 (Sx.rows (paramsW params))] h fun r h' => r = .agg (listM (paramsW params)).cells ∧ h' = h := fun h => list_c rfl (fun _ => frz_imm (sxs_in _ _))
          generalize hX : listM (paramsW params) = X at hli ⊢
          clear hX
          generalize Sx.rows (paramsW params) = PR at hwp hli
          have o2H : H.obj (h.next + 1) = _ := (t4 _ (by omega)).trans o2
          have n2 : (h.next + 1 = H.next) = False := by simp; omega
          have hpr := Sx.rows_len L0
          have hpush := WrI.push (L := L0) (X := X) (m := L0.length + 1) hn o1 t3 t4 hgH rfl
          generalize Sx.rows L0 = R at t1 hpr hpush
          have hb : (L0.length + 1) * 72 ≤ 140737488355328 := by omega
          obtain ⟨ki, va, li, co, te, ks⟩ := X
          simp only [Sx.cells] at hli hpush
          have W := And.intro g1 (And.intro g2 (And.intro g3 (And.intro k7 (And.intro k8 (And.intro o2 (And.intro o2H (And.intro n2 (And.intro t1 (And.intro t2 (And.intro hpr (And.intro hpc (And.intro hp1 hb))))))))))))
          repeat' (first | refine a_seq fun K hK => ?_ | ((first | refine a_regionS ?_ | refine a_drawS (by decide +kernel) ?_); simp (maxSteps := 2000000) only [Ty.w, simprocAttr, W]) | (refine a_cond _ (by (try simp (maxSteps := 2000000) only [Ty.w, simprocAttr, W]); rfl) (fun hb => ?_) (fun hb => ?_) <;> (try simp only [hb0, decide_eq_true_eq, decide_eq_false_iff_not, simprocAttr] at hb) <;> (try (exfalso; omega))) | (refine hK _ _ ?_; clear hK; try simp only [pst0, simprocAttr]))
          (first | refine a_dcall0 (hwp _) (by (try simp only [Ty.w, simprocAttr, W]); try rfl) ?_ | refine a_dcallA (hwp _) (by (try simp only [Ty.w, simprocAttr, W]); try rfl) (by simp only [Ty.w, simprocAttr, W]; try trivial) ?_); simp (maxSteps := 2000000) only [Ty.w, simprocAttr, W, Option.getD_some]
          skip
          (first | refine a_dcall0 (hli _) (by (try simp only [Ty.w, simprocAttr, W]); try rfl) ?_ | refine a_dcallA (hli _) (by (try simp only [Ty.w, simprocAttr, W]); try rfl) (by simp only [Ty.w, simprocAttr, W]; try trivial) ?_); simp (maxSteps := 2000000) only [Ty.w, simprocAttr, W, Option.getD_some]
          repeat' (first | (with_reducible refine a_past2 (by simp only [List.forall_mem_cons, Ty.w, simprocAttr, g1, g2, g3, k7, k8, o2, o2H, n2, t1, t2, hpr, hpc, hp1, hb]; (repeat' apply And.intro) <;> first | trivial | exact .inl (by decide +kernel)) ?_; try simp (maxSteps := 2000000) only [Ty.w, simprocAttr, W]) | (rw [if_pos]; rotate_left 1; omega; simp (maxSteps := 2000000) only [Ty.w, simprocAttr, W]))
          (simp (maxSteps := 2000000) only [Ty.w, simprocAttr, W, Ty.all, Fm.cells])
          exact hpush
         | false =>
          rw [if_neg (by simp [isQ, n7, n8, k7, k8]), List.append_nil]
          repeat' (first | refine a_seq fun K hK => ?_ | (refine a_regionS ?_; simp (maxSteps := 2000000) only [Ty.w, simprocAttr, g1, g2, g3, k7, k8]) | (refine a_skip ?_; try simp only [pst0, simprocAttr]) | (refine a_cond _ (by (try simp (maxSteps := 2000000) only [Ty.w, simprocAttr, g1, g2, g3, k7, k8]); rfl) (fun hb => ?_) (fun hb => ?_) <;> (try simp only [hb0, decide_eq_true_eq, decide_eq_false_iff_not, simprocAttr] at hb) <;> (try (exfalso; omega))) | (refine hK _ _ ?_; clear hK; try simp only [pst0, simprocAttr]))
          (simp (maxSteps := 2000000) only [Ty.w, simprocAttr, Ty.all, g1, g2, g3, Fm.cells])
          exact hI
       ·clear hI g1 g2 g3
        obtain ⟨L1, hL1, hl1⟩ : ∃ L1 : List Sx, L0 ++ (if isQ op = true then [listM (paramsW params)] else []) = L1 ∧ L1.length ≤ 2 := ⟨_, rfl, by split <;> simp <;> omega⟩
        rw [hL1]
        rw [fmWs_map]
        clear hL1 hL0 hl0
        rintro S h' ⟨g1, g2, g3, hI⟩
        simp only [Fm.cells] at g1
        have hrl : ∀ k, (L1 ++ (kids.take k).map fmW).length ≤ 1048578 := fun k => by simp; omega
        repeat' (first | refine a_seq fun K hK => ?_ | (refine a_block ?_) | (refine a_regionS ?_; simp (maxSteps := 2000000) only [Ty.w, simprocAttr, g1, g2, g3, hlK]) | (refine hK _ _ ?_; clear hK; try simp only [pst0, simprocAttr]))
        refine a_loop (fun c S h' => S 2 = .ptr h.next 0 0 ∧ S 3 = .ptr (h.next + 1) 0 0 ∧ S 75 = .imm 6 (Fm.rows kids) ∧ S 76 = .sc (.int .i64 kids.length) ∧ ∃ k : Nat, S 77 = .sc (.int .i64 k) ∧ k ≤ kids.length ∧ c = kids.length - k ∧ WrI h (L1 ++ (kids.take k).map fmW) h') kids.length ?_ ?_
        ·simp only [Ty.w, simprocAttr, g2, g3]
         refine ⟨0, rfl, by omega, rfl, ?_⟩
         simpa using hI
        ·clear hI g1 g2 g3
         rintro c S h' ⟨g2, g3, g75, g76, k, g77, hk, rfl, hI⟩
         by_cases hlt : k < kids.length
         ·have hdk : decide ((k : Int) < (kids.length : Int)) = true := by simp; omega
          have w7 : IntKind.i64.wrap ((k : Int) + 1) = k + 1 := by rw [wrap64 (by omega) (by omega)]
          obtain ⟨x, hx⟩ : ∃ x, kids[k]? = some x := ⟨_, List.getElem?_eq_getElem hlt⟩
          have hmem := List.mem_of_getElem? hx
          have hr := Fm.rows_get hx
          have hcx := ih x hmem (hks x hmem) (hsk x hmem)
          have hL : L1 ++ (kids.take (k + 1)).map fmW = L1 ++ (kids.take k).map fmW ++ [fmW x] := by rw [List.take_add_one, hx]; simp
          have hrk := hrl k
          generalize L1 ++ (kids.take k).map fmW = L2 at hI hrk hL
          obtain ⟨hg, p, H, hn, o1, o2, tl, t1, t2, t3, t4, hgH, hpc, hp1⟩ := hI
          generalize fmW x = X at hcx hL
          obtain ⟨xo, xn, xa, xp, xe, xk⟩ := x
          obtain ⟨ki, va, li, co, te, ks⟩ := X
          simp only [Fm.cells, Sx.cells] at hr hcx
          clear t1 t2 t3 t4 hgH H
          have hG2 : Grow h ((h'.new (.arr 6 [[.sc (.string ⟨#[]⟩), .sc (.string ⟨#[]⟩), .sc (.slice none 0 0), .sc (.slice none 0 0), .sc (.slice none 0 0), .sc (.slice none 0 0)]])).set h'.next (.arr 6 [[sPV xo, sPV xn, .imm 1 (strRows xa), .imm 2 (pmRows xp), .imm 5 (Ex.rows xe), .imm 6 (Fm.rows xk)]])) := (hg.new _).set hg.le _
          have m1 : ¬ h.next = h'.next := by omega
          have m2 : ¬ h.next + 1 = h'.next := by omega
          have m2' : (h.next + 1 = h'.next) = False := eq_false m2
          have tl2 := tl.up (h' := ((h'.new (.arr 6 [[.sc (.string ⟨#[]⟩), .sc (.string ⟨#[]⟩), .sc (.slice none 0 0), .sc (.slice none 0 0), .sc (.slice none 0 0), .sc (.slice none 0 0)]])).set h'.next (.arr 6 [[sPV xo, sPV xn, .imm 1 (strRows xa), .imm 2 (pmRows xp), .imm 5 (Ex.rows xe), .imm 6 (Fm.rows xk)]]))) (by simp [Heap.set, Heap.new]) fun j _ hj => by simp only [Heap.set, Heap.new]; rw [if_neg (by omega), if_neg (by omega)]
          obtain ⟨H, t1, t2, t3, t4, t5⟩ := tl2.tail
          have hgH := t5 h ⟨hG2.le, hG2.old⟩ (by omega)
          have o1x : ((h'.new (.arr 6 [[.sc (.string ⟨#[]⟩), .sc (.string ⟨#[]⟩), .sc (.slice none 0 0), .sc (.slice none 0 0), .sc (.slice none 0 0), .sc (.slice none 0 0)]])).set h'.next (.arr 6 [[sPV xo, sPV xn, .imm 1 (strRows xa), .imm 2 (pmRows xp), .imm 5 (Ex.rows xe), .imm 6 (Fm.rows xk)]])).obj h.next = some (.arr 6 [[.sc (.int .i64 0), .sc (.int .i64 0), .sc (.int .i64 0), .sc (.int .i64 0), .sc (.string ⟨#[]⟩), .sc (.slice none 0 0)]]) := by simp only [Heap.set, Heap.new, m1, if_false]; exact o1
          have o2H : H.obj (h.next + 1) = _ := (t4 _ (by omega)).trans (show ((h'.new (.arr 6 [[.sc (.string ⟨#[]⟩), .sc (.string ⟨#[]⟩), .sc (.slice none 0 0), .sc (.slice none 0 0), .sc (.slice none 0 0), .sc (.slice none 0 0)]])).set h'.next (.arr 6 [[sPV xo, sPV xn, .imm 1 (strRows xa), .imm 2 (pmRows xp), .imm 5 (Ex.rows xe), .imm 6 (Fm.rows xk)]])).obj (h.next + 1) = _ by simp only [Heap.set, Heap.new, m2, if_false]; exact o2)
          have t3' : H.next = h'.next + 1 := by rw [t3]; simp [Heap.new, Heap.set]
          have n2 : (h.next + 1 = H.next) = False := by simp; omega
          have hpr := Sx.rows_len L2
          have hpush := WrI.push (h' := ((h'.new (.arr 6 [[.sc (.string ⟨#[]⟩), .sc (.string ⟨#[]⟩), .sc (.slice none 0 0), .sc (.slice none 0 0), .sc (.slice none 0 0), .sc (.slice none 0 0)]])).set h'.next (.arr 6 [[sPV xo, sPV xn, .imm 1 (strRows xa), .imm 2 (pmRows xp), .imm 5 (Ex.rows xe), .imm 6 (Fm.rows xk)]]))) (L := L2) (X := .mk ki va li co te ks) (m := L2.length + 1) (by simp only [Heap.set, Heap.new]; omega) o1x t3 t4 ⟨hgH.1, hgH.2⟩ rfl
          have hb : (L2.length + 1) * 72 ≤ 140737488355328 := by omega
          simp only [Sx.cells] at hpush
          clear tl tl2 t5
          generalize Sx.rows L2 = R at t1 hpr hpush
          have W := And.intro g2 (And.intro g3 (And.intro g75 (And.intro g76 (And.intro g77 (And.intro w7 (And.intro m2' (And.intro o2 (And.intro o2H (And.intro n2 (And.intro t1 (And.intro t2 (And.intro hpr (And.intro hpc (And.intro hp1 hb))))))))))))))
          repeat' (first | refine a_seq fun K hK => ?_ | ((first | refine a_regionS ?_ | refine a_draw (by decide +kernel) (fun K hK => ?_)); simp (maxSteps := 2000000) only [Ty.w, simprocAttr, W, hdk, hr]) | (refine a_skip ?_; try simp only [pst0, simprocAttr]) | (refine a_cond _ (by (try simp (maxSteps := 2000000) only [Ty.w, simprocAttr, W, hdk, hr]); rfl) (fun hb => ?_) (fun hb => ?_) <;> (try simp only [hb0, decide_eq_true_eq, decide_eq_false_iff_not, simprocAttr] at hb) <;> (try (exfalso; omega))) | (refine hK _ _ ?_; clear hK; try simp only [pst0, simprocAttr]))
          (first | refine a_dcall0 (hcx _) (by (try simp only [Ty.w, simprocAttr, W]); try rfl) ?_ | refine a_dcallA (hcx _) (by (try simp only [Ty.w, simprocAttr, W]); try rfl) (by simp only [Ty.w, simprocAttr, W]; try trivial) ?_); simp (maxSteps := 2000000) only [Ty.w, simprocAttr, W, Option.getD_some]
          repeat' (first | (refine a_regionS ?_; simp (maxSteps := 2000000) only [Ty.w, simprocAttr, W]) | (refine hK _ _ ?_; clear hK; try simp only [pst0, simprocAttr]) | (with_reducible refine a_past2 (by simp only [List.forall_mem_cons, Ty.w, simprocAttr, g2, g3, g75, g76, g77, w7, m2', o2, o2H, n2, t1, t2, hpr, hpc, hp1, hb]; (repeat' apply And.intro) <;> first | trivial | exact .inl (by decide +kernel)) ?_; try simp (maxSteps := 2000000) only [Ty.w, simprocAttr, W]) | (rw [if_pos]; rotate_left 1; omega; simp (maxSteps := 2000000) only [Ty.w, simprocAttr, W]))
          exact ⟨kids.length - (k + 1), by omega, k + 1, by simp, by omega, rfl, by rw [hL]; exact hpush⟩
         ·have hdk : decide ((k : Int) < (kids.length : Int)) = false := by simp; omega
          have hke : k = kids.length := by omega
          subst hke
          rw [List.take_length] at hI
          obtain ⟨hg, p, H, hn, o1, o2, tl, t1, t2, t3, t4, hgH, hpc, hp1⟩ := hI
          repeat' (first | refine a_seq fun K hK => ?_ | ((first | refine a_regionS ?_ | refine a_ret ?_); simp (maxSteps := 2000000) only [Ty.w, simprocAttr, g2, g3, g75, g76, g77, hdk, o1, o2, hpc]) | (refine a_exit ?_; try simp only [pst0, simprocAttr]) | (refine a_cond _ (by (try simp (maxSteps := 2000000) only [Ty.w, simprocAttr, g2, g3, g75, g76, g77, hdk, o1, o2, hpc]); rfl) (fun hb => ?_) (fun hb => ?_) <;> (try simp only [hb0, decide_eq_true_eq, decide_eq_false_iff_not, simprocAttr] at hb) <;> (try (exfalso; omega))) | ((first | refine hK _ _ ?_ | (clear hK; refine hK _ _ ?_)); clear hK; try simp only [pst0, simprocAttr]) | (rw [if_pos]; rotate_left 1; omega; simp (maxSteps := 2000000) only [Ty.w, simprocAttr, g2, g3, g75, g76, g77, hdk, o1, o2, hpc]))
          refine ⟨?_, hg.set (Nat.le_refl _) _⟩
          have tl2 : Tl (h'.set h.next (.arr 6 [[.sc (.int .i64 3), .sc (.int .i64 0), .sc (.int .i64 0), .sc (.int .i64 0), .sc (.string ⟨#[]⟩), p]])) (h.next + 2) 6 p (Sx.rows (L1 ++ kids.map fmW)) := tl.up (Nat.le_refl _) fun j hj _ => by simp only [Heap.set]; rw [if_neg (by omega)]
          simp only [listM, Sx.cells, FrzTo, FrzL]
          exact ⟨_, rfl, rfl, rfl, rfl, rfl, rfl, by have := tl_frzX (Tl.low tl2 (show h.next ≤ h.next + 2 by omega)); simpa only [FrzTo] using this, trivial⟩
theorem paramsW_ok : ∀ l : List Pm, (∀ p ∈ l, p.ok) → Sx.oks (paramsW l)
 | [], _ => by simp [paramsW, Sx.oks]
 | p :: l, h => by
  have hp := h p (by simp)
  simp only [paramsW, Sx.oks]
  exact ⟨wordM_ok hp.1, wordM_ok (by simp [bigN, ByteArray.size]), wordM_ok hp.2, paramsW_ok l fun q hq => h q (by simp [hq])⟩
theorem parts_cmp {op name : ByteArray} {args : List ByteArray} {params : List Pm} {ne nk : Nat} (h1 : ¬ bEq op opAtom = true) (h2 : ¬ bEq op opSame = true) (h3 : isCmp op = true) (hp : partsOk op name args params ne nk = true) : ne = 2 := by
 unfold partsOk shapeOf at hp
 rw [if_neg h1, if_neg h2] at hp
 simp only [isCmp, Bool.or_eq_true] at h3
 by_cases k1 : bEq op opLt = true
 ·simp [k1] at hp; omega
 by_cases k2 : bEq op opLe = true
 ·simp [k1, k2] at hp; omega
 have k3 : bEq op opEq = true := by rcases h3 with (h3 | h3) | h3 <;> simp_all
 simp [k1, k2, k3] at hp; omega
theorem fmW_ok : ∀ f : Fm, f.ok → f.small → shapedF f = true → (fmW f).ok := by
 refine Fm.ind ?_
 intro op name args params exprs kids ih hok hsm hsh
 simp only [Fm.ok] at hok
 simp only [Fm.small] at hsm
 simp only [shapedF, Bool.and_eq_true] at hsh
 obtain ⟨⟨hpo, _⟩, hsh⟩ := hsh
 rw [shapedFs_iff] at hsh
 obtain ⟨hop, hname, hargs, ⟨_, hps⟩, ⟨_, hes⟩, _, hks⟩ := hok
 obtain ⟨hal, hpl, hse, hkl, hsk⟩ := hsm
 rw [Fm.oks_iff] at hks
 rw [Ex.oks_iff] at hes
 have hse := Ex.smalls_iff.1 hse
 have hsk := Fm.smalls_iff.1 hsk
 unfold fmW
 split
 ·exact wordsM_ok hname hal hargs.2
 split
 ·exact wordsM_ok (by simp [opEq, bigN, ByteArray.size]) hal hargs.2
 split
 ·rename_i c1 c2 c3
  have h2 := parts_cmp c1 c2 c3 hpo
  refine listM_ok (by simp only [List.length_cons, List.length_map]; unfold bigN; omega) (Sx.oks_iff.2 ?_)
  intro k hk
  simp only [List.mem_cons, List.mem_map] at hk
  rcases hk with rfl | ⟨e, he, rfl⟩
  ·exact wordM_ok hop
  ·exact exW_ok e (hes e he) (hse e he)
 ·rw [fmWs_map]
  refine listM_ok ?_ (Sx.oks_iff.2 ?_)
  ·simp only [List.length_append, List.length_map]
   have a1 : (if (bEq op opAnd && kids.isEmpty) = true then [] else [wordM op]).length ≤ 1 := by split <;> simp
   have a2 : (if isQ op = true then [listM (paramsW params)] else []).length ≤ 1 := by split <;> simp
   unfold bigN; omega
  ·intro k hk
   simp only [List.mem_append, List.mem_map] at hk
   rcases hk with (hk | hk) | ⟨e, he, rfl⟩
   ·split at hk
    ·simp at hk
    ·simp only [List.mem_singleton] at hk; subst hk; exact wordM_ok hop
   ·split at hk
    ·simp only [List.mem_singleton] at hk; subst hk
     exact listM_ok (by rw [paramsW_len]; unfold bigN; omega) (paramsW_ok _ hps)
    ·simp at hk
   ·exact ih e he (hks e he) (hsk e he) (hsh e he)
theorem formedMs_shaped : ∀ (l : List Ex) (d n : Nat), (formedMs l d n).1 = true → ∀ e ∈ l, shapedE e = true
 | [], _, _, _ => by simp
 | e :: l, d, n, h => by
  unfold formedMs at h
  have h1 := formedM_shaped e d n
  split at h
  ·rename_i c he
   rw [he] at h1
   intro x hx
   rcases List.mem_cons.1 hx with rfl | hx
   ·exact h1 rfl
   ·exact formedMs_shaped l d c h x hx
  ·simp at h
mutual
theorem shapedM_F : ∀ (f : Fm) (d n : Nat), (shapedM f d n).1 = true → shapedF f = true
 | .mk op name args params exprs kids, d, n, h => by
  unfold shapedM at h
  split at h
  ·split at h
   ·rename_i hp
    have h1 := formedMs_shaped exprs (d + 1) (n + 1)
    split at h
    ·rename_i c he
     rw [he] at h1
     simp only [shapedF, Bool.and_eq_true, List.all_eq_true]
     exact ⟨⟨hp, h1 rfl⟩, shapedMs_F kids (d + 1) c h⟩
    ·simp at h
   ·simp at h
  ·simp at h
theorem shapedMs_F : ∀ (l : List Fm) (d n : Nat), (shapedMs l d n).1 = true → shapedFs l = true
 | [], _, _, _ => by simp [shapedFs]
 | k :: l, d, n, h => by
  unfold shapedMs at h
  have h1 := shapedM_F k d n
  split at h
  ·rename_i c he
   rw [he] at h1
   simp only [shapedFs, Bool.and_eq_true]
   exact ⟨h1 rfl, shapedMs_F l d c h⟩
  ·simp at h
end
theorem fvalid_c {f : Fm} (hok : f.ok) (hsm : f.small) (h : Heap) : PCall Try.prog 26 [.agg f.cells] h fun r h' => r = .sc (.bool (validF f)) ∧ h' = h := by
 have hf := shaped_c f hok 0 0 (by omega) (by omega) h.next (h.new (.arr 1 [[.sc (.int .i64 0)]])) (by simp [Heap.new, cntO])
 have hsh := shapedM_F f 0 0
 have hx := fmW_ok f hok hsm
 have hw0 := write_c f hsm
 have hv : validF f = ((shapedM f 0 0).1 && (svalid (fmW f) 0 0).1) := rfl
 rw [hv]
 refine PCall.quiet Ty.hb_26 ?_
 generalize shapedM f 0 0 = V at hf hsh ⊢
 obtain ⟨b, c⟩ := V
 cases b with
 | false =>
  obtain ⟨op, name, args, params, exprs, kids⟩ := f
  simp only [Fm.cells, Int.natCast_zero] at hf ⊢
  refine pcall_body (ow := fun t => t == 5) (wf := fun _ => false) Ty.mixed Try.func26 rfl Ty.hb_26 (by rw [Try.ntmps26]; simp) ?_
  rw [Try.ntmps26, Try.results26]
  repeat' (first | refine a_seq fun K hK => ?_ | (refine a_regionS ?_; simp (maxSteps := 2000000) only [Ty.w, simprocAttr]) | (refine hK _ _ ?_; clear hK; try simp only [pst0, simprocAttr]))
  refine owp_useH (hf) (by (try simp only [Ty.w, simprocAttr, ]); try rfl) ?_; simp (maxSteps := 2000000) only [Ty.w, simprocAttr, ]
  repeat' (first | (refine a_ret ?_; simp (maxSteps := 2000000) only [Ty.w, simprocAttr]) | (refine hK _ _ ?_; clear hK; try simp only [pst0, simprocAttr]))
  exact ((Grow.refl h).new _).set (Nat.le_refl _) _
 | true =>
  have hw := hw0 (hsh rfl)
  have hvv := svalid_c (hx (hsh rfl))
  clear hw0
  generalize fmW f = X at hw hvv ⊢
  obtain ⟨op, name, args, params, exprs, kids⟩ := f
  obtain ⟨ki, va, li, co, te, ks⟩ := X
  simp only [Fm.cells, Sx.cells, Int.natCast_zero] at hf hw hvv ⊢
  refine pcall_body (ow := fun t => t == 5) (wf := fun _ => false) Ty.mixed Try.func26 rfl Ty.hb_26 (by rw [Try.ntmps26]; simp) ?_
  rw [Try.ntmps26, Try.results26]
  repeat' (first | refine a_seq fun K hK => ?_ | (refine a_regionS ?_; simp (maxSteps := 2000000) only [Ty.w, simprocAttr]) | (refine hK _ _ ?_; clear hK; try simp only [pst0, simprocAttr]))
  refine owp_useH (hf) (by (try simp only [Ty.w, simprocAttr, ]); try rfl) ?_; simp (maxSteps := 2000000) only [Ty.w, simprocAttr, ]
  skip
  refine owp_useQ (hw _) (by (try simp only [Ty.w, simprocAttr, ]); try rfl) ?_; simp (maxSteps := 2000000) only [Ty.w, simprocAttr, ]
  skip
  refine owp_useQ (hvv _) (by (try simp only [Ty.w, simprocAttr, ]); try rfl) ?_; simp (maxSteps := 2000000) only [Ty.w, simprocAttr, ]
  repeat' (first | (refine a_ret ?_; simp (maxSteps := 2000000) only [Ty.w, simprocAttr]) | (refine hK _ _ ?_; clear hK; try simp only [pst0, simprocAttr]))
  exact ((Grow.refl h).new _).set (Nat.le_refl _) _
end Go.Proofs.Ytjlkapgpjamnkaa
namespace Go.AM
theorem bsEq_refl : ∀ l : List ByteArray, bsEq l l = true
 | [] => rfl
 | a :: l => by simp [bsEq, bEq, bsEq_refl l]
theorem pmsEq_refl : ∀ l : List Pm, pmsEq l l = true
 | [] => rfl
 | a :: l => by simp [pmsEq, pmEq, bEq, pmsEq_refl l]
mutual
theorem Ex.same_refl : ∀ e : Ex, e.same e = true
 | .mk _ _ _ args kids => by simp [Ex.same, bEq, bsEq_refl, Ex.sames_refl kids]
theorem Ex.sames_refl : ∀ l : List Ex, Ex.sames l l = true
 | [] => rfl
 | k :: ks => by simp [Ex.sames, Ex.same_refl k, Ex.sames_refl ks]
end
mutual
theorem Fm.same_refl : ∀ f : Fm, f.same f = true
 | .mk _ _ args params exprs kids => by simp [Fm.same, bEq, bsEq_refl, pmsEq_refl, Ex.sames_refl, Fm.sames_refl kids]
theorem Fm.sames_refl : ∀ l : List Fm, Fm.sames l l = true
 | [] => rfl
 | k :: ks => by simp [Fm.sames, Fm.same_refl k, Fm.sames_refl ks]
end
end Go.AM
namespace Go.Proofs.Ytjlkapgpjamnkaa
open Go.AM
theorem zeroFm_ok : zeroFm.ok ∧ zeroFm.small := by
 simp only [zeroFm, Fm.ok, Fm.oks, Ex.oks, Fm.small, Fm.smalls, Ex.smalls, List.length_nil]
 refine ⟨⟨by simp [bigN, ByteArray.size], by simp [bigN, ByteArray.size], ⟨by simp, by simp⟩, ⟨by simp, by simp⟩, ⟨by simp, trivial⟩, by simp, trivial⟩, by omega, by omega, trivial, by omega, trivial⟩
theorem textOf_ok {x : Sx} (h : x.ok) : (textOf x).size ≤ bigN := by
 obtain ⟨_, _, _, _, t, _⟩ := x
 simp only [Sx.ok] at h
 exact h.2.2.1
theorem pmsOf_ok {t : ByteArray} {l : List ByteArray} (ht : t.size ≤ bigN) (hl : ∀ s ∈ l, s.size ≤ bigN) : ∀ p ∈ pmsOf t l, p.ok := by
 intro p hp
 simp only [pmsOf, List.mem_map] at hp
 obtain ⟨s, hs, rfl⟩ := hp
 exact ⟨hl s hs, ht⟩
theorem pmsOf_len (t : ByteArray) (l : List ByteArray) : (pmsOf t l).length = l.length := by simp [pmsOf]
theorem opObj_size : opObj.size ≤ bigN := by simp [opObj, bigN, ByteArray.size]
theorem paramsL_ok (vars : Bool) : ∀ (n : Nat) (l : List Sx), l.length ≤ n → (∀ x ∈ l, x.ok) → ∀ (don : List Pm) (pen : List ByteArray), (∀ p ∈ don, p.ok) → (∀ s ∈ pen, s.size ≤ bigN) →
  (∀ p ∈ (paramsL vars l don pen).1, p.ok) ∧ (paramsL vars l don pen).1.length ≤ don.length + pen.length + l.length := by
 intro n
 induction n with
 | zero =>
  intro l hl _ don pen hd hp
  match l, hl with
  | [], _ =>
   unfold paramsL
   simp only [List.mem_append, List.length_append, pmsOf_len, List.length_nil]
   exact ⟨fun p h => h.elim (hd p) (pmsOf_ok opObj_size hp p), by omega⟩
 | succ n ihn =>
  intro l hl hx don pen hd hp
  match l, hl, hx with
  | [], _, _ =>
   unfold paramsL
   simp only [List.mem_append, List.length_append, pmsOf_len, List.length_nil]
   exact ⟨fun p h => h.elim (hd p) (pmsOf_ok opObj_size hp p), by omega⟩
  | x :: l, hl, hx =>
   have hxo := hx x (by simp)
   have hlo : ∀ y ∈ l, y.ok := fun y hy => hx y (by simp [hy])
   unfold paramsL
   cases isWrd x with
   | false => simp
   | true =>
    simp only [cond_true]
    cases bEq (textOf x) opMin with
    | true =>
     simp only [cond_true]
     cases l with
     | nil => simp
     | cons t l' =>
      simp only
      cases (!pen.isEmpty && isWrd t) with
      | false => simp
      | true =>
       cases typedB (textOf t) with
       | false => simp
       | true =>
        simp only [cond_true]
        have := ihn l' (by simp at hl; omega) (fun y hy => hlo y (by simp [hy])) (don ++ pmsOf (textOf t) pen) [] (fun p h => (List.mem_append.1 h).elim (hd p) (pmsOf_ok (textOf_ok (hlo t (by simp))) hp p)) (by simp)
        refine ⟨this.1, Nat.le_trans this.2 ?_⟩
        simp only [List.length_append, pmsOf_len, List.length_nil, List.length_cons]; omega
    | false =>
     simp only [cond_false]
     cases (bif vars then varB (textOf x) else nameB (textOf x)) with
     | false => simp
     | true =>
      simp only [cond_true]
      have := ihn l (by simp at hl; omega) hlo don (pen ++ [textOf x]) hd (fun s h => (List.mem_append.1 h).elim (hp s) (fun h => by simp at h; rw [h]; exact textOf_ok hxo))
      refine ⟨this.1, Nat.le_trans this.2 ?_⟩
      simp only [List.length_append, List.length_nil, List.length_cons]; omega
theorem fm_mk_ok {op name : ByteArray} {args : List ByteArray} {params : List Pm} {exprs : List Ex} {kids : List Fm} (h1 : op.size ≤ bigN) (h2 : name.size ≤ bigN) (h3 : args.length ≤ 1048576) (h4 : ∀ s ∈ args, s.size ≤ bigN) (h5 : params.length ≤ 1048576) (h6 : ∀ p ∈ params, p.ok)
  (h7 : exprs.length ≤ 2) (h8 : ∀ e ∈ exprs, e.ok ∧ e.small) (h9 : kids.length ≤ 1048576) (h10 : ∀ k ∈ kids, k.ok ∧ k.small) : (Fm.mk op name args params exprs kids).ok ∧ (Fm.mk op name args params exprs kids).small := by
 simp only [Fm.ok, Fm.small]
 rw [Fm.oks_iff, Ex.oks_iff, Ex.smalls_iff, Fm.smalls_iff]
 refine ⟨⟨h1, h2, ⟨by unfold bigN; omega, h4⟩, ⟨by unfold bigN; omega, h6⟩, ⟨by unfold bigN; omega, fun e he => (h8 e he).1⟩, by unfold bigN; omega, fun k hk => (h10 k hk).1⟩, h3, h5, fun e he => (h8 e he).2, h9, fun k hk => (h10 k hk).2⟩
theorem empty_size : (⟨#[]⟩ : ByteArray).size ≤ bigN := by simp [bigN, ByteArray.size]
theorem fin_ok {r : Fm × Int} (h : r.1.ok ∧ r.1.small) : (fin r).1.ok ∧ (fin r).1.small := by
 unfold fin
 cases r.2 == 0 with
 | true => exact h
 | false => exact zeroFm_ok
theorem compareP_ok {w : ByteArray} {x y : Sx} (hw : w.size ≤ bigN) (hx : x.ok) (hy : y.ok) (sx : x.small) (sy : y.small) : (compareP w x y).1.ok ∧ (compareP w x y).1.small := by
 have ex := exprP_ok x hx sx
 have ey := exprP_ok y hy sy
 unfold compareP
 cases (bEq w opEq && kindOf x == 1 && kindOf y == 1) with
 | true =>
  have ht := termsM_ok (l := [x, y]) (by simp [hx, hy])
  simp only [List.length_cons, List.length_nil] at ht
  exact fm_mk_ok (by simp [opSame, bigN, ByteArray.size]) empty_size (by omega) ht.1 (by simp) (by simp) (by simp) (by simp) (by simp) (by simp)
 | false =>
  simp only [cond_false]
  cases (exprP x).2 == 0 with
  | false => exact zeroFm_ok
  | true =>
   cases (exprP y).2 == 0 with
   | false => exact zeroFm_ok
   | true =>
    simp only [cond_true]
    have h2 : ∀ a b : Ex, (a.ok ∧ a.small) → (b.ok ∧ b.small) → ∀ o : ByteArray, o.size ≤ bigN → (Fm.mk o ⟨#[]⟩ [] [] [a, b] []).ok ∧ (Fm.mk o ⟨#[]⟩ [] [] [a, b] []).small := fun a b ha hb o ho =>
     fm_mk_ok ho empty_size (by simp) (by simp) (by simp) (by simp) (by simp) (by simp only [List.mem_cons, List.not_mem_nil, or_false]; rintro e (rfl | rfl); exact ha; exact hb) (by simp) (by simp)
    split
    ·exact h2 _ _ ey ex _ (by simp [opLt, bigN, ByteArray.size])
    ·split
     ·exact h2 _ _ ey ex _ (by simp [opLe, bigN, ByteArray.size])
     ·exact h2 _ _ ex ey _ hw
theorem fmPs_ok : ∀ (l : List Sx), (∀ k ∈ l, (fmP k).1.ok ∧ (fmP k).1.small) → (∀ f ∈ (fmPs l).1, f.ok ∧ f.small) ∧ (fmPs l).1.length ≤ l.length
 | [], _ => by simp [fmPs]
 | x :: l, h => by
  have h1 := fmPs_ok l fun k hk => h k (by simp [hk])
  have h2 := h x (by simp)
  simp only [fmPs]
  generalize fmP x = r at h2
  obtain ⟨f, c⟩ := r
  simp only at h2 ⊢
  cases c == 0 with
  | false => simp
  | true =>
   simp only [cond_true]
   generalize fmPs l = r at h1
   obtain ⟨fs, c'⟩ := r
   simp only at h1 ⊢
   cases c' == 0 with
   | false => simp
   | true =>
    simp only [cond_true, List.mem_cons, List.length_cons]
    exact ⟨fun g hg => hg.elim (fun e => by rw [e]; exact h2) (h1.1 g), by omega⟩
theorem fmP_ok : ∀ x : Sx, x.ok → x.small → (fmP x).1.ok ∧ (fmP x).1.small := by
 refine Sx.ind ?_
 intro kind value line col text kids ih hok hsm
 simp only [Sx.ok] at hok
 obtain ⟨_, _, _, hkl, hks⟩ := hok
 clear hkl
 rw [Sx.oks_iff] at hks
 simp only [Sx.small] at hsm
 obtain ⟨hl, hss⟩ := hsm
 rw [Sx.smalls_iff] at hss
 have sub : ∀ l : List Sx, (∀ k ∈ l, k ∈ kids) → (∀ f ∈ (fmPs l).1, f.ok ∧ f.small) ∧ (fmPs l).1.length ≤ l.length := fun l h => fmPs_ok l fun k hk => ih k (h k hk) (hks k (h k hk)) (hss k (h k hk))
 unfold fmP
 split
 ·cases kids with
  | nil => exact fm_mk_ok (by simp [opAnd, bigN, ByteArray.size]) empty_size (by simp) (by simp) (by simp) (by simp) (by simp) (by simp) (by simp) (by simp)
  | cons x rest =>
   simp only
   have hxt := textOf_ok (hks x (by simp))
   simp only [List.length_cons] at hl
   cases kindOf x == 1 with
   | false => exact zeroFm_ok
   | true =>
    simp only [cond_true]
    cases (decide (countW (textOf x) ≥ 0) && !(decide (countW (textOf x) = rest.length))) with
    | true => exact zeroFm_ok
    | false =>
     simp only [cond_false]
     cases isQ (textOf x) with
     | true =>
      simp only [cond_true]
      cases rest with
      | nil => exact zeroFm_ok
      | cons p body =>
       simp only
       cases kindOf p == 3 with
       | false => exact zeroFm_ok
       | true =>
        simp only [cond_true]
        have hpo := hks p (by simp)
        have hps := hss p (by simp)
        have hb := sub body fun k hk => by simp [hk]
        simp only [List.length_cons] at hl
        have hpp : (∀ q ∈ (paramsP true (kidsOf p)).1, q.ok) ∧ (paramsP true (kidsOf p)).1.length ≤ 1048576 := by
         obtain ⟨_, _, _, _, _, pk⟩ := p
         simp only [Sx.ok] at hpo
         simp only [Sx.small] at hps
         have := paramsL_ok true pk.length pk (Nat.le_refl _) (Sx.oks_iff.1 hpo.2.2.2.2) [] [] (by simp) (by simp)
         simp only [List.length_nil] at this
         exact ⟨this.1, by have := this.2; simp only [paramsP, kidsOf]; omega⟩
        cases (paramsP true (kidsOf p)).2 == 0 with
        | false => exact zeroFm_ok
        | true =>
         simp only [cond_true]
         generalize fmPs body = r at hb
         obtain ⟨ks, c⟩ := r
         simp only at hb ⊢
         cases c == 0 with
         | false => exact zeroFm_ok
         | true => exact fm_mk_ok hxt empty_size (by simp) (by simp) hpp.2 hpp.1 (by simp) (by simp) (by omega) hb.1
     | false =>
      simp only [cond_false]
      cases isLst (textOf x) with
      | true =>
       simp only [cond_true]
       have hb := sub rest fun k hk => by simp [hk]
       generalize fmPs rest = r at hb
       obtain ⟨ks, c⟩ := r
       simp only at hb ⊢
       cases c == 0 with
       | false => exact zeroFm_ok
       | true => exact fm_mk_ok hxt empty_size (by simp) (by simp) (by simp) (by simp) (by simp) (by simp) (by omega) hb.1
      | false =>
       simp only [cond_false]
       cases isCmp5 (textOf x) with
       | true =>
        simp only [cond_true]
        split
        ·rename_i a b
         exact fin_ok (compareP_ok hxt (hks a (by simp)) (hks b (by simp)) (hss a (by simp)) (hss b (by simp)))
        ·exact zeroFm_ok
       | false =>
        simp only [cond_false]
        cases nameB (textOf x) with
        | false => exact zeroFm_ok
        | true =>
         have ht := termsM_ok (l := rest) fun y hy => hks y (by simp [hy])
         simp only [cond_true]
         cases (termsM rest).2 == 0 with
         | false => exact zeroFm_ok
         | true => exact fm_mk_ok (by simp [opAtom, bigN, ByteArray.size]) hxt (by omega) ht.1 (by simp) (by simp) (by simp) (by simp) (by simp) (by simp)
 ·exact zeroFm_ok
def parseF (x : Sx) : Fm × Int :=
 if (svalid x 0 0).1 = true then (if (fmP x).2 = 0 then (if validF (fmP x).1 = true then ((fmP x).1, 0) else (zeroFm, 5)) else (zeroFm, (fmP x).2)) else (zeroFm, 2)
theorem parseF_ok {x : Sx} (hok : x.ok) : (parseF x).1.ok ∧ (parseF x).1.small := by
 unfold parseF
 split
 ·rename_i h
  split
  ·split
   ·exact fmP_ok x hok (svalid_small h)
   ·exact zeroFm_ok
  ·exact zeroFm_ok
 ·exact zeroFm_ok
end Go.Proofs.Ytjlkapgpjamnkaa
namespace Go.Proofs.Ytjlkapgpjamnkaa
open Go.AM
set_option maxHeartbeats 4000000
set_option maxRecDepth 20000
def parseE (x : Sx) : Ex × Int := if (svalid x 0 0).1 = true then (if (exprP x).2 = 0 then (if validE (exprP x).1 = true then ((exprP x).1, 0) else (zeroEx, 5)) else (zeroEx, (exprP x).2)) else (zeroEx, 2)
theorem ParseExpr_c {x : Sx} (hok : x.ok) (h : Heap) : PCall Try.prog 36 [.agg x.cells] h fun r h' => r = .tup [.agg (parseE x).1.cells, errP (parseE x).2] ∧ h' = h := by
 refine PCall.frz Ty.hb_36 ?_
 have hv := fun h : Heap => svalid_c hok h
 have hX : parseE x = (if (svalid x 0 0).1 = true then (if (exprP x).2 = 0 then (if validE (exprP x).1 = true then ((exprP x).1, 0) else (zeroEx, 5)) else (zeroEx, (exprP x).2)) else (zeroEx, 2)) := rfl
 generalize parseE x = F at hX
 have bad : ∀ (c : Int) (h' : Heap), (c == 0) = false → Grow h h' → F = (zeroEx, c) → FrzTo h.next h' (.tup [.agg F.1.cells, errP F.2]) (.tup [.agg [.sc (.string ⟨#[]⟩), .sc (.string ⟨#[]⟩), .sc (.int .i64 0), .sc (.slice none 0 0), .sc (.slice none 0 0)], errV c]) ∧ Grow h h' := by
  intro c h' hc hg hF
  subst hF
  have : errP c = errV c := by simp only [errP, hc, cond_false]
  simp only [this]
  refine ⟨?_, hg⟩
  simp only [errV, zeroEx, Ex.cells, Ex.rows, strRows, List.map_nil, FrzTo, FrzL]
  exact ⟨_, rfl, ⟨_, rfl, rfl, rfl, rfl, .inr (.inl ⟨rfl, .inr rfl⟩), .inr (.inl ⟨rfl, .inr rfl⟩), trivial⟩, rfl, trivial⟩
 simp only [errV] at bad
 have hg1 : ∀ r, Grow h ((h.new (.arr 5 [[.sc (.string ⟨#[]⟩), .sc (.string ⟨#[]⟩), .sc (.int .i64 0), .sc (.slice none 0 0), .sc (.slice none 0 0)]])).set h.next r) := fun r => ((Grow.refl h).new _).set (Nat.le_refl _) _
 have hg2 : ∀ o1 o2 r, Grow h ((((h.new (.arr 5 [[.sc (.string ⟨#[]⟩), .sc (.string ⟨#[]⟩), .sc (.int .i64 0), .sc (.slice none 0 0), .sc (.slice none 0 0)]])).new o1).set (h.next + 1) o2).set h.next r) := fun o1 o2 r => ((((Grow.refl h).new _).new _).set (Nat.le_succ _) _).set (Nat.le_refl _) _
 have n1 : (h.next = h.next + 1) = False := by simp
 cases v1 : (svalid x 0 0).1 with
 | false =>
  rw [v1] at hv
  rw [if_neg (by rw [v1]; simp)] at hX
  obtain ⟨kind, value, line, col, text, kids⟩ := x
  simp only [Sx.cells] at hv ⊢
  refine pcall_body (ow := fun _ => false) (wf := fun _ => false) Ty.mixed Try.func36 rfl Ty.hb_36 (by rw [Try.ntmps36]; simp) ?_
  rw [Try.ntmps36, Try.results36]
  repeat' (first | refine a_seq fun K hK => ?_ | (refine a_regionS ?_; simp only [Ty.w, simprocAttr]) | (refine hK _ _ ?_; clear hK; try simp only [pst0, simprocAttr]))
  refine owp_useQ (hv _) (by (try simp only [Ty.w, simprocAttr, ]); try rfl) ?_; simp only [Ty.w, simprocAttr, ]
  repeat' (first | refine a_seq fun K hK => ?_ | ((first | refine a_regionS ?_ | refine a_ret ?_); simp only [Ty.w, simprocAttr, Bool.not_false]) | (refine hK _ _ ?_; clear hK; try simp only [pst0, simprocAttr]))
  exact bad 2 _ rfl (hg1 _) hX
 | true =>
  have hsm := svalid_small v1
  have hp := expr_c x hok hsm
  have hfo := exprP_ok x hok hsm
  rw [v1] at hv
  rw [if_pos v1] at hX
  have hfz := fun n hh => ex_frz n hh (exprP x).1
  generalize exprP x = E at hp hfo hX hfz
  obtain ⟨f, c⟩ := E
  simp only at hp hfo hX hfz
  obtain ⟨kind, value, line, col, text, kids⟩ := x
  simp only [Sx.cells] at hv hp ⊢
  cases hc : c == 0 with
  | false =>
   rw [if_neg (by simpa using hc)] at hX
   have e0 : errP c = errV c := by simp only [errP, hc, cond_false]
   rw [e0] at hp
   simp only [errV] at hp
   obtain ⟨fop, fna, fnn, far, fki⟩ := f
   simp only [Ex.cells] at hp
   refine pcall_body (ow := fun _ => false) (wf := fun _ => false) Ty.mixed Try.func36 rfl Ty.hb_36 (by rw [Try.ntmps36]; simp) ?_
   rw [Try.ntmps36, Try.results36]
   repeat' (first | refine a_seq fun K hK => ?_ | (refine a_regionS ?_; simp only [Ty.w, simprocAttr]) | (refine hK _ _ ?_; clear hK; try simp only [pst0, simprocAttr]))
   refine owp_useQ (hv _) (by (try simp only [Ty.w, simprocAttr, ]); try rfl) ?_; simp only [Ty.w, simprocAttr, ]
   repeat' (first | refine a_seq fun K hK => ?_ | (refine a_regionS ?_; simp only [Ty.w, simprocAttr, Bool.not_true]) | (refine a_skip ?_; try simp only [pst0, simprocAttr]) | (refine a_cond _ (by (try simp only [Ty.w, simprocAttr, Bool.not_true]); rfl) (fun hb => ?_) (fun hb => ?_) <;> (try simp only [hb0, decide_eq_true_eq, decide_eq_false_iff_not, simprocAttr] at hb) <;> (try (exfalso; omega))) | (refine hK _ _ ?_; clear hK; try simp only [pst0, simprocAttr]))
   refine owp_useQ (hp _) (by (try simp only [Ty.w, simprocAttr, ]); try rfl) ?_; simp only [Ty.w, simprocAttr, ]
   repeat' (first | refine a_seq fun K hK => ?_ | ((first | refine a_regionS ?_ | refine a_ret ?_); simp only [Ty.w, simprocAttr, n1, nsucc]) | (refine hK _ _ ?_; clear hK; try simp only [pst0, simprocAttr]))
   exact bad c _ hc (hg2 _ _ _) hX
  | true =>
   rw [if_pos (by simpa using hc)] at hX
   have e0 : errP c = .sc .nilIface := by simp only [errP, hc, cond_true]
   rw [e0] at hp
   have hV := fun h : Heap => validE_c hfo.1 hfo.2 h
   cases v2 : validE f with
   | false =>
    rw [v2] at hV
    rw [if_neg (by rw [v2]; simp)] at hX
    obtain ⟨fop, fna, fnn, far, fki⟩ := f
    simp only [Ex.cells] at hp hV
    refine pcall_body (ow := fun _ => false) (wf := fun _ => false) Ty.mixed Try.func36 rfl Ty.hb_36 (by rw [Try.ntmps36]; simp) ?_
    rw [Try.ntmps36, Try.results36]
    repeat' (first | refine a_seq fun K hK => ?_ | (refine a_regionS ?_; simp only [Ty.w, simprocAttr]) | (refine hK _ _ ?_; clear hK; try simp only [pst0, simprocAttr]))
    refine owp_useQ (hv _) (by (try simp only [Ty.w, simprocAttr, ]); try rfl) ?_; simp only [Ty.w, simprocAttr, ]
    repeat' (first | refine a_seq fun K hK => ?_ | (refine a_regionS ?_; simp only [Ty.w, simprocAttr, Bool.not_true]) | (refine a_skip ?_; try simp only [pst0, simprocAttr]) | (refine a_cond _ (by (try simp only [Ty.w, simprocAttr, Bool.not_true]); rfl) (fun hb => ?_) (fun hb => ?_) <;> (try simp only [hb0, decide_eq_true_eq, decide_eq_false_iff_not, simprocAttr] at hb) <;> (try (exfalso; omega))) | (refine hK _ _ ?_; clear hK; try simp only [pst0, simprocAttr]))
    refine owp_useQ (hp _) (by (try simp only [Ty.w, simprocAttr, ]); try rfl) ?_; simp only [Ty.w, simprocAttr, ]
    repeat' (first | refine a_seq fun K hK => ?_ | (refine a_regionS ?_; simp only [Ty.w, simprocAttr, n1, nsucc]) | (refine a_skip ?_; try simp only [pst0, simprocAttr]) | (refine a_cond _ (by (try simp only [Ty.w, simprocAttr, n1, nsucc]); rfl) (fun hb => ?_) (fun hb => ?_) <;> (try simp only [hb0, decide_eq_true_eq, decide_eq_false_iff_not, simprocAttr] at hb) <;> (try (exfalso; omega))) | (refine hK _ _ ?_; clear hK; try simp only [pst0, simprocAttr]))
    refine owp_useQ (hV _) (by (try simp only [Ty.w, simprocAttr, n1, nsucc]); try rfl) ?_; simp only [Ty.w, simprocAttr, n1, nsucc]
    repeat' (first | refine a_seq fun K hK => ?_ | ((first | refine a_regionS ?_ | refine a_ret ?_); simp only [Ty.w, simprocAttr, n1, nsucc, Bool.not_false]) | (refine hK _ _ ?_; clear hK; try simp only [pst0, simprocAttr]))
    exact bad 5 _ rfl (hg2 _ _ _) hX
   | true =>
    rw [v2] at hV
    rw [if_pos v2] at hX
    subst hX
    obtain ⟨fop, fna, fnn, far, fki⟩ := f
    simp only [Ex.cells] at hp hV hfz
    have e2 : errP 0 = .sc .nilIface := rfl
    simp only [e2, Ex.cells]
    refine pcall_body (ow := fun _ => false) (wf := fun _ => false) Ty.mixed Try.func36 rfl Ty.hb_36 (by rw [Try.ntmps36]; simp) ?_
    rw [Try.ntmps36, Try.results36]
    repeat' (first | refine a_seq fun K hK => ?_ | (refine a_regionS ?_; simp only [Ty.w, simprocAttr]) | (refine hK _ _ ?_; clear hK; try simp only [pst0, simprocAttr]))
    refine owp_useQ (hv _) (by (try simp only [Ty.w, simprocAttr, ]); try rfl) ?_; simp only [Ty.w, simprocAttr, ]
    repeat' (first | refine a_seq fun K hK => ?_ | (refine a_regionS ?_; simp only [Ty.w, simprocAttr, Bool.not_true]) | (refine a_skip ?_; try simp only [pst0, simprocAttr]) | (refine a_cond _ (by (try simp only [Ty.w, simprocAttr, Bool.not_true]); rfl) (fun hb => ?_) (fun hb => ?_) <;> (try simp only [hb0, decide_eq_true_eq, decide_eq_false_iff_not, simprocAttr] at hb) <;> (try (exfalso; omega))) | (refine hK _ _ ?_; clear hK; try simp only [pst0, simprocAttr]))
    refine owp_useQ (hp _) (by (try simp only [Ty.w, simprocAttr, ]); try rfl) ?_; simp only [Ty.w, simprocAttr, ]
    repeat' (first | refine a_seq fun K hK => ?_ | (refine a_regionS ?_; simp only [Ty.w, simprocAttr, n1, nsucc]) | (refine a_skip ?_; try simp only [pst0, simprocAttr]) | (refine a_cond _ (by (try simp only [Ty.w, simprocAttr, n1, nsucc]); rfl) (fun hb => ?_) (fun hb => ?_) <;> (try simp only [hb0, decide_eq_true_eq, decide_eq_false_iff_not, simprocAttr] at hb) <;> (try (exfalso; omega))) | (refine hK _ _ ?_; clear hK; try simp only [pst0, simprocAttr]))
    refine owp_useQ (hV _) (by (try simp only [Ty.w, simprocAttr, n1, nsucc]); try rfl) ?_; simp only [Ty.w, simprocAttr, n1, nsucc]
    repeat' (first | refine a_seq fun K hK => ?_ | ((first | refine a_regionS ?_ | refine a_ret ?_); simp only [Ty.w, simprocAttr, n1, nsucc, Bool.not_true]) | (refine a_skip ?_; try simp only [pst0, simprocAttr]) | (refine a_cond _ (by (try simp only [Ty.w, simprocAttr, n1, nsucc, Bool.not_true]); rfl) (fun hb => ?_) (fun hb => ?_) <;> (try simp only [hb0, decide_eq_true_eq, decide_eq_false_iff_not, simprocAttr] at hb) <;> (try (exfalso; omega))) | (refine hK _ _ ?_; clear hK; try simp only [pst0, simprocAttr]))
    refine ⟨?_, hg2 _ _ _⟩
    have h1 := fun hh => hfz h.next hh
    unfold FrzTo
    refine ⟨_, rfl, ?_⟩
    unfold FrzL
    refine ⟨?_, by unfold FrzL; exact ⟨by simp only [FrzTo], by simp only [FrzL]⟩⟩
    unfold FrzTo
    exact ⟨_, rfl, h1 _⟩
end Go.Proofs.Ytjlkapgpjamnkaa
namespace Go.Proofs.Ytjlkapgpjamnkaa
open Go.AM
section
variable {name : ByteArray} {args : List ByteArray} {params : List Pm} {exprs : List Ex} {kids p q : List Fm} {s : Bool}
end
theorem sf_cases {C : Fm → Prop} (f : Fm) (hf : shapedF f = true)
  (h1 : ∀ name args, nameB name = true → args.all termB = true → C (.mk opAtom name args [] [] []))
  (h2 : ∀ args, args.length = 2 → args.all termB = true → C (.mk opSame ⟨#[]⟩ args [] [] []))
  (h3 : ∀ op a b, (op = opLt ∨ op = opLe ∨ op = opEq) → shapedE a = true → shapedE b = true → C (.mk op ⟨#[]⟩ [] [] [a, b] []))
  (h4 : ∀ op kids, (op = opAnd ∨ op = opOr) → (∀ k ∈ kids, shapedF k = true) → C (.mk op ⟨#[]⟩ [] [] [] kids))
  (h5 : ∀ k, shapedF k = true → C (.mk opNot ⟨#[]⟩ [] [] [] [k]))
  (h6 : ∀ a b, shapedF a = true → shapedF b = true → C (.mk opImp ⟨#[]⟩ [] [] [] [a, b]))
  (h7 : ∀ op params k, (op = opAll ∨ op = opSome) → params.all pmOk = true → shapedF k = true → C (.mk op ⟨#[]⟩ [] params [] [k])) : C f := by
 obtain ⟨op, name, args, params, exprs, kids⟩ := f
 simp only [shapedF, Bool.and_eq_true, List.all_eq_true] at hf
 obtain ⟨⟨hp, he⟩, hk⟩ := hf
 rw [shapedFs_iff] at hk
 rcases partsOk_cases hp with ⟨rfl, a1, a2, rfl, a3, a4⟩ | ⟨rfl, rfl, a1, a2, rfl, a3, a4⟩ | ⟨a1, rfl, rfl, rfl, a3, a4⟩ | ⟨a1, rfl, rfl, rfl, a3⟩ | ⟨a1, rfl, rfl, a3, a4, a5⟩
 ·obtain rfl := List.eq_nil_of_length_eq_zero a3
  obtain rfl := List.eq_nil_of_length_eq_zero a4
  exact h1 _ _ a1 a2
 ·obtain rfl := List.eq_nil_of_length_eq_zero a3
  obtain rfl := List.eq_nil_of_length_eq_zero a4
  exact h2 _ a1 a2
 ·obtain rfl := List.eq_nil_of_length_eq_zero a4
  match exprs, a3, he with
  | [a, b], _, he => exact h3 _ _ _ a1 (he a (by simp)) (he b (by simp))
 ·obtain rfl := List.eq_nil_of_length_eq_zero a3
  rcases a1 with rfl | rfl | ⟨rfl, a4⟩ | ⟨rfl, a4⟩
  ·exact h4 _ _ (.inl rfl) hk
  ·exact h4 _ _ (.inr rfl) hk
  ·match kids, a4, hk with
   | [k], _, hk => exact h5 _ (hk k (by simp))
  ·match kids, a4, hk with
   | [a, b], _, hk => exact h6 _ _ (hk a (by simp)) (hk b (by simp))
 ·obtain rfl := List.eq_nil_of_length_eq_zero a3
  match kids, a4, hk with
  | [k], _, hk => exact h7 _ _ _ a1 a5 (hk k (by simp))
end Go.Proofs.Ytjlkapgpjamnkaa
namespace Go.Proofs.Ytjlkapgpjamnkaa
open Go.AM
theorem list_depth {l : List Sx} {k : Sx} (h : k ∈ l) : k.depth + 1 ≤ (listM l).depth := by
 have := Sx.depths_mem 0 h
 simp only [listM, Sx.depth, if_true]; omega
theorem fmW_rest {op name : ByteArray} {args : List ByteArray} {params : List Pm} {exprs : List Ex} {kids : List Fm} (h1 : bEq op opAtom = false) (h2 : bEq op opSame = false) (h3 : isCmp op = false) : ∃ pre, fmW (.mk op name args params exprs kids) = listM (pre ++ kids.map fmW) := by
 unfold fmW
 rw [h1, h2, h3, fmWs_map]
 exact ⟨_, rfl⟩
theorem fmW_parts : ∀ f, shapedF f = true → match f with
  | .mk _ _ _ _ exprs kids => 1 + Sx.nodess (exprs.map exW) + Sx.nodess (kids.map fmW) ≤ (fmW f).nodes ∧ 1 ≤ (fmW f).depth ∧ (∀ e ∈ exprs, (exW e).depth + 1 ≤ (fmW f).depth) ∧ (∀ k ∈ kids, (fmW k).depth + 1 ≤ (fmW f).depth) := by
 intro f hf
 have d1 : ∀ l : List Sx, 1 ≤ (listM l).depth := fun l => by simp only [listM, Sx.depth, if_true]; omega
 have rest : ∀ {op : ByteArray} {params : List Pm} {kids : List Fm} {pre : List Sx}, fmW (.mk op ⟨#[]⟩ [] params [] kids) = listM (pre ++ kids.map fmW) →
   1 + Sx.nodess (([] : List Ex).map exW) + Sx.nodess (kids.map fmW) ≤ (fmW (.mk op ⟨#[]⟩ [] params [] kids)).nodes ∧ 1 ≤ (fmW (.mk op ⟨#[]⟩ [] params [] kids)).depth ∧ (∀ e ∈ ([] : List Ex), (exW e).depth + 1 ≤ (fmW (.mk op ⟨#[]⟩ [] params [] kids)).depth) ∧ (∀ k ∈ kids, (fmW k).depth + 1 ≤ (fmW (.mk op ⟨#[]⟩ [] params [] kids)).depth) := by
  intro op params kids pre e
  rw [e]
  refine ⟨?_, d1 _, by simp, fun k hk => list_depth (List.mem_append.2 (.inr (List.mem_map.2 ⟨k, hk, rfl⟩)))⟩
  rw [list_nodes, nodess_append]; simp only [List.map_nil, Sx.nodess]; omega
 refine sf_cases (C := fun f => match f with
  | .mk _ _ _ _ exprs kids => 1 + Sx.nodess (exprs.map exW) + Sx.nodess (kids.map fmW) ≤ (fmW f).nodes ∧ 1 ≤ (fmW f).depth ∧ (∀ e ∈ exprs, (exW e).depth + 1 ≤ (fmW f).depth) ∧ (∀ k ∈ kids, (fmW k).depth + 1 ≤ (fmW f).depth)) f hf ?_ ?_ ?_ ?_ ?_ ?_ ?_
 ·intro name args _ _
  have e : fmW (.mk opAtom name args [] [] []) = wordsM name args := rfl
  simp only [e]
  exact ⟨by simp only [wordsM, list_nodes, List.map_nil, Sx.nodess]; omega, d1 _, by simp, by simp⟩
 ·intro args _ _
  have e : fmW (.mk opSame ⟨#[]⟩ args [] [] []) = wordsM opEq args := rfl
  simp only [e]
  exact ⟨by simp only [wordsM, list_nodes, List.map_nil, Sx.nodess]; omega, d1 _, by simp, by simp⟩
 ·intro op a b ho _ _
  have e : fmW (.mk op ⟨#[]⟩ [] [] [a, b] []) = listM [wordM op, exW a, exW b] := by rcases ho with rfl | rfl | rfl <;> rfl
  simp only [e]
  refine ⟨?_, d1 _, ?_, by simp⟩
  ·simp only [list_nodes, List.map_cons, List.map_nil, Sx.nodess, word_nodes]; omega
  ·intro x hx
   simp only [List.mem_cons, List.not_mem_nil, or_false] at hx
   rcases hx with rfl | rfl <;> exact list_depth (by simp)
 ·intro op kids ho _
  obtain ⟨pre, e⟩ : ∃ pre, fmW (.mk op ⟨#[]⟩ [] [] [] kids) = listM (pre ++ kids.map fmW) := by rcases ho with rfl | rfl <;> exact fmW_rest rfl rfl rfl
  exact rest e
 ·intro k _
  obtain ⟨pre, e⟩ : ∃ pre, fmW (.mk opNot ⟨#[]⟩ [] [] [] [k]) = listM (pre ++ [k].map fmW) := fmW_rest rfl rfl rfl
  exact rest e
 ·intro a b _ _
  obtain ⟨pre, e⟩ : ∃ pre, fmW (.mk opImp ⟨#[]⟩ [] [] [] [a, b]) = listM (pre ++ [a, b].map fmW) := fmW_rest rfl rfl rfl
  exact rest e
 ·intro op params k ho _ _
  obtain ⟨pre, e⟩ : ∃ pre, fmW (.mk op ⟨#[]⟩ [] params [] [k]) = listM (pre ++ [k].map fmW) := by rcases ho with rfl | rfl <;> exact fmW_rest rfl rfl rfl
  exact rest e
theorem formeds_of : ∀ (l : List Ex), (∀ e ∈ l, shapedE e = true) → ∀ (d n : Nat), (∀ e ∈ l, d + (exW e).depth ≤ 32) → n + Sx.nodess (l.map exW) ≤ 4096 → (formedMs l d n).1 = true ∧ (formedMs l d n).2 ≤ n + Sx.nodess (l.map exW)
 | [], _, d, n, _, hn => by simp [formedMs, Sx.nodess]
 | e :: l, hs, d, n, hd, hn => by
  simp only [List.map_cons, Sx.nodess] at hn ⊢
  obtain ⟨f1, f2⟩ := formed_of e (hs e (by simp)) d n (hd e (by simp)) (by omega)
  unfold formedMs
  cases hw : formedM e d n with
  | mk x c =>
   rw [hw] at f1 f2
   simp only at f1 f2
   subst f1
   simp only
   obtain ⟨g1, g2⟩ := formeds_of l (fun q hq => hs q (by simp [hq])) d c (fun q hq => hd q (by simp [hq])) (by omega)
   exact ⟨g1, by omega⟩
theorem shapeds_of : ∀ (l : List Fm) (d : Nat), (∀ k ∈ l, ∀ n, n + (fmW k).nodes ≤ 4096 → (shapedM k d n).1 = true ∧ (shapedM k d n).2 ≤ n + (fmW k).nodes) → ∀ n, n + Sx.nodess (l.map fmW) ≤ 4096 → (shapedMs l d n).1 = true ∧ (shapedMs l d n).2 ≤ n + Sx.nodess (l.map fmW)
 | [], _, _, n, hn => by simp [shapedMs, Sx.nodess]
 | k :: l, d, h, n, hn => by
  simp only [List.map_cons, Sx.nodess] at hn ⊢
  obtain ⟨f1, f2⟩ := h k (by simp) n (by omega)
  unfold shapedMs
  cases hw : shapedM k d n with
  | mk x c =>
   rw [hw] at f1 f2
   simp only at f1 f2
   subst f1
   simp only
   obtain ⟨g1, g2⟩ := shapeds_of l d (fun q hq => h q (by simp [hq])) c (by omega)
   exact ⟨g1, by omega⟩
theorem shaped_of : ∀ (f : Fm), shapedF f = true → ∀ (d n : Nat), d + (fmW f).depth ≤ 32 → n + (fmW f).nodes ≤ 4096 → (shapedM f d n).1 = true ∧ (shapedM f d n).2 ≤ n + (fmW f).nodes := by
 refine Fm.ind ?_
 intro op name args params exprs kids ih hs d n hd hn
 have hp := fmW_parts _ hs
 simp only at hp
 obtain ⟨p1, p2, p3, p4⟩ := hp
 have hs2 := hs
 simp only [shapedF, Bool.and_eq_true, List.all_eq_true] at hs2
 obtain ⟨⟨h1, h2⟩, h3⟩ := hs2
 rw [shapedFs_iff] at h3
 generalize fmW (.mk op name args params exprs kids) = X at *
 unfold shapedM
 rw [if_pos ⟨by omega, by omega⟩, if_pos h1]
 obtain ⟨f1, f2⟩ := formeds_of exprs h2 (d + 1) (n + 1) (fun e he => by have := p3 e he; omega) (by omega)
 cases hw : formedMs exprs (d + 1) (n + 1) with
 | mk x c =>
  rw [hw] at f1 f2
  simp only at f1 f2
  subst f1
  simp only
  obtain ⟨g1, g2⟩ := shapeds_of kids (d + 1) (fun k hk m hm => ih k hk (h3 k hk) (d + 1) m (by have := p4 k hk; omega) hm) c (by omega)
  exact ⟨g1, by omega⟩
theorem validF_same {f : Fm} (hn : (fmW f).nodes ≤ bigN) : validF f = (shapedF f && rvalidB (fmW f)) := by
 unfold validF
 rw [valid_same hn]
 cases hs : shapedF f with
 | false =>
  have : (shapedM f 0 0).1 = false := by
   cases h : (shapedM f 0 0).1 with
   | false => rfl
   | true => rw [shapedM_F f 0 0 h] at hs; simp at hs
  simp only [this, Bool.false_and]
 | true =>
  cases hv : rvalidB (fmW f) with
  | false => simp
  | true =>
   have h1 := (svalid_iff (fmW f) 0 0 (by omega) (by omega)).1.1 (by rw [valid_same hn]; exact hv)
   rw [(shaped_of f hs 0 0 h1.2.1 h1.2.2).1]
end Go.Proofs.Ytjlkapgpjamnkaa
namespace Go.Proofs.Ytjlkapgpjamnkaa
open Go.AM
theorem nodess_wds : ∀ l : List ByteArray, Sx.nodess (l.map wordM) = l.length
 | [] => rfl
 | s :: l => by simp only [List.map_cons, Sx.nodess, word_nodes, nodess_wds l, List.length_cons]; omega
theorem wds_nodes (first : ByteArray) (l : List ByteArray) : (wordsM first l).nodes = l.length + 2 := by
 simp only [wordsM, list_nodes, nodess_wds, List.length_cons]
theorem nodess_pms : ∀ l : List Pm, Sx.nodess (paramsW l) = 3 * l.length
 | [] => rfl
 | s :: l => by simp only [paramsW, Sx.nodess, word_nodes, nodess_pms l, List.length_cons]; omega
theorem nodess_len : ∀ l : List Sx, l.length ≤ Sx.nodess l
 | [] => by simp
 | k :: l => by
  have := nodess_len l
  cases k
  simp only [Sx.nodess, Sx.nodes, List.length_cons]; omega
theorem exW_le (op name : ByteArray) (v : Int) (args : List ByteArray) (kids : List Ex) : (exW (.mk op name v args kids)).nodes ≤ 2 + args.length + Sx.nodess (kids.map exW) := by
 unfold exW
 split
 ·simp only [Sx.nodes, Sx.nodess]; omega
 ·split
  ·rw [wds_nodes]; omega
  ·split
   ·simp only [list_nodes, Sx.nodess, word_nodes, List.map_cons, List.map_nil]; omega
   ·simp only [list_nodes, Sx.nodess, word_nodes]; omega
theorem zeroEx_nodes : (exW zeroEx).nodes ≤ 2 := exW_le ⟨#[]⟩ ⟨#[]⟩ 0 [] []
theorem termsM_len : ∀ l : List Sx, (termsM l).1.length ≤ l.length
 | [] => by simp [termsM]
 | x :: l => by
  have ih := termsM_len l
  simp only [termsM]
  cases kindOf x == 1 with
  | false => simp
  | true =>
   cases termB (textOf x) with
   | false => simp
   | true =>
    simp only [cond_true]
    cases (termsM l).2 == 0 with
    | false => simp
    | true => simp only [cond_true, List.length_cons]; omega
theorem exprP_nodes : ∀ x : Sx, (exW (exprP x).1).nodes ≤ 3 * x.nodes := by
 refine Sx.ind ?_
 intro kind value line col text kids ih
 have h1 : 1 ≤ (Sx.mk kind value line col text kids).nodes := by simp only [Sx.nodes]; omega
 have hz : (exW zeroEx).nodes ≤ 3 * (Sx.mk kind value line col text kids).nodes := by have := zeroEx_nodes; omega
 by_cases n2 : kind = 2
 ·unfold exprP
  rw [if_pos n2]
  have := exW_le opNum ⟨#[]⟩ value [] []
  simp only [List.length_nil, List.map_nil, Sx.nodess] at this
  simp only; omega
 ·by_cases e3 : kind = 3
  ·cases kids with
   | nil =>
    unfold exprP
    rw [if_neg n2, if_pos e3]
    exact hz
   | cons y rest =>
    rw [exprP_hd n2 e3]
    have hn : (Sx.mk kind value line col text (y :: rest)).nodes = y.nodes + Sx.nodess rest + 1 := by simp only [Sx.nodes, Sx.nodess]
    have hy : 1 ≤ y.nodes := by cases y; simp only [Sx.nodes]; omega
    cases kindOf y == 1 with
    | false => exact hz
    | true =>
     simp only [cond_true]
     cases isPm (textOf y) with
     | true =>
      simp only [cond_true]
      cases q : (exprs2 rest).2 == 0 with
      | false => exact hz
      | true =>
       simp only [cond_true]
       have h2 := exW_le (textOf y) ⟨#[]⟩ 0 [] (exprs2 rest).1
       have h3 : Sx.nodess ((exprs2 rest).1.map exW) ≤ 3 * Sx.nodess rest := by
        clear h2 hz h1 hn
        match rest, q with
        | [], q => simp [exprs2] at q
        | [_], q => simp [exprs2] at q
        | [a, b], q =>
         have ha := ih a (by simp)
         have hb := ih b (by simp)
         simp only [exprs2]
         cases (exprP a).2 == 0 with
         | false => simp [Sx.nodess]
         | true =>
          cases (exprP b).2 == 0 with
          | false => simp [Sx.nodess]
          | true => simp only [cond_true, List.map_cons, List.map_nil, Sx.nodess]; omega
        | _ :: _ :: _ :: _, q => simp [exprs2] at q
       simp only [List.length_nil] at h2
       omega
     | false =>
      simp only [cond_false]
      cases nameB (textOf y) with
      | false => exact hz
      | true =>
       simp only [cond_true]
       cases (termsM rest).2 == 0 with
       | false => exact hz
       | true =>
        simp only [cond_true]
        have h2 := exW_le opFlu (textOf y) 0 (termsM rest).1 []
        have h3 := termsM_len rest
        have h4 := nodess_len rest
        simp only [List.map_nil, Sx.nodess] at h2
        omega
  ·unfold exprP
   rw [if_neg n2, if_neg e3]
   exact hz
theorem fmW_le (op name : ByteArray) (args : List ByteArray) (params : List Pm) (exprs : List Ex) (kids : List Fm) : (fmW (.mk op name args params exprs kids)).nodes ≤ 3 + args.length + 3 * params.length + Sx.nodess (exprs.map exW) + Sx.nodess (kids.map fmW) := by
 unfold fmW
 split
 ·rw [wds_nodes]; omega
 ·split
  ·rw [wds_nodes]; omega
  ·split
   ·simp only [list_nodes, Sx.nodess, word_nodes]; omega
   ·rw [fmWs_map]
    simp only [list_nodes, nodess_append]
    split <;> split <;> simp only [Sx.nodess, word_nodes, list_nodes, nodess_pms] <;> omega
theorem zeroFm_nodes : (fmW zeroFm).nodes = 2 := rfl
theorem fmPs_nodes : ∀ l : List Sx, (∀ x ∈ l, (fmW (fmP x).1).nodes ≤ 3 * x.nodes) → Sx.nodess ((fmPs l).1.map fmW) ≤ 3 * Sx.nodess l
 | [], _ => by simp [fmPs, Sx.nodess]
 | x :: l, h => by
  have h1 := h x (by simp)
  have h2 := fmPs_nodes l fun y hy => h y (by simp [hy])
  simp only [fmPs]
  cases (fmP x).2 == 0 with
  | false => simp [Sx.nodess]
  | true =>
   simp only [cond_true]
   cases (fmPs l).2 == 0 with
   | false => simp [Sx.nodess]
   | true => simp only [cond_true, List.map_cons, Sx.nodess]; omega
theorem paramsL_len (vars : Bool) : ∀ (n : Nat) (l : List Sx), l.length ≤ n → ∀ (don : List Pm) (pen : List ByteArray), (paramsL vars l don pen).1.length ≤ don.length + pen.length + l.length := by
 intro n
 induction n with
 | zero =>
  intro l hl don pen
  match l, hl with
  | [], _ => simp [paramsL, pmsOf]
 | succ n ih =>
  intro l hl don pen
  cases l with
  | nil => simp [paramsL, pmsOf]
  | cons x l =>
   rw [paramsL_cons]
   cases isWrd x with
   | false => simp
   | true =>
    simp only [cond_true]
    cases bEq (textOf x) opMin with
    | true =>
     simp only [cond_true]
     cases l with
     | nil => simp
     | cons t l' =>
      simp only
      cases (!pen.isEmpty && isWrd t) with
      | false => simp
      | true =>
       cases typedB (textOf t) with
       | false => simp
       | true =>
        simp only [cond_true]
        have := ih l' (by simp at hl; omega) (don ++ pmsOf (textOf t) pen) []
        simp [pmsOf] at this ⊢
        omega
    | false =>
     simp only [cond_false]
     cases (bif vars then varB (textOf x) else nameB (textOf x)) with
     | false => simp
     | true =>
      simp only [cond_true]
      have := ih l (by simp at hl; omega) don (pen ++ [textOf x])
      simp at this ⊢
      omega
theorem topR_nodes (w : ByteArray) (rest : List Sx) (ih : ∀ x ∈ rest, (fmW (fmP x).1).nodes ≤ 3 * x.nodes) : (fmW (topR w rest).1).nodes ≤ 3 * (2 + Sx.nodess rest) ∧ (((topR w rest).2 == 0) = false → (topR w rest).1 = zeroFm) := by
 have hz : (fmW zeroFm).nodes ≤ 3 * (2 + Sx.nodess rest) := by rw [zeroFm_nodes]; omega
 have z2 : ∀ c : Int, (fmW ((zeroFm, c) : Fm × Int).1).nodes ≤ 3 * (2 + Sx.nodess rest) ∧ ((((zeroFm, c) : Fm × Int).2 == 0) = false → ((zeroFm, c) : Fm × Int).1 = zeroFm) := fun c => ⟨hz, fun _ => rfl⟩
 have l1 : ∀ w, (fmW (lstR w rest).1).nodes ≤ 3 * (2 + Sx.nodess rest) ∧ (((lstR w rest).2 == 0) = false → (lstR w rest).1 = zeroFm) := by
  intro w
  unfold lstR
  cases (fmPs rest).2 == 0 with
  | false => exact z2 _
  | true =>
   have h1 := fmW_le w ⟨#[]⟩ [] [] [] (fmPs rest).1
   have h2 := fmPs_nodes rest ih
   simp only [List.length_nil, List.map_nil, Sx.nodess] at h1
   simp only [cond_true]
   exact ⟨by omega, fun h => by simp at h⟩
 have c1 : ∀ w, (fmW (cmpR w rest).1).nodes ≤ 3 * (2 + Sx.nodess rest) ∧ (((cmpR w rest).2 == 0) = false → (cmpR w rest).1 = zeroFm) := by
  intro w
  unfold cmpR
  cases q : (exprs2 rest).2 == 0 with
  | false => exact z2 _
  | true =>
   simp only [cond_true]
   match rest, q with
   | [], q => simp [exprs2] at q
   | [_], q => simp [exprs2] at q
   | [a, b], q =>
    have ha := exprP_nodes a
    have hb := exprP_nodes b
    simp only [exprs2] at q ⊢
    cases qa : (exprP a).2 == 0 with
    | false => simp only [qa, cond_false] at q; exact absurd q (by simp)
    | true =>
     cases qb : (exprP b).2 == 0 with
     | false => simp only [qa, qb, cond_true, cond_false] at q; exact absurd q (by simp)
     | true =>
      simp only [cond_true]
      have key : ∀ o c d, (c = (exprP a).1 ∧ d = (exprP b).1 ∨ c = (exprP b).1 ∧ d = (exprP a).1) → (fmW (.mk o ⟨#[]⟩ [] [] [c, d] [])).nodes ≤ 3 * (2 + Sx.nodess [a, b]) := by
       intro o c d hcd
       have h1 := fmW_le o ⟨#[]⟩ [] [] [c, d] []
       simp only [List.length_nil, List.map_cons, List.map_nil, Sx.nodess] at h1 ⊢
       rcases hcd with ⟨rfl, rfl⟩ | ⟨rfl, rfl⟩ <;> omega
      split
      ·exact ⟨key _ _ _ (.inr ⟨rfl, rfl⟩), fun h => by simp at h⟩
      ·split
       ·exact ⟨key _ _ _ (.inr ⟨rfl, rfl⟩), fun h => by simp at h⟩
       ·exact ⟨key _ _ _ (.inl ⟨rfl, rfl⟩), fun h => by simp at h⟩
   | _ :: _ :: _ :: _, q => simp [exprs2] at q
 have q1 : ∀ w, (fmW (quantR w rest).1).nodes ≤ 3 * (2 + Sx.nodess rest) ∧ (((quantR w rest).2 == 0) = false → (quantR w rest).1 = zeroFm) := by
  intro w
  by_cases hl : rest.length = 2
  ·match rest, hl with
   | [p, y], _ =>
    unfold quantR
    dsimp only
    cases kindOf p == 3 with
    | false => exact z2 _
    | true =>
     cases (paramsP true (kidsOf p)).2 == 0 with
     | false => exact z2 _
     | true =>
      cases (fmP y).2 == 0 with
      | false => exact z2 _
      | true =>
       simp only [cond_true]
       have h1 := fmW_le w ⟨#[]⟩ [] (paramsP true (kidsOf p)).1 [] [(fmP y).1]
       have h2 := ih y (by simp)
       have h3 := paramsL_len true (kidsOf p).length (kidsOf p) (Nat.le_refl _) [] []
       have h4 := nodess_len (kidsOf p)
       have h5 : p.nodes = Sx.nodess (kidsOf p) + 1 := by cases p; simp only [Sx.nodes, kidsOf]
       unfold paramsP at h1 ⊢
       simp only [List.length_nil, List.map_cons, List.map_nil, Sx.nodess] at h1 h3 ⊢
       exact ⟨by omega, fun h => by simp at h⟩
  ·rw [quantR_len hl]; exact z2 _
 have t1 : ∀ op name, (fmW (termsR op name rest).1).nodes ≤ 3 * (2 + Sx.nodess rest) ∧ (((termsR op name rest).2 == 0) = false → (termsR op name rest).1 = zeroFm) := by
  intro op name
  unfold termsR
  cases (termsM rest).2 == 0 with
  | false => exact z2 _
  | true =>
   simp only [cond_true]
   have h1 := fmW_le op name (termsM rest).1 [] [] []
   have h2 := termsM_len rest
   have h3 := nodess_len rest
   simp only [List.length_nil, List.map_nil, Sx.nodess] at h1
   exact ⟨by omega, fun h => by simp at h⟩
 unfold topR
 split
 ·exact l1 _
 split
 ·exact l1 _
 split
 ·cases ((rest.length : Int) != 1) with
  | true => exact z2 _
  | false => exact l1 _
 split
 ·cases ((rest.length : Int) != 2) with
  | true => exact z2 _
  | false => exact l1 _
 split
 ·exact q1 _
 split
 ·exact q1 _
 split
 ·exact c1 _
 split
 ·exact c1 _
 split
 ·exact c1 _
 split
 ·exact c1 _
 split
 ·cases wordsB rest with
  | true => exact t1 _ _
  | false => exact c1 _
 cases nameB w with
 | true => exact t1 _ _
 | false => exact z2 _
theorem fmP_nodes : ∀ x : Sx, (fmW (fmP x).1).nodes ≤ 3 * x.nodes ∧ (((fmP x).2 == 0) = false → (fmP x).1 = zeroFm) := by
 refine Sx.ind ?_
 intro kind value line col text kids ih
 have h1 : 1 ≤ (Sx.mk kind value line col text kids).nodes := by simp only [Sx.nodes]; omega
 have hz : (fmW zeroFm).nodes ≤ 3 * (Sx.mk kind value line col text kids).nodes := by rw [zeroFm_nodes]; omega
 by_cases e3 : kind = 3
 ·cases kids with
  | nil =>
   unfold fmP
   rw [if_pos e3]
   have := fmW_le opAnd ⟨#[]⟩ [] [] [] []
   simp only [List.length_nil, List.map_nil, Sx.nodess] at this
   exact ⟨by simp only; omega, fun h => by simp at h⟩
  | cons y rest =>
   by_cases hy : kindOf y = 1
   ·rw [fmP_top e3 hy]
    have h2 := topR_nodes (textOf y) rest fun x hx => (ih x (by simp [hx])).1
    have hn : (Sx.mk kind value line col text (y :: rest)).nodes = y.nodes + Sx.nodess rest + 1 := by simp only [Sx.nodes, Sx.nodess]
    have h3 : 1 ≤ y.nodes := by cases y; simp only [Sx.nodes]; omega
    exact ⟨by omega, h2.2⟩
   ·unfold fmP
    rw [if_pos e3]
    dsimp only
    rw [show (kindOf y == 1) = false by simpa using hy]
    exact ⟨hz, fun _ => rfl⟩
 ·unfold fmP
  rw [if_neg e3]
  exact ⟨hz, fun _ => rfl⟩
theorem exprP_zero {x : Sx} (h : ((exprP x).2 == 0) = false) : (exprP x).1 = zeroEx := by
 obtain ⟨kind, value, line, col, text, kids⟩ := x
 by_cases n2 : kind = 2
 ·unfold exprP at h
  rw [if_pos n2] at h
  simp at h
 ·by_cases e3 : kind = 3
  ·cases kids with
   | nil => unfold exprP; rw [if_neg n2, if_pos e3]
   | cons y rest =>
    rw [exprP_hd n2 e3] at h ⊢
    cases q0 : kindOf y == 1 with
    | false => rfl
    | true =>
     rw [q0] at h
     simp only [cond_true] at h ⊢
     cases q1 : isPm (textOf y) with
     | true =>
      rw [q1] at h
      simp only [cond_true] at h ⊢
      cases q2 : (exprs2 rest).2 == 0 with
      | false => rfl
      | true => rw [q2] at h; simp at h
     | false =>
      rw [q1] at h
      simp only [cond_false] at h ⊢
      cases q2 : nameB (textOf y) with
      | false => rfl
      | true =>
       rw [q2] at h
       simp only [cond_true] at h ⊢
       cases q3 : (termsM rest).2 == 0 with
       | false => rfl
       | true => rw [q3] at h; simp at h
  ·unfold exprP
   rw [if_neg n2, if_neg e3]
end Go.Proofs.Ytjlkapgpjamnkaa
namespace Go.Proofs.Ytjlkapgpjamnkaa
open Go.AM
def opF (op name : ByteArray) (args : List ByteArray) (params : List Pm) (ne nk : Nat) : Bool :=
 if bEq op opAtom then nameB name && (args.all termB && ((((params.length : Int) + ne) + nk) == 0))
 else if bEq op opSame then bEq name ⟨#[]⟩ && (((args.length : Int) == 2) && (args.all termB && ((((params.length : Int) + ne) + nk) == 0)))
 else if (bEq op opLt || (bEq op opLe || bEq op opEq)) then bEq name ⟨#[]⟩ && (((((args.length : Int) + params.length) + nk) == 0) && ((ne : Int) == 2))
 else if (bEq op opAnd || bEq op opOr) then bEq name ⟨#[]⟩ && ((((args.length : Int) + params.length) + ne) == 0)
 else if bEq op opNot then bEq name ⟨#[]⟩ && (((((args.length : Int) + params.length) + ne) == 0) && ((nk : Int) == 1))
 else if bEq op opImp then bEq name ⟨#[]⟩ && (((((args.length : Int) + params.length) + ne) == 0) && ((nk : Int) == 2))
 else if (bEq op opAll || bEq op opSome) then bEq name ⟨#[]⟩ && ((((args.length : Int) + ne) == 0) && (((nk : Int) == 1) && params.all pmOk))
 else false
theorem partsOk_opF (op name : ByteArray) (args : List ByteArray) (params : List Pm) (ne nk : Nat) : partsOk op name args params ne nk = opF op name args params ne nk := by
 have ea : args.isEmpty = decide (args.length = 0) := by cases args <;> simp
 have ep : params.isEmpty = decide (params.length = 0) := by cases params <;> simp
 have ep2 : params.length = 0 → params.all pmOk = true := fun h => by rw [List.length_eq_zero_iff.1 h]; try rfl
 have en : emptyB name = bEq name ⟨#[]⟩ := rfl
 unfold partsOk shapeOf termsOk opF
 rw [ea, en, ep]
 generalize args.all termB = ta
 generalize params.all pmOk = pa at ep2
 generalize bEq name ⟨#[]⟩ = nm
 generalize nameB name = nn
 generalize args.length = la
 generalize params.length = lp at ep2
 cases k1 : bEq op opAtom
 ·cases k2 : bEq op opSame
  ·cases k3 : bEq op opLt
   ·cases k4 : bEq op opLe
    ·cases k5 : bEq op opEq
     ·cases k6 : bEq op opAnd
      ·cases k7 : bEq op opOr
       ·cases k8 : bEq op opNot
        ·cases k9 : bEq op opImp
         ·cases k10 : bEq op opAll
          ·cases k11 : bEq op opSome
           ·simp
           ·rw [Bool.eq_iff_iff]; simp; cases nm <;> cases pa <;> simp <;> omega
          ·rw [Bool.eq_iff_iff]; simp; cases nm <;> cases pa <;> simp <;> omega
         ·rw [Bool.eq_iff_iff]; simp; cases nm <;> cases pa <;> simp at ep2 ⊢ <;> omega
        ·rw [Bool.eq_iff_iff]; simp; cases nm <;> cases pa <;> simp at ep2 ⊢ <;> omega
       ·rw [Bool.eq_iff_iff]; simp; cases nm <;> cases pa <;> simp at ep2 ⊢ <;> omega
      ·rw [Bool.eq_iff_iff]; simp; cases nm <;> cases pa <;> simp at ep2 ⊢ <;> omega
     ·rw [Bool.eq_iff_iff]; simp; cases nm <;> cases pa <;> simp at ep2 ⊢ <;> omega
    ·rw [Bool.eq_iff_iff]; simp; cases nm <;> cases pa <;> simp at ep2 ⊢ <;> omega
   ·rw [Bool.eq_iff_iff]; simp; cases nm <;> cases pa <;> simp at ep2 ⊢ <;> omega
  ·rw [Bool.eq_iff_iff]; simp; cases nm <;> cases pa <;> cases ta <;> simp at ep2 ⊢ <;> omega
 ·rw [Bool.eq_iff_iff]; simp; cases nn <;> cases pa <;> cases ta <;> simp at ep2 ⊢ <;> omega
theorem shapedF_op {op name : ByteArray} {args : List ByteArray} {params : List Pm} {exprs : List Ex} {kids : List Fm} (hE : ∀ e ∈ exprs, shapedE e = true) (hK : ∀ k ∈ kids, shapedF k = true) :
  shapedF (.mk op name args params exprs kids) = opF op name args params exprs.length kids.length := by
 have h1 : exprs.all shapedE = true := List.all_eq_true.2 hE
 have h2 : shapedFs kids = true := shapedFs_iff.2 hK
 simp only [shapedF, h1, h2, Bool.and_true, partsOk_opF]
theorem shapedF_kid {op name : ByteArray} {args : List ByteArray} {params : List Pm} {exprs : List Ex} {kids : List Fm} (h : shapedF (.mk op name args params exprs kids) = true) : (∀ e ∈ exprs, shapedE e = true) ∧ ∀ k ∈ kids, shapedF k = true := by
 simp only [shapedF, Bool.and_eq_true] at h
 exact ⟨List.all_eq_true.1 h.1.2, shapedFs_iff.1 h.2⟩
end Go.Proofs.Ytjlkapgpjamnkaa
namespace Go.Proofs.Ytjlkapgpjamnkaa
open Go.AM
set_option maxHeartbeats 8000000
set_option maxRecDepth 20000
def pmR (v : Bool) (p : Pm) : Bool := (if v = true then varB p.name else nameB p.name) && typedB p.type
theorem pmR_ok : pmR true = pmOk := rfl
theorem a_genR {P : Program} {ow : Nat → Bool} {wf : FuncId → Bool} {n : Nat} {Q : Post} {s : Slots} {h : Heap} {c : Code} (I : Slots → Heap → Prop) (hi : I s h) (hh : ∀ s h, I s h → awp P ow wf n c Q s h) : awp P ow wf n c Q s h := hh _ _ hi
theorem rshapedPs_c {v : Bool} {l : List Pm} (hl : l.length ≤ bigN) (hp : ∀ p ∈ l, p.ok) (h : Heap) : PCall Try.prog 96 [.imm 2 (pmRows l), .sc (.bool v)] h fun r h' => r = .sc (.bool (l.all (pmR v))) ∧ h' = h := by
 unfold bigN at hl
 have hlen := pmRows_len l
 cases v with
 | true =>
  refine pcall_body (ow := fun _ => false) (wf := fun _ => false) Ty.mixed Try.func96 rfl Ty.hb_96 (by rw [Try.ntmps96]; simp) ?_
  rw [Try.ntmps96, Try.results96]
  repeat' (first | refine a_seq fun K hK => ?_ | (refine a_block ?_) | (refine a_regionS ?_; simp (maxSteps := 2000000) only [Ty.w, simprocAttr, hlen]) | (refine hK _ _ ?_; clear hK; try simp only [pst0, simprocAttr]))
  refine a_loop (fun m S h' => h' = h ∧ S 0 = .imm 2 (pmRows l) ∧ S 1 = .sc (.bool true) ∧ ∃ k : Nat, S 5 = .sc (.int .i64 k) ∧ k ≤ l.length ∧ m = l.length - k ∧ l.all (pmR true) = (l.drop k).all (pmR true)) l.length ?_ ?_
  ·simp only [Ty.w, simprocAttr]
   exact ⟨0, rfl, by omega, rfl, by simp⟩
  ·rintro m S h' ⟨rfl, g0, g1, k, g5, hk, rfl, hinv⟩
   by_cases hlt : k < l.length
   ·have hd : decide ((k : Int) < (l.length : Int)) = true := by simp; omega
    have w7 : IntKind.i64.wrap ((k : Int) + 1) = k + 1 := by rw [wrap64 (by omega) (by omega)]
    obtain ⟨p, hx⟩ : ∃ p, l[k]? = some p := ⟨l[k], List.getElem?_eq_getElem hlt⟩
    have hr := pmRows_get hx
    have hpo := hp p (List.mem_of_getElem? hx)
    have h1 : p.name.size ≤ 9223372036854775807 := by have := hpo.1; unfold bigN at this; omega
    have h2 : p.type.size ≤ 9223372036854775807 := by have := hpo.2; unfold bigN at this; omega
    have hc := fun h : Heap => rvariable_c (h := h) (s := p.name) h1
    have hc2 := fun h : Heap => rname_c (h := h) (s := p.type) h2
    rw [drop_of_get hx, List.all_cons] at hinv
    have hq : pmR true p = (varB p.name && (nameB p.type || (p.type.data.toList == (#[111, 98, 106, 101, 99, 116] : Array UInt8).toList))) := rfl
    rw [hq] at hinv
    clear hq
    generalize varB p.name = b at hc hinv
    generalize nameB p.type = b2 at hc2 hinv
    cases b with
    | false =>
     simp only [Bool.false_and] at hinv
     repeat' (first | refine a_seq fun K hK => ?_ | (refine a_regionS ?_; simp (maxSteps := 2000000) only [Ty.w, simprocAttr, g0, g1, g5, hd, hr, bne, Bool.not_true, Bool.not_false]) | (refine a_skip ?_; try simp only [pst0, simprocAttr]) | (refine a_cond _ (by (try simp (maxSteps := 2000000) only [Ty.w, simprocAttr, g0, g1, g5, hd, hr, bne, Bool.not_true, Bool.not_false]); rfl) (fun hb => ?_) (fun hb => ?_) <;> (try simp only [hb0, decide_eq_true_eq, decide_eq_false_iff_not, simprocAttr] at hb) <;> (try (exfalso; omega))) | (refine hK _ _ ?_; clear hK; try simp only [pst0, simprocAttr]))
     refine owp_useQ (hc _) (by (try simp only [Ty.w, simprocAttr, g0, g1, g5, hd, hr, bne, Bool.not_true, Bool.not_false]); try rfl) ?_; simp (maxSteps := 2000000) only [Ty.w, simprocAttr, g0, g1, g5, hd, hr, bne, Bool.not_true, Bool.not_false]
     repeat' (first | refine a_seq fun K hK => ?_ | ((first | refine a_regionS ?_ | refine a_ret ?_); simp (maxSteps := 2000000) only [Ty.w, simprocAttr, g0, g1, g5, hd, hr, bne, Bool.not_true, Bool.not_false]) | (refine hK _ _ ?_; clear hK; try simp only [pst0, simprocAttr]))
     rw [hinv]
    | true =>
     cases q : (p.type.data.toList == (#[111, 98, 106, 101, 99, 116] : Array UInt8).toList) with
     | true =>
      simp only [q, Bool.or_true, Bool.true_and] at hinv
      repeat' (first | refine a_seq fun K hK => ?_ | (refine a_regionS ?_; simp (maxSteps := 2000000) only [Ty.w, simprocAttr, g0, g1, g5, hd, hr, bne, Bool.not_true, Bool.not_false, q]) | (refine a_skip ?_; try simp only [pst0, simprocAttr]) | (refine a_cond _ (by (try simp (maxSteps := 2000000) only [Ty.w, simprocAttr, g0, g1, g5, hd, hr, bne, Bool.not_true, Bool.not_false, q]); rfl) (fun hb => ?_) (fun hb => ?_) <;> (try simp only [hb0, decide_eq_true_eq, decide_eq_false_iff_not, simprocAttr] at hb) <;> (try (exfalso; omega))) | (refine hK _ _ ?_; clear hK; try simp only [pst0, simprocAttr]))
      refine owp_useQ (hc _) (by (try simp only [Ty.w, simprocAttr, g0, g1, g5, hd, hr, bne, Bool.not_true, Bool.not_false, q]); try rfl) ?_; simp (maxSteps := 2000000) only [Ty.w, simprocAttr, g0, g1, g5, hd, hr, bne, Bool.not_true, Bool.not_false, q]
      repeat' (first | (refine a_block ?_) | (refine a_regionS ?_; simp (maxSteps := 2000000) only [Ty.w, simprocAttr, g0, g1, g5, hd, hr, bne, Bool.not_true, Bool.not_false, q, w7]) | (refine a_skip ?_; try simp only [pst0, simprocAttr]) | (refine hK _ _ ?_; clear hK; try simp only [pst0, simprocAttr]))
      exact ⟨l.length - (k + 1), by omega, k + 1, by simp, by omega, rfl, hinv⟩
     | false =>
      cases b2 with
      | false =>
       simp only [q, Bool.or_false, Bool.false_and, Bool.and_false] at hinv
       have W := And.intro g0 (And.intro g1 (And.intro g5 (And.intro hd (And.intro hr q))))
       repeat' (first | refine a_seq fun K hK => ?_ | (refine a_regionS ?_; simp (maxSteps := 2000000) only [Ty.w, simprocAttr, W, bne, Bool.not_true, Bool.not_false]) | (refine a_skip ?_; try simp only [pst0, simprocAttr]) | (refine a_cond _ (by (try simp (maxSteps := 2000000) only [Ty.w, simprocAttr, W, bne, Bool.not_true, Bool.not_false]); rfl) (fun hb => ?_) (fun hb => ?_) <;> (try simp only [hb0, decide_eq_true_eq, decide_eq_false_iff_not, simprocAttr] at hb) <;> (try (exfalso; omega))) | (refine hK _ _ ?_; clear hK; try simp only [pst0, simprocAttr]))
       refine owp_useQ (hc _) (by (try simp only [Ty.w, simprocAttr, W, bne, Bool.not_true, Bool.not_false]); try rfl) ?_; simp (maxSteps := 2000000) only [Ty.w, simprocAttr, W, bne, Bool.not_true, Bool.not_false]
       skip
       refine owp_useQ (hc2 _) (by (try simp only [Ty.w, simprocAttr, W, bne, Bool.not_true, Bool.not_false]); try rfl) ?_; simp (maxSteps := 2000000) only [Ty.w, simprocAttr, W, bne, Bool.not_true, Bool.not_false]
       repeat' (first | refine a_seq fun K hK => ?_ | ((first | refine a_regionS ?_ | refine a_ret ?_); simp (maxSteps := 2000000) only [Ty.w, simprocAttr, W, bne, Bool.not_true, Bool.not_false]) | (refine hK _ _ ?_; clear hK; try simp only [pst0, simprocAttr]))
       rw [hinv]
      | true =>
       simp only [q, Bool.or_false, Bool.true_and] at hinv
       have W := And.intro g0 (And.intro g1 (And.intro g5 (And.intro hd (And.intro hr q))))
       repeat' (first | refine a_seq fun K hK => ?_ | (refine a_regionS ?_; simp (maxSteps := 2000000) only [Ty.w, simprocAttr, W, bne, Bool.not_true, Bool.not_false]) | (refine a_skip ?_; try simp only [pst0, simprocAttr]) | (refine a_cond _ (by (try simp (maxSteps := 2000000) only [Ty.w, simprocAttr, W, bne, Bool.not_true, Bool.not_false]); rfl) (fun hb => ?_) (fun hb => ?_) <;> (try simp only [hb0, decide_eq_true_eq, decide_eq_false_iff_not, simprocAttr] at hb) <;> (try (exfalso; omega))) | (refine hK _ _ ?_; clear hK; try simp only [pst0, simprocAttr]))
       refine owp_useQ (hc _) (by (try simp only [Ty.w, simprocAttr, W, bne, Bool.not_true, Bool.not_false]); try rfl) ?_; simp (maxSteps := 2000000) only [Ty.w, simprocAttr, W, bne, Bool.not_true, Bool.not_false]
       skip
       refine owp_useQ (hc2 _) (by (try simp only [Ty.w, simprocAttr, W, bne, Bool.not_true, Bool.not_false]); try rfl) ?_; simp (maxSteps := 2000000) only [Ty.w, simprocAttr, W, bne, Bool.not_true, Bool.not_false]
       repeat' (first | (refine a_block ?_) | (refine a_regionS ?_; simp (maxSteps := 2000000) only [Ty.w, simprocAttr, W, bne, Bool.not_true, Bool.not_false, w7]) | (refine a_skip ?_; try simp only [pst0, simprocAttr]) | (refine hK _ _ ?_; clear hK; try simp only [pst0, simprocAttr]))
       exact ⟨l.length - (k + 1), by omega, k + 1, by simp, by omega, rfl, hinv⟩
   ·have hd : decide ((k : Int) < (l.length : Int)) = false := by simp; omega
    rw [List.drop_eq_nil_of_le (by omega)] at hinv
    repeat' (first | refine a_seq fun K hK => ?_ | ((first | refine a_regionS ?_ | refine a_ret ?_); simp (maxSteps := 2000000) only [Ty.w, simprocAttr, g0, g1, g5, hlen, hd]) | (refine a_exit ?_; try simp only [pst0, simprocAttr]) | (refine a_cond _ (by (try simp (maxSteps := 2000000) only [Ty.w, simprocAttr, g0, g1, g5, hlen, hd]); rfl) (fun hb => ?_) (fun hb => ?_) <;> (try simp only [hb0, decide_eq_true_eq, decide_eq_false_iff_not, simprocAttr] at hb) <;> (try (exfalso; omega))) | ((first | refine hK _ _ ?_ | (clear hK; refine hK _ _ ?_)); clear hK; try simp only [pst0, simprocAttr]))
    rw [hinv]; try rfl
 | false =>
  refine pcall_body (ow := fun _ => false) (wf := fun _ => false) Ty.mixed Try.func96 rfl Ty.hb_96 (by rw [Try.ntmps96]; simp) ?_
  rw [Try.ntmps96, Try.results96]
  repeat' (first | refine a_seq fun K hK => ?_ | (refine a_block ?_) | (refine a_regionS ?_; simp (maxSteps := 2000000) only [Ty.w, simprocAttr, hlen]) | (refine hK _ _ ?_; clear hK; try simp only [pst0, simprocAttr]))
  refine a_loop (fun m S h' => h' = h ∧ S 0 = .imm 2 (pmRows l) ∧ S 1 = .sc (.bool false) ∧ ∃ k : Nat, S 5 = .sc (.int .i64 k) ∧ k ≤ l.length ∧ m = l.length - k ∧ l.all (pmR false) = (l.drop k).all (pmR false)) l.length ?_ ?_
  ·simp only [Ty.w, simprocAttr]
   exact ⟨0, rfl, by omega, rfl, by simp⟩
  ·rintro m S h' ⟨rfl, g0, g1, k, g5, hk, rfl, hinv⟩
   by_cases hlt : k < l.length
   ·have hd : decide ((k : Int) < (l.length : Int)) = true := by simp; omega
    have w7 : IntKind.i64.wrap ((k : Int) + 1) = k + 1 := by rw [wrap64 (by omega) (by omega)]
    obtain ⟨p, hx⟩ : ∃ p, l[k]? = some p := ⟨l[k], List.getElem?_eq_getElem hlt⟩
    have hr := pmRows_get hx
    have hpo := hp p (List.mem_of_getElem? hx)
    have h1 : p.name.size ≤ 9223372036854775807 := by have := hpo.1; unfold bigN at this; omega
    have h2 : p.type.size ≤ 9223372036854775807 := by have := hpo.2; unfold bigN at this; omega
    have hc := fun h : Heap => rname_c (h := h) (s := p.name) h1
    have hc2 := fun h : Heap => rname_c (h := h) (s := p.type) h2
    rw [drop_of_get hx, List.all_cons] at hinv
    have hq : pmR false p = (nameB p.name && (nameB p.type || (p.type.data.toList == (#[111, 98, 106, 101, 99, 116] : Array UInt8).toList))) := rfl
    rw [hq] at hinv
    clear hq
    generalize nameB p.name = b at hc hinv
    generalize nameB p.type = b2 at hc2 hinv
    cases b with
    | false =>
     simp only [Bool.false_and] at hinv
     repeat' (first | refine a_seq fun K hK => ?_ | (refine a_regionS ?_; simp (maxSteps := 2000000) only [Ty.w, simprocAttr, g0, g1, g5, hd, hr, bne, Bool.not_true, Bool.not_false]) | (refine a_skip ?_; try simp only [pst0, simprocAttr]) | (refine a_cond _ (by (try simp (maxSteps := 2000000) only [Ty.w, simprocAttr, g0, g1, g5, hd, hr, bne, Bool.not_true, Bool.not_false]); rfl) (fun hb => ?_) (fun hb => ?_) <;> (try simp only [hb0, decide_eq_true_eq, decide_eq_false_iff_not, simprocAttr] at hb) <;> (try (exfalso; omega))) | (refine hK _ _ ?_; clear hK; try simp only [pst0, simprocAttr]))
     refine owp_useQ (hc _) (by (try simp only [Ty.w, simprocAttr, g0, g1, g5, hd, hr, bne, Bool.not_true, Bool.not_false]); try rfl) ?_; simp (maxSteps := 2000000) only [Ty.w, simprocAttr, g0, g1, g5, hd, hr, bne, Bool.not_true, Bool.not_false]
     repeat' (first | refine a_seq fun K hK => ?_ | ((first | refine a_regionS ?_ | refine a_ret ?_); simp (maxSteps := 2000000) only [Ty.w, simprocAttr, g0, g1, g5, hd, hr, bne, Bool.not_true, Bool.not_false]) | (refine hK _ _ ?_; clear hK; try simp only [pst0, simprocAttr]))
     rw [hinv]
    | true =>
     cases q : (p.type.data.toList == (#[111, 98, 106, 101, 99, 116] : Array UInt8).toList) with
     | true =>
      simp only [q, Bool.or_true, Bool.true_and] at hinv
      repeat' (first | refine a_seq fun K hK => ?_ | (refine a_regionS ?_; simp (maxSteps := 2000000) only [Ty.w, simprocAttr, g0, g1, g5, hd, hr, bne, Bool.not_true, Bool.not_false, q]) | (refine a_skip ?_; try simp only [pst0, simprocAttr]) | (refine a_cond _ (by (try simp (maxSteps := 2000000) only [Ty.w, simprocAttr, g0, g1, g5, hd, hr, bne, Bool.not_true, Bool.not_false, q]); rfl) (fun hb => ?_) (fun hb => ?_) <;> (try simp only [hb0, decide_eq_true_eq, decide_eq_false_iff_not, simprocAttr] at hb) <;> (try (exfalso; omega))) | (refine hK _ _ ?_; clear hK; try simp only [pst0, simprocAttr]))
      refine owp_useQ (hc _) (by (try simp only [Ty.w, simprocAttr, g0, g1, g5, hd, hr, bne, Bool.not_true, Bool.not_false, q]); try rfl) ?_; simp (maxSteps := 2000000) only [Ty.w, simprocAttr, g0, g1, g5, hd, hr, bne, Bool.not_true, Bool.not_false, q]
      repeat' (first | (refine a_block ?_) | (refine a_regionS ?_; simp (maxSteps := 2000000) only [Ty.w, simprocAttr, g0, g1, g5, hd, hr, bne, Bool.not_true, Bool.not_false, q, w7]) | (refine a_skip ?_; try simp only [pst0, simprocAttr]) | (refine hK _ _ ?_; clear hK; try simp only [pst0, simprocAttr]))
      exact ⟨l.length - (k + 1), by omega, k + 1, by simp, by omega, rfl, hinv⟩
     | false =>
      cases b2 with
      | false =>
       simp only [q, Bool.or_false, Bool.false_and, Bool.and_false] at hinv
       have W := And.intro g0 (And.intro g1 (And.intro g5 (And.intro hd (And.intro hr q))))
       repeat' (first | refine a_seq fun K hK => ?_ | (refine a_regionS ?_; simp (maxSteps := 2000000) only [Ty.w, simprocAttr, W, bne, Bool.not_true, Bool.not_false]) | (refine a_skip ?_; try simp only [pst0, simprocAttr]) | (refine a_cond _ (by (try simp (maxSteps := 2000000) only [Ty.w, simprocAttr, W, bne, Bool.not_true, Bool.not_false]); rfl) (fun hb => ?_) (fun hb => ?_) <;> (try simp only [hb0, decide_eq_true_eq, decide_eq_false_iff_not, simprocAttr] at hb) <;> (try (exfalso; omega))) | (refine hK _ _ ?_; clear hK; try simp only [pst0, simprocAttr]))
       refine owp_useQ (hc _) (by (try simp only [Ty.w, simprocAttr, W, bne, Bool.not_true, Bool.not_false]); try rfl) ?_; simp (maxSteps := 2000000) only [Ty.w, simprocAttr, W, bne, Bool.not_true, Bool.not_false]
       skip
       refine owp_useQ (hc2 _) (by (try simp only [Ty.w, simprocAttr, W, bne, Bool.not_true, Bool.not_false]); try rfl) ?_; simp (maxSteps := 2000000) only [Ty.w, simprocAttr, W, bne, Bool.not_true, Bool.not_false]
       repeat' (first | refine a_seq fun K hK => ?_ | ((first | refine a_regionS ?_ | refine a_ret ?_); simp (maxSteps := 2000000) only [Ty.w, simprocAttr, W, bne, Bool.not_true, Bool.not_false]) | (refine hK _ _ ?_; clear hK; try simp only [pst0, simprocAttr]))
       rw [hinv]
      | true =>
       simp only [q, Bool.or_false, Bool.true_and] at hinv
       have W := And.intro g0 (And.intro g1 (And.intro g5 (And.intro hd (And.intro hr q))))
       repeat' (first | refine a_seq fun K hK => ?_ | (refine a_regionS ?_; simp (maxSteps := 2000000) only [Ty.w, simprocAttr, W, bne, Bool.not_true, Bool.not_false]) | (refine a_skip ?_; try simp only [pst0, simprocAttr]) | (refine a_cond _ (by (try simp (maxSteps := 2000000) only [Ty.w, simprocAttr, W, bne, Bool.not_true, Bool.not_false]); rfl) (fun hb => ?_) (fun hb => ?_) <;> (try simp only [hb0, decide_eq_true_eq, decide_eq_false_iff_not, simprocAttr] at hb) <;> (try (exfalso; omega))) | (refine hK _ _ ?_; clear hK; try simp only [pst0, simprocAttr]))
       refine owp_useQ (hc _) (by (try simp only [Ty.w, simprocAttr, W, bne, Bool.not_true, Bool.not_false]); try rfl) ?_; simp (maxSteps := 2000000) only [Ty.w, simprocAttr, W, bne, Bool.not_true, Bool.not_false]
       skip
       refine owp_useQ (hc2 _) (by (try simp only [Ty.w, simprocAttr, W, bne, Bool.not_true, Bool.not_false]); try rfl) ?_; simp (maxSteps := 2000000) only [Ty.w, simprocAttr, W, bne, Bool.not_true, Bool.not_false]
       repeat' (first | (refine a_block ?_) | (refine a_regionS ?_; simp (maxSteps := 2000000) only [Ty.w, simprocAttr, W, bne, Bool.not_true, Bool.not_false, w7]) | (refine a_skip ?_; try simp only [pst0, simprocAttr]) | (refine hK _ _ ?_; clear hK; try simp only [pst0, simprocAttr]))
       exact ⟨l.length - (k + 1), by omega, k + 1, by simp, by omega, rfl, hinv⟩
   ·have hd : decide ((k : Int) < (l.length : Int)) = false := by simp; omega
    rw [List.drop_eq_nil_of_le (by omega)] at hinv
    repeat' (first | refine a_seq fun K hK => ?_ | ((first | refine a_regionS ?_ | refine a_ret ?_); simp (maxSteps := 2000000) only [Ty.w, simprocAttr, g0, g1, g5, hlen, hd]) | (refine a_exit ?_; try simp only [pst0, simprocAttr]) | (refine a_cond _ (by (try simp (maxSteps := 2000000) only [Ty.w, simprocAttr, g0, g1, g5, hlen, hd]); rfl) (fun hb => ?_) (fun hb => ?_) <;> (try simp only [hb0, decide_eq_true_eq, decide_eq_false_iff_not, simprocAttr] at hb) <;> (try (exfalso; omega))) | ((first | refine hK _ _ ?_ | (clear hK; refine hK _ _ ?_)); clear hK; try simp only [pst0, simprocAttr]))
    rw [hinv]; try rfl
theorem rshapedF_c : ∀ f : Fm, f.ok → ∀ h : Heap, PCall Try.prog 57 [.agg f.cells] h fun r h' => r = .sc (.bool (shapedF f)) ∧ h' = h := by
 refine Fm.ind ?_
 intro op name args params exprs kids ih hok h
 simp only [Fm.ok] at hok
 obtain ⟨_, hnm, ⟨hal, hargs⟩, ⟨hpl, hps⟩, ⟨hel, hes⟩, hkl, hks⟩ := hok
 rw [Ex.oks_iff] at hes
 rw [Fm.oks_iff] at hks
 have hnm' : name.size ≤ 9223372036854775807 := by unfold bigN at hnm; omega
 have hP := fun h : Heap => rshapedPs_c (v := true) hpl hps h
 rw [pmR_ok] at hP
 have hA := fun h : Heap => rall_c (h := h) hal hargs
 have hN := fun h : Heap => rname_c (h := h) (s := name) hnm'
 unfold bigN at hal hpl hel hkl
 have hlA := strRows_len args
 have hlP := pmRows_len params
 have hlE := Ex.rows_len exprs
 have hlK := Fm.rows_len kids
 have hbK : ∀ k ∈ kids, shapedF k = false → shapedF (.mk op name args params exprs kids) = false := fun k hk hf => by
  cases hh : shapedF (.mk op name args params exprs kids) with
  | false => rfl
  | true => rw [(shapedF_kid hh).2 k hk] at hf; simp at hf
 have hbE : ∀ e ∈ exprs, shapedE e = false → shapedF (.mk op name args params exprs kids) = false := fun k hk hf => by
  cases hh : shapedF (.mk op name args params exprs kids) with
  | false => rfl
  | true => rw [(shapedF_kid hh).1 k hk] at hf; simp at hf
 have hop : (∀ e ∈ exprs, shapedE e = true) → (∀ k ∈ kids, shapedF k = true) → shapedF (.mk op name args params exprs kids) = opF op name args params exprs.length kids.length := shapedF_op
 generalize shapedF (.mk op name args params exprs kids) = F at hbK hbE hop
 simp only [Fm.cells]
 refine pcall_body (ow := fun _ => false) (wf := fun _ => false) Ty.mixed Try.func57 rfl Ty.hb_57 (by rw [Try.ntmps57]; simp) ?_
 rw [Try.ntmps57, Try.results57]
 repeat' (first | refine a_seq fun K hK => ?_ | (refine a_block ?_) | (refine a_regionS ?_; simp (maxSteps := 2000000) only [Ty.w, simprocAttr, hlK]) | (refine hK _ _ ?_; clear hK; try simp only [pst0, simprocAttr]))
 refine a_loop (fun m S h' => h' = h ∧ S 1 = .cptr (Fm.mk op name args params exprs kids).cells ∧ ∃ k : Nat, S 3 = .sc (.int .i64 k) ∧ k ≤ kids.length ∧ m = kids.length - k ∧ ∀ (i : Nat) (e : Fm), i < k → kids[i]? = some e → shapedF e = true) kids.length ?_ ?_
 ·simp only [Ty.w, simprocAttr]
  exact ⟨rfl, 0, rfl, by omega, rfl, by omega⟩
 ·rintro m S h' ⟨rfl, g1, k, g3, hkk, rfl, hall⟩
  simp only [Fm.cells] at g1
  by_cases hlt : k < kids.length
  ·clear hop hbE
   have hd : decide ((k : Int) < (kids.length : Int)) = true := by simp; omega
   have w7 : IntKind.i64.wrap ((k : Int) + 1) = k + 1 := by rw [wrap64 (by omega) (by omega)]
   obtain ⟨e, hx⟩ : ∃ e, kids[k]? = some e := ⟨_, List.getElem?_eq_getElem hlt⟩
   have hmem := List.mem_of_getElem? hx
   have hc := ih e hmem (hks e hmem)
   have hr := Fm.rows_get hx
   have hbad := hbK e hmem
   have hgood : shapedF e = true → ∀ (i : Nat) (e : Fm), i < k + 1 → kids[i]? = some e → shapedF e = true := fun h1 i e2 hi hw => by
    by_cases hik : i = k
    ·subst hik; rw [hx] at hw; simp at hw; rw [← hw]; exact h1
    ·exact hall i e2 (by omega) hw
   generalize shapedF e = b at hc hbad hgood
   clear hbK hall
   obtain ⟨o2, n2, a2, p2, e2, k2⟩ := e
   simp only [Fm.cells] at hr hc
   cases b with
   | false =>
    have := hbad rfl
    subst this
    repeat' (first | refine a_seq fun K hK => ?_ | (refine a_regionS ?_; simp (maxSteps := 2000000) only [Ty.w, simprocAttr, g1, g3, hlK, hd, hr, w7]) | (refine a_skip ?_; try simp only [pst0, simprocAttr]) | (refine a_cond _ (by (try simp (maxSteps := 2000000) only [Ty.w, simprocAttr, g1, g3, hlK, hd, hr, w7]); rfl) (fun hb => ?_) (fun hb => ?_) <;> (try simp only [hb0, decide_eq_true_eq, decide_eq_false_iff_not, simprocAttr] at hb) <;> (try (exfalso; omega))) | (refine hK _ _ ?_; clear hK; try simp only [pst0, simprocAttr]))
    refine owp_useQ (hc _) (by (try simp only [Ty.w, simprocAttr, g1, g3, hlK, hd, hr, Bool.not_false]); try rfl) ?_; simp (maxSteps := 2000000) only [Ty.w, simprocAttr, g1, g3, hlK, hd, hr, Bool.not_false]
    repeat' (first | refine a_seq fun K hK => ?_ | ((first | refine a_regionS ?_ | refine a_ret ?_); simp (maxSteps := 2000000) only [Ty.w, simprocAttr, g1, g3, w7, Bool.not_false]) | (refine hK _ _ ?_; clear hK; try simp only [pst0, simprocAttr]))
   | true =>
    repeat' (first | refine a_seq fun K hK => ?_ | (refine a_regionS ?_; simp (maxSteps := 2000000) only [Ty.w, simprocAttr, g1, g3, hlK, hd, hr, w7]) | (refine a_skip ?_; try simp only [pst0, simprocAttr]) | (refine a_cond _ (by (try simp (maxSteps := 2000000) only [Ty.w, simprocAttr, g1, g3, hlK, hd, hr, w7]); rfl) (fun hb => ?_) (fun hb => ?_) <;> (try simp only [hb0, decide_eq_true_eq, decide_eq_false_iff_not, simprocAttr] at hb) <;> (try (exfalso; omega))) | (refine hK _ _ ?_; clear hK; try simp only [pst0, simprocAttr]))
    refine owp_useQ (hc _) (by (try simp only [Ty.w, simprocAttr, g1, g3, hlK, hd, hr, Bool.not_true]); try rfl) ?_; simp (maxSteps := 2000000) only [Ty.w, simprocAttr, g1, g3, hlK, hd, hr, Bool.not_true]
    repeat' (first | (refine a_block ?_) | (refine a_regionS ?_; simp (maxSteps := 2000000) only [Ty.w, simprocAttr, g1, g3, w7, Bool.not_true]) | (refine a_skip ?_; try simp only [pst0, simprocAttr]) | (refine hK _ _ ?_; clear hK; try simp only [pst0, simprocAttr]))
    exact ⟨kids.length - (k + 1), by omega, rfl, k + 1, by simp, by omega, rfl, hgood rfl⟩
  ·have hd : decide ((k : Int) < (kids.length : Int)) = false := by simp; omega
   have hop2 := fun hE => hop hE fun e he => by
    obtain ⟨i, hi⟩ := List.getElem?_of_mem he
    exact hall i e (by have := (List.getElem?_eq_some_iff.1 hi).1; omega) hi
   clear hop hall hbK ih
   repeat' (first | refine a_seq fun K hK => ?_ | (refine a_block ?_) | (refine a_regionS ?_; simp (maxSteps := 2000000) only [Ty.w, simprocAttr, g1, g3, hlK, hd]) | (refine a_exit ?_; try simp only [pst0, simprocAttr]) | (refine a_cond _ (by (try simp (maxSteps := 2000000) only [Ty.w, simprocAttr, g1, g3, hlK, hd]); rfl) (fun hb => ?_) (fun hb => ?_) <;> (try simp only [hb0, decide_eq_true_eq, decide_eq_false_iff_not, simprocAttr] at hb) <;> (try (exfalso; omega))) | ((first | refine hK _ _ ?_ | (clear hK; refine hK _ _ ?_)); clear hK; try simp only [pst0, simprocAttr]))
   clear g3 hd
   refine a_loop (fun m S h2 => h2 = h' ∧ S 1 = .cptr (Fm.mk op name args params exprs kids).cells ∧ ∃ k : Nat, S 4 = .sc (.int .i64 k) ∧ k ≤ exprs.length ∧ m = exprs.length - k ∧ ∀ (i : Nat) (e : Ex), i < k → exprs[i]? = some e → shapedE e = true) exprs.length ?_ ?_
   ·simp only [Ty.w, simprocAttr, g1]
    exact ⟨rfl, 0, rfl, by omega, rfl, by omega⟩
   ·clear g1 S
    rintro m S h2 ⟨rfl, g1, k, g3, hkk, rfl, hall⟩
    simp only [Fm.cells] at g1
    by_cases hlt : k < exprs.length
    ·clear hop2
     have hd : decide ((k : Int) < (exprs.length : Int)) = true := by simp; omega
     have w7 : IntKind.i64.wrap ((k : Int) + 1) = k + 1 := by rw [wrap64 (by omega) (by omega)]
     obtain ⟨e, hx⟩ : ∃ e, exprs[k]? = some e := ⟨_, List.getElem?_eq_getElem hlt⟩
     have hmem := List.mem_of_getElem? hx
     have hc := rshapedE_c e (hes e hmem)
     have hr := Ex.rows_get hx
     have hbad := hbE e hmem
     have hgood : shapedE e = true → ∀ (i : Nat) (e : Ex), i < k + 1 → exprs[i]? = some e → shapedE e = true := fun h1 i e2 hi hw => by
      by_cases hik : i = k
      ·subst hik; rw [hx] at hw; simp at hw; rw [← hw]; exact h1
      ·exact hall i e2 (by omega) hw
     generalize shapedE e = b at hc hbad hgood
     clear hbE hall
     obtain ⟨o2, n2, v2, a2, k2⟩ := e
     simp only [Ex.cells] at hr hc
     cases b with
     | false =>
      have := hbad rfl
      subst this
      repeat' (first | refine a_seq fun K hK => ?_ | (refine a_regionS ?_; simp (maxSteps := 2000000) only [Ty.w, simprocAttr, g1, g3, hlE, hd, hr, w7]) | (refine a_skip ?_; try simp only [pst0, simprocAttr]) | (refine a_cond _ (by (try simp (maxSteps := 2000000) only [Ty.w, simprocAttr, g1, g3, hlE, hd, hr, w7]); rfl) (fun hb => ?_) (fun hb => ?_) <;> (try simp only [hb0, decide_eq_true_eq, decide_eq_false_iff_not, simprocAttr] at hb) <;> (try (exfalso; omega))) | (refine hK _ _ ?_; clear hK; try simp only [pst0, simprocAttr]))
      refine owp_useQ (hc _) (by (try simp only [Ty.w, simprocAttr, g1, g3, hlE, hd, hr, Bool.not_false]); try rfl) ?_; simp (maxSteps := 2000000) only [Ty.w, simprocAttr, g1, g3, hlE, hd, hr, Bool.not_false]
      repeat' (first | refine a_seq fun K hK => ?_ | ((first | refine a_regionS ?_ | refine a_ret ?_); simp (maxSteps := 2000000) only [Ty.w, simprocAttr, g1, g3, w7, Bool.not_false]) | (refine hK _ _ ?_; clear hK; try simp only [pst0, simprocAttr]))
     | true =>
      repeat' (first | refine a_seq fun K hK => ?_ | (refine a_regionS ?_; simp (maxSteps := 2000000) only [Ty.w, simprocAttr, g1, g3, hlE, hd, hr, w7]) | (refine a_skip ?_; try simp only [pst0, simprocAttr]) | (refine a_cond _ (by (try simp (maxSteps := 2000000) only [Ty.w, simprocAttr, g1, g3, hlE, hd, hr, w7]); rfl) (fun hb => ?_) (fun hb => ?_) <;> (try simp only [hb0, decide_eq_true_eq, decide_eq_false_iff_not, simprocAttr] at hb) <;> (try (exfalso; omega))) | (refine hK _ _ ?_; clear hK; try simp only [pst0, simprocAttr]))
      refine owp_useQ (hc _) (by (try simp only [Ty.w, simprocAttr, g1, g3, hlE, hd, hr, Bool.not_true]); try rfl) ?_; simp (maxSteps := 2000000) only [Ty.w, simprocAttr, g1, g3, hlE, hd, hr, Bool.not_true]
      repeat' (first | (refine a_block ?_) | (refine a_regionS ?_; simp (maxSteps := 2000000) only [Ty.w, simprocAttr, g1, g3, w7, Bool.not_true]) | (refine a_skip ?_; try simp only [pst0, simprocAttr]) | (refine hK _ _ ?_; clear hK; try simp only [pst0, simprocAttr]))
      exact ⟨exprs.length - (k + 1), by omega, rfl, k + 1, by simp, by omega, rfl, hgood rfl⟩
    ·have hd : decide ((k : Int) < (exprs.length : Int)) = false := by simp; omega
     have hF := hop2 fun e he => by
      obtain ⟨i, hi⟩ := List.getElem?_of_mem he
      exact hall i e (by have := (List.getElem?_eq_some_iff.1 hi).1; omega) hi
     clear hop2 hall hbE
     have wa : IntKind.i64.wrap ((params.length : Int) + exprs.length) = (params.length : Int) + exprs.length := by rw [wrap64 (by omega) (by omega)]
     have wb : IntKind.i64.wrap (((params.length : Int) + exprs.length) + kids.length) = ((params.length : Int) + exprs.length) + kids.length := by rw [wrap64 (by omega) (by omega)]
     have wc : IntKind.i64.wrap ((args.length : Int) + params.length) = (args.length : Int) + params.length := by rw [wrap64 (by omega) (by omega)]
     have wd : IntKind.i64.wrap (((args.length : Int) + params.length) + kids.length) = ((args.length : Int) + params.length) + kids.length := by rw [wrap64 (by omega) (by omega)]
     have we : IntKind.i64.wrap (((args.length : Int) + params.length) + exprs.length) = ((args.length : Int) + params.length) + exprs.length := by rw [wrap64 (by omega) (by omega)]
     have wf : IntKind.i64.wrap ((args.length : Int) + exprs.length) = (args.length : Int) + exprs.length := by rw [wrap64 (by omega) (by omega)]
     unfold opF at hF
     simp only [opAtom, opSame, opLt, opLe, opEq, opAnd, opOr, opNot, opImp, opAll, opSome, bEq] at hF
     repeat' (first | (with_reducible refine a_hold 12 ?_) | (first | refine a_seq fun K hK => ?_ | ((first | refine a_regionS ?_ | refine a_drawS (by decide +kernel) ?_); simp (maxSteps := 2000000) only [Ty.w, simprocAttr, g1, g3, hd, hlA, hlP, hlE, hlK, bne]) | (refine a_exit ?_; try simp only [pst0, simprocAttr]) | (refine a_cond _ (by (try simp (maxSteps := 2000000) only [Ty.w, simprocAttr, g1, g3, hd, hlA, hlP, hlE, hlK, bne]); rfl) (fun hb => ?_) (fun hb => ?_) <;> (try simp only [hb0, decide_eq_true_eq, decide_eq_false_iff_not, simprocAttr] at hb) <;> (try (exfalso; omega))) | ((first | refine hK _ _ ?_ | (clear hK; refine hK _ _ ?_)); clear hK; try simp only [pst0, simprocAttr])))
     refine ⟨?_⟩
     refine a_genR (fun S h3 => S 1 = .cptr (Fm.mk op name args params exprs kids).cells ∧ S 5 = .sc (.bool (!(name.data.toList == (#[] : Array UInt8).toList))) ∧ S 6 = .sc (.int .i64 args.length) ∧ S 7 = .sc (.int .i64 params.length) ∧ S 8 = .sc (.int .i64 exprs.length) ∧ S 9 = .sc (.int .i64 kids.length) ∧ h3 = h2) ?_ ?_
     ·simp only [Ty.w, simprocAttr, g1, Fm.cells]
      try trivial
     clear g1 g3 hd S hlA hlP hlE hlK
     rintro S h2 ⟨g1, g5, g6, g7, g8, g9, rfl⟩
     simp only [Fm.cells] at g1
     cases k1 : (op.data.toList == (#[97, 116, 111, 109] : Array UInt8).toList) with
     | true =>
      simp only [k1, Bool.true_or, Bool.or_true, Bool.false_or, if_true, Bool.false_eq_true, if_false] at hF
      generalize nameB name = bN at hN hF
      cases bN with
      | false =>
       try simp only [Bool.false_and, Bool.and_false] at hF
       subst hF
       repeat' (first | refine a_seq fun K hK => ?_ | (refine a_regionS ?_; simp (maxSteps := 2000000) only [Ty.w, simprocAttr, g1, g5, g6, g7, g8, g9, Bool.not_true, Bool.not_false, wa, wb, wc, wd, we, wf, k1]) | (refine hK _ _ ?_; clear hK; try simp only [pst0, simprocAttr]))
       refine owp_useQ (hN _) (by (try simp only [Ty.w, simprocAttr, g1, g5, g6, g7, g8, g9, Bool.not_true, Bool.not_false, wa, wb, wc, wd, we, wf, k1]); try rfl) ?_; simp (maxSteps := 2000000) only [Ty.w, simprocAttr, g1, g5, g6, g7, g8, g9, Bool.not_true, Bool.not_false, wa, wb, wc, wd, we, wf, k1]
       repeat' (first | (refine a_ret ?_; simp (maxSteps := 2000000) only [Ty.w, simprocAttr, g1, g5, g6, g7, g8, g9, Bool.not_true, Bool.not_false, wa, wb, wc, wd, we, wf, k1]) | (refine hK _ _ ?_; clear hK; try simp only [pst0, simprocAttr]))
       all_goals rfl
      | true =>
       try simp only [Bool.true_and, Bool.and_true] at hF
       generalize args.all termB = bA at hA hF
       cases bA with
       | false =>
        try simp only [Bool.false_and, Bool.and_false] at hF
        subst hF
        have W := And.intro g1 (And.intro g5 (And.intro g6 (And.intro g7 (And.intro g8 (And.intro g9 (And.intro wa (And.intro wb (And.intro wc (And.intro wd (And.intro we (And.intro wf k1)))))))))))
        repeat' (first | refine a_seq fun K hK => ?_ | (refine a_regionS ?_; simp (maxSteps := 2000000) only [Ty.w, simprocAttr, W, Bool.not_true, Bool.not_false]) | (refine hK _ _ ?_; clear hK; try simp only [pst0, simprocAttr]))
        refine owp_useQ (hN _) (by (try simp only [Ty.w, simprocAttr, W, Bool.not_true, Bool.not_false]); try rfl) ?_; simp (maxSteps := 2000000) only [Ty.w, simprocAttr, W, Bool.not_true, Bool.not_false]
        skip
        refine owp_useQ (hA _) (by (try simp only [Ty.w, simprocAttr, W, Bool.not_true, Bool.not_false]); try rfl) ?_; simp (maxSteps := 2000000) only [Ty.w, simprocAttr, W, Bool.not_true, Bool.not_false]
        repeat' (first | (refine a_ret ?_; simp (maxSteps := 2000000) only [Ty.w, simprocAttr, W, Bool.not_true, Bool.not_false]) | (refine hK _ _ ?_; clear hK; try simp only [pst0, simprocAttr]))
        all_goals rfl
       | true =>
        try simp only [Bool.true_and, Bool.and_true] at hF
        cases q2 : ((((params.length : Int) + exprs.length) + kids.length) == 0) with
        | false =>
         simp only [q2, Bool.false_and, Bool.and_false] at hF
         subst hF
         have W := And.intro g1 (And.intro g5 (And.intro g6 (And.intro g7 (And.intro g8 (And.intro g9 (And.intro wa (And.intro wb (And.intro wc (And.intro wd (And.intro we (And.intro wf (And.intro k1 q2))))))))))))
         repeat' (first | refine a_seq fun K hK => ?_ | (refine a_regionS ?_; simp (maxSteps := 2000000) only [Ty.w, simprocAttr, W, Bool.not_true, Bool.not_false]) | (refine hK _ _ ?_; clear hK; try simp only [pst0, simprocAttr]))
         refine owp_useQ (hN _) (by (try simp only [Ty.w, simprocAttr, W, Bool.not_true, Bool.not_false]); try rfl) ?_; simp (maxSteps := 2000000) only [Ty.w, simprocAttr, W, Bool.not_true, Bool.not_false]
         skip
         refine owp_useQ (hA _) (by (try simp only [Ty.w, simprocAttr, W, Bool.not_true, Bool.not_false]); try rfl) ?_; simp (maxSteps := 2000000) only [Ty.w, simprocAttr, W, Bool.not_true, Bool.not_false]
         repeat' (first | (refine a_ret ?_; simp (maxSteps := 2000000) only [Ty.w, simprocAttr, W, Bool.not_true, Bool.not_false]) | (refine hK _ _ ?_; clear hK; try simp only [pst0, simprocAttr]))
         all_goals rfl
        | true =>
         simp only [q2, Bool.true_and, Bool.and_true] at hF
         subst hF
         have W := And.intro g1 (And.intro g5 (And.intro g6 (And.intro g7 (And.intro g8 (And.intro g9 (And.intro wa (And.intro wb (And.intro wc (And.intro wd (And.intro we (And.intro wf (And.intro k1 q2))))))))))))
         repeat' (first | refine a_seq fun K hK => ?_ | (refine a_regionS ?_; simp (maxSteps := 2000000) only [Ty.w, simprocAttr, W, Bool.not_true, Bool.not_false]) | (refine hK _ _ ?_; clear hK; try simp only [pst0, simprocAttr]))
         refine owp_useQ (hN _) (by (try simp only [Ty.w, simprocAttr, W, Bool.not_true, Bool.not_false]); try rfl) ?_; simp (maxSteps := 2000000) only [Ty.w, simprocAttr, W, Bool.not_true, Bool.not_false]
         skip
         refine owp_useQ (hA _) (by (try simp only [Ty.w, simprocAttr, W, Bool.not_true, Bool.not_false]); try rfl) ?_; simp (maxSteps := 2000000) only [Ty.w, simprocAttr, W, Bool.not_true, Bool.not_false]
         repeat' (first | (refine a_ret ?_; simp (maxSteps := 2000000) only [Ty.w, simprocAttr, W, Bool.not_true, Bool.not_false]) | (refine hK _ _ ?_; clear hK; try simp only [pst0, simprocAttr]))
         all_goals rfl
     | false =>
      simp only [k1, Bool.true_or, Bool.or_true, Bool.false_or, if_true, Bool.false_eq_true, if_false] at hF
      cases k2 : (op.data.toList == (#[115, 97, 109, 101] : Array UInt8).toList) with
      | true =>
       simp only [k2, Bool.true_or, Bool.or_true, Bool.false_or, if_true, Bool.false_eq_true, if_false] at hF
       cases q0 : (name.data.toList == (#[] : Array UInt8).toList) with
       | false =>
        simp only [q0, Bool.false_and, Bool.and_false] at hF
        subst hF
        repeat' (first | refine a_seq fun K hK => ?_ | ((first | refine a_regionS ?_ | refine a_ret ?_); simp (maxSteps := 2000000) only [Ty.w, simprocAttr, g1, g5, g6, g7, g8, g9, Bool.not_true, Bool.not_false, wa, wb, wc, wd, we, wf, k1, k2, q0]) | (refine hK _ _ ?_; clear hK; try simp only [pst0, simprocAttr]))
        all_goals rfl
       | true =>
        simp only [q0, Bool.true_and, Bool.and_true] at hF
        cases q1 : ((args.length : Int) == 2) with
        | false =>
         simp only [q1, Bool.false_and, Bool.and_false] at hF
         subst hF
         repeat' (first | refine a_seq fun K hK => ?_ | ((first | refine a_regionS ?_ | refine a_ret ?_); simp (maxSteps := 2000000) only [Ty.w, simprocAttr, g1, g5, g6, g7, g8, g9, Bool.not_true, Bool.not_false, wa, wb, wc, wd, we, wf, k1, k2, q0, q1]) | (refine hK _ _ ?_; clear hK; try simp only [pst0, simprocAttr]))
         all_goals rfl
        | true =>
         simp only [q1, Bool.true_and, Bool.and_true] at hF
         generalize args.all termB = bA at hA hF
         cases bA with
         | false =>
          try simp only [Bool.false_and, Bool.and_false] at hF
          subst hF
          repeat' (first | refine a_seq fun K hK => ?_ | (refine a_regionS ?_; simp (maxSteps := 2000000) only [Ty.w, simprocAttr, g1, g5, g6, g7, g8, g9, Bool.not_true, Bool.not_false, wa, wb, wc, wd, we, wf, k1, k2, q0, q1]) | (refine hK _ _ ?_; clear hK; try simp only [pst0, simprocAttr]))
          refine owp_useQ (hA _) (by (try simp only [Ty.w, simprocAttr, g1, g5, g6, g7, g8, g9, Bool.not_true, Bool.not_false, wa, wb, wc, wd, we, wf, k1, k2, q0, q1]); try rfl) ?_; simp (maxSteps := 2000000) only [Ty.w, simprocAttr, g1, g5, g6, g7, g8, g9, Bool.not_true, Bool.not_false, wa, wb, wc, wd, we, wf, k1, k2, q0, q1]
          repeat' (first | (refine a_ret ?_; simp (maxSteps := 2000000) only [Ty.w, simprocAttr, g1, g5, g6, g7, g8, g9, Bool.not_true, Bool.not_false, wa, wb, wc, wd, we, wf, k1, k2, q0, q1]) | (refine hK _ _ ?_; clear hK; try simp only [pst0, simprocAttr]))
          all_goals rfl
         | true =>
          try simp only [Bool.true_and, Bool.and_true] at hF
          cases q3 : ((((params.length : Int) + exprs.length) + kids.length) == 0) with
          | false =>
           simp only [q3, Bool.false_and, Bool.and_false] at hF
           subst hF
           repeat' (first | refine a_seq fun K hK => ?_ | (refine a_regionS ?_; simp (maxSteps := 2000000) only [Ty.w, simprocAttr, g1, g5, g6, g7, g8, g9, Bool.not_true, Bool.not_false, wa, wb, wc, wd, we, wf, k1, k2, q0, q1, q3]) | (refine hK _ _ ?_; clear hK; try simp only [pst0, simprocAttr]))
           refine owp_useQ (hA _) (by (try simp only [Ty.w, simprocAttr, g1, g5, g6, g7, g8, g9, Bool.not_true, Bool.not_false, wa, wb, wc, wd, we, wf, k1, k2, q0, q1, q3]); try rfl) ?_; simp (maxSteps := 2000000) only [Ty.w, simprocAttr, g1, g5, g6, g7, g8, g9, Bool.not_true, Bool.not_false, wa, wb, wc, wd, we, wf, k1, k2, q0, q1, q3]
           repeat' (first | (refine a_ret ?_; simp (maxSteps := 2000000) only [Ty.w, simprocAttr, g1, g5, g6, g7, g8, g9, Bool.not_true, Bool.not_false, wa, wb, wc, wd, we, wf, k1, k2, q0, q1, q3]) | (refine hK _ _ ?_; clear hK; try simp only [pst0, simprocAttr]))
           all_goals rfl
          | true =>
           simp only [q3, Bool.true_and, Bool.and_true] at hF
           subst hF
           repeat' (first | refine a_seq fun K hK => ?_ | (refine a_regionS ?_; simp (maxSteps := 2000000) only [Ty.w, simprocAttr, g1, g5, g6, g7, g8, g9, Bool.not_true, Bool.not_false, wa, wb, wc, wd, we, wf, k1, k2, q0, q1, q3]) | (refine hK _ _ ?_; clear hK; try simp only [pst0, simprocAttr]))
           refine owp_useQ (hA _) (by (try simp only [Ty.w, simprocAttr, g1, g5, g6, g7, g8, g9, Bool.not_true, Bool.not_false, wa, wb, wc, wd, we, wf, k1, k2, q0, q1, q3]); try rfl) ?_; simp (maxSteps := 2000000) only [Ty.w, simprocAttr, g1, g5, g6, g7, g8, g9, Bool.not_true, Bool.not_false, wa, wb, wc, wd, we, wf, k1, k2, q0, q1, q3]
           repeat' (first | (refine a_ret ?_; simp (maxSteps := 2000000) only [Ty.w, simprocAttr, g1, g5, g6, g7, g8, g9, Bool.not_true, Bool.not_false, wa, wb, wc, wd, we, wf, k1, k2, q0, q1, q3]) | (refine hK _ _ ?_; clear hK; try simp only [pst0, simprocAttr]))
           all_goals rfl
      | false =>
       simp only [k2, Bool.true_or, Bool.or_true, Bool.false_or, if_true, Bool.false_eq_true, if_false] at hF
       cases k3 : (op.data.toList == (#[60] : Array UInt8).toList) with
       | true =>
        simp only [k3, Bool.true_or, Bool.or_true, Bool.false_or, if_true, Bool.false_eq_true, if_false] at hF
        cases q0 : (name.data.toList == (#[] : Array UInt8).toList) with
        | false =>
         simp only [q0, Bool.false_and, Bool.and_false] at hF
         subst hF
         repeat' (first | refine a_seq fun K hK => ?_ | ((first | refine a_regionS ?_ | refine a_ret ?_); simp (maxSteps := 2000000) only [Ty.w, simprocAttr, g1, g5, g6, g7, g8, g9, Bool.not_true, Bool.not_false, wa, wb, wc, wd, we, wf, k1, k2, k3, q0]) | (refine a_skip ?_; try simp only [pst0, simprocAttr]) | (refine a_cond _ (by (try simp (maxSteps := 2000000) only [Ty.w, simprocAttr, g1, g5, g6, g7, g8, g9, Bool.not_true, Bool.not_false, wa, wb, wc, wd, we, wf, k1, k2, k3, q0]); rfl) (fun hb => ?_) (fun hb => ?_) <;> (try simp only [hb0, decide_eq_true_eq, decide_eq_false_iff_not, simprocAttr] at hb) <;> (try (exfalso; omega))) | (refine hK _ _ ?_; clear hK; try simp only [pst0, simprocAttr]))
         all_goals rfl
        | true =>
         simp only [q0, Bool.true_and, Bool.and_true] at hF
         cases q1 : ((((args.length : Int) + params.length) + kids.length) == 0) with
         | false =>
          simp only [q1, Bool.false_and, Bool.and_false] at hF
          subst hF
          repeat' (first | refine a_seq fun K hK => ?_ | ((first | refine a_regionS ?_ | refine a_ret ?_); simp (maxSteps := 2000000) only [Ty.w, simprocAttr, g1, g5, g6, g7, g8, g9, Bool.not_true, Bool.not_false, wa, wb, wc, wd, we, wf, k1, k2, k3, q0, q1]) | (refine a_skip ?_; try simp only [pst0, simprocAttr]) | (refine a_cond _ (by (try simp (maxSteps := 2000000) only [Ty.w, simprocAttr, g1, g5, g6, g7, g8, g9, Bool.not_true, Bool.not_false, wa, wb, wc, wd, we, wf, k1, k2, k3, q0, q1]); rfl) (fun hb => ?_) (fun hb => ?_) <;> (try simp only [hb0, decide_eq_true_eq, decide_eq_false_iff_not, simprocAttr] at hb) <;> (try (exfalso; omega))) | (refine hK _ _ ?_; clear hK; try simp only [pst0, simprocAttr]))
          all_goals rfl
         | true =>
          simp only [q1, Bool.true_and, Bool.and_true] at hF
          cases q2 : ((exprs.length : Int) == 2) with
          | false =>
           simp only [q2, Bool.false_and, Bool.and_false] at hF
           subst hF
           repeat' (first | refine a_seq fun K hK => ?_ | ((first | refine a_regionS ?_ | refine a_ret ?_); simp (maxSteps := 2000000) only [Ty.w, simprocAttr, g1, g5, g6, g7, g8, g9, Bool.not_true, Bool.not_false, wa, wb, wc, wd, we, wf, k1, k2, k3, q0, q1, q2]) | (refine a_skip ?_; try simp only [pst0, simprocAttr]) | (refine a_cond _ (by (try simp (maxSteps := 2000000) only [Ty.w, simprocAttr, g1, g5, g6, g7, g8, g9, Bool.not_true, Bool.not_false, wa, wb, wc, wd, we, wf, k1, k2, k3, q0, q1, q2]); rfl) (fun hb => ?_) (fun hb => ?_) <;> (try simp only [hb0, decide_eq_true_eq, decide_eq_false_iff_not, simprocAttr] at hb) <;> (try (exfalso; omega))) | (refine hK _ _ ?_; clear hK; try simp only [pst0, simprocAttr]))
           all_goals rfl
          | true =>
           simp only [q2, Bool.true_and, Bool.and_true] at hF
           subst hF
           repeat' (first | refine a_seq fun K hK => ?_ | ((first | refine a_regionS ?_ | refine a_ret ?_); simp (maxSteps := 2000000) only [Ty.w, simprocAttr, g1, g5, g6, g7, g8, g9, Bool.not_true, Bool.not_false, wa, wb, wc, wd, we, wf, k1, k2, k3, q0, q1, q2]) | (refine a_skip ?_; try simp only [pst0, simprocAttr]) | (refine a_cond _ (by (try simp (maxSteps := 2000000) only [Ty.w, simprocAttr, g1, g5, g6, g7, g8, g9, Bool.not_true, Bool.not_false, wa, wb, wc, wd, we, wf, k1, k2, k3, q0, q1, q2]); rfl) (fun hb => ?_) (fun hb => ?_) <;> (try simp only [hb0, decide_eq_true_eq, decide_eq_false_iff_not, simprocAttr] at hb) <;> (try (exfalso; omega))) | (refine hK _ _ ?_; clear hK; try simp only [pst0, simprocAttr]))
           all_goals rfl
       | false =>
        simp only [k3, Bool.true_or, Bool.or_true, Bool.false_or, if_true, Bool.false_eq_true, if_false] at hF
        cases k4 : (op.data.toList == (#[60, 61] : Array UInt8).toList) with
        | true =>
         simp only [k4, Bool.true_or, Bool.or_true, Bool.false_or, if_true, Bool.false_eq_true, if_false] at hF
         cases q0 : (name.data.toList == (#[] : Array UInt8).toList) with
         | false =>
          simp only [q0, Bool.false_and, Bool.and_false] at hF
          subst hF
          repeat' (first | refine a_seq fun K hK => ?_ | ((first | refine a_regionS ?_ | refine a_ret ?_); simp (maxSteps := 2000000) only [Ty.w, simprocAttr, g1, g5, g6, g7, g8, g9, Bool.not_true, Bool.not_false, wa, wb, wc, wd, we, wf, k1, k2, k3, k4, q0]) | (refine a_skip ?_; try simp only [pst0, simprocAttr]) | (refine a_cond _ (by (try simp (maxSteps := 2000000) only [Ty.w, simprocAttr, g1, g5, g6, g7, g8, g9, Bool.not_true, Bool.not_false, wa, wb, wc, wd, we, wf, k1, k2, k3, k4, q0]); rfl) (fun hb => ?_) (fun hb => ?_) <;> (try simp only [hb0, decide_eq_true_eq, decide_eq_false_iff_not, simprocAttr] at hb) <;> (try (exfalso; omega))) | (refine hK _ _ ?_; clear hK; try simp only [pst0, simprocAttr]))
          all_goals rfl
         | true =>
          simp only [q0, Bool.true_and, Bool.and_true] at hF
          cases q1 : ((((args.length : Int) + params.length) + kids.length) == 0) with
          | false =>
           simp only [q1, Bool.false_and, Bool.and_false] at hF
           subst hF
           repeat' (first | refine a_seq fun K hK => ?_ | ((first | refine a_regionS ?_ | refine a_ret ?_); simp (maxSteps := 2000000) only [Ty.w, simprocAttr, g1, g5, g6, g7, g8, g9, Bool.not_true, Bool.not_false, wa, wb, wc, wd, we, wf, k1, k2, k3, k4, q0, q1]) | (refine a_skip ?_; try simp only [pst0, simprocAttr]) | (refine a_cond _ (by (try simp (maxSteps := 2000000) only [Ty.w, simprocAttr, g1, g5, g6, g7, g8, g9, Bool.not_true, Bool.not_false, wa, wb, wc, wd, we, wf, k1, k2, k3, k4, q0, q1]); rfl) (fun hb => ?_) (fun hb => ?_) <;> (try simp only [hb0, decide_eq_true_eq, decide_eq_false_iff_not, simprocAttr] at hb) <;> (try (exfalso; omega))) | (refine hK _ _ ?_; clear hK; try simp only [pst0, simprocAttr]))
           all_goals rfl
          | true =>
           simp only [q1, Bool.true_and, Bool.and_true] at hF
           cases q2 : ((exprs.length : Int) == 2) with
           | false =>
            simp only [q2, Bool.false_and, Bool.and_false] at hF
            subst hF
            repeat' (first | refine a_seq fun K hK => ?_ | ((first | refine a_regionS ?_ | refine a_ret ?_); simp (maxSteps := 2000000) only [Ty.w, simprocAttr, g1, g5, g6, g7, g8, g9, Bool.not_true, Bool.not_false, wa, wb, wc, wd, we, wf, k1, k2, k3, k4, q0, q1, q2]) | (refine a_skip ?_; try simp only [pst0, simprocAttr]) | (refine a_cond _ (by (try simp (maxSteps := 2000000) only [Ty.w, simprocAttr, g1, g5, g6, g7, g8, g9, Bool.not_true, Bool.not_false, wa, wb, wc, wd, we, wf, k1, k2, k3, k4, q0, q1, q2]); rfl) (fun hb => ?_) (fun hb => ?_) <;> (try simp only [hb0, decide_eq_true_eq, decide_eq_false_iff_not, simprocAttr] at hb) <;> (try (exfalso; omega))) | (refine hK _ _ ?_; clear hK; try simp only [pst0, simprocAttr]))
            all_goals rfl
           | true =>
            simp only [q2, Bool.true_and, Bool.and_true] at hF
            subst hF
            repeat' (first | refine a_seq fun K hK => ?_ | ((first | refine a_regionS ?_ | refine a_ret ?_); simp (maxSteps := 2000000) only [Ty.w, simprocAttr, g1, g5, g6, g7, g8, g9, Bool.not_true, Bool.not_false, wa, wb, wc, wd, we, wf, k1, k2, k3, k4, q0, q1, q2]) | (refine a_skip ?_; try simp only [pst0, simprocAttr]) | (refine a_cond _ (by (try simp (maxSteps := 2000000) only [Ty.w, simprocAttr, g1, g5, g6, g7, g8, g9, Bool.not_true, Bool.not_false, wa, wb, wc, wd, we, wf, k1, k2, k3, k4, q0, q1, q2]); rfl) (fun hb => ?_) (fun hb => ?_) <;> (try simp only [hb0, decide_eq_true_eq, decide_eq_false_iff_not, simprocAttr] at hb) <;> (try (exfalso; omega))) | (refine hK _ _ ?_; clear hK; try simp only [pst0, simprocAttr]))
            all_goals rfl
        | false =>
         simp only [k4, Bool.true_or, Bool.or_true, Bool.false_or, if_true, Bool.false_eq_true, if_false] at hF
         cases k5 : (op.data.toList == (#[61] : Array UInt8).toList) with
         | true =>
          simp only [k5, Bool.true_or, Bool.or_true, Bool.false_or, if_true, Bool.false_eq_true, if_false] at hF
          cases q0 : (name.data.toList == (#[] : Array UInt8).toList) with
          | false =>
           simp only [q0, Bool.false_and, Bool.and_false] at hF
           subst hF
           repeat' (first | refine a_seq fun K hK => ?_ | ((first | refine a_regionS ?_ | refine a_ret ?_); simp (maxSteps := 2000000) only [Ty.w, simprocAttr, g1, g5, g6, g7, g8, g9, Bool.not_true, Bool.not_false, wa, wb, wc, wd, we, wf, k1, k2, k3, k4, k5, q0]) | (refine a_cond _ (by (try simp (maxSteps := 2000000) only [Ty.w, simprocAttr, g1, g5, g6, g7, g8, g9, Bool.not_true, Bool.not_false, wa, wb, wc, wd, we, wf, k1, k2, k3, k4, k5, q0]); rfl) (fun hb => ?_) (fun hb => ?_) <;> (try simp only [hb0, decide_eq_true_eq, decide_eq_false_iff_not, simprocAttr] at hb) <;> (try (exfalso; omega))) | (refine hK _ _ ?_; clear hK; try simp only [pst0, simprocAttr]))
           all_goals rfl
          | true =>
           simp only [q0, Bool.true_and, Bool.and_true] at hF
           cases q1 : ((((args.length : Int) + params.length) + kids.length) == 0) with
           | false =>
            simp only [q1, Bool.false_and, Bool.and_false] at hF
            subst hF
            repeat' (first | refine a_seq fun K hK => ?_ | ((first | refine a_regionS ?_ | refine a_ret ?_); simp (maxSteps := 2000000) only [Ty.w, simprocAttr, g1, g5, g6, g7, g8, g9, Bool.not_true, Bool.not_false, wa, wb, wc, wd, we, wf, k1, k2, k3, k4, k5, q0, q1]) | (refine a_cond _ (by (try simp (maxSteps := 2000000) only [Ty.w, simprocAttr, g1, g5, g6, g7, g8, g9, Bool.not_true, Bool.not_false, wa, wb, wc, wd, we, wf, k1, k2, k3, k4, k5, q0, q1]); rfl) (fun hb => ?_) (fun hb => ?_) <;> (try simp only [hb0, decide_eq_true_eq, decide_eq_false_iff_not, simprocAttr] at hb) <;> (try (exfalso; omega))) | (refine hK _ _ ?_; clear hK; try simp only [pst0, simprocAttr]))
            all_goals rfl
           | true =>
            simp only [q1, Bool.true_and, Bool.and_true] at hF
            cases q2 : ((exprs.length : Int) == 2) with
            | false =>
             simp only [q2, Bool.false_and, Bool.and_false] at hF
             subst hF
             repeat' (first | refine a_seq fun K hK => ?_ | ((first | refine a_regionS ?_ | refine a_ret ?_); simp (maxSteps := 2000000) only [Ty.w, simprocAttr, g1, g5, g6, g7, g8, g9, Bool.not_true, Bool.not_false, wa, wb, wc, wd, we, wf, k1, k2, k3, k4, k5, q0, q1, q2]) | (refine a_cond _ (by (try simp (maxSteps := 2000000) only [Ty.w, simprocAttr, g1, g5, g6, g7, g8, g9, Bool.not_true, Bool.not_false, wa, wb, wc, wd, we, wf, k1, k2, k3, k4, k5, q0, q1, q2]); rfl) (fun hb => ?_) (fun hb => ?_) <;> (try simp only [hb0, decide_eq_true_eq, decide_eq_false_iff_not, simprocAttr] at hb) <;> (try (exfalso; omega))) | (refine hK _ _ ?_; clear hK; try simp only [pst0, simprocAttr]))
             all_goals rfl
            | true =>
             simp only [q2, Bool.true_and, Bool.and_true] at hF
             subst hF
             repeat' (first | refine a_seq fun K hK => ?_ | ((first | refine a_regionS ?_ | refine a_ret ?_); simp (maxSteps := 2000000) only [Ty.w, simprocAttr, g1, g5, g6, g7, g8, g9, Bool.not_true, Bool.not_false, wa, wb, wc, wd, we, wf, k1, k2, k3, k4, k5, q0, q1, q2]) | (refine a_cond _ (by (try simp (maxSteps := 2000000) only [Ty.w, simprocAttr, g1, g5, g6, g7, g8, g9, Bool.not_true, Bool.not_false, wa, wb, wc, wd, we, wf, k1, k2, k3, k4, k5, q0, q1, q2]); rfl) (fun hb => ?_) (fun hb => ?_) <;> (try simp only [hb0, decide_eq_true_eq, decide_eq_false_iff_not, simprocAttr] at hb) <;> (try (exfalso; omega))) | (refine hK _ _ ?_; clear hK; try simp only [pst0, simprocAttr]))
             all_goals rfl
         | false =>
          simp only [k5, Bool.true_or, Bool.or_true, Bool.false_or, if_true, Bool.false_eq_true, if_false] at hF
          cases k6 : (op.data.toList == (#[97, 110, 100] : Array UInt8).toList) with
          | true =>
           simp only [k6, Bool.true_or, Bool.or_true, Bool.false_or, if_true, Bool.false_eq_true, if_false] at hF
           cases q0 : (name.data.toList == (#[] : Array UInt8).toList) with
           | false =>
            simp only [q0, Bool.false_and, Bool.and_false] at hF
            subst hF
            repeat' (first | refine a_seq fun K hK => ?_ | ((first | refine a_regionS ?_ | refine a_ret ?_); simp (maxSteps := 2000000) only [Ty.w, simprocAttr, g1, g5, g6, g7, g8, g9, Bool.not_true, Bool.not_false, wa, wb, wc, wd, we, wf, k1, k2, k3, k4, k5, k6, q0]) | (refine a_skip ?_; try simp only [pst0, simprocAttr]) | (refine a_cond _ (by (try simp (maxSteps := 2000000) only [Ty.w, simprocAttr, g1, g5, g6, g7, g8, g9, Bool.not_true, Bool.not_false, wa, wb, wc, wd, we, wf, k1, k2, k3, k4, k5, k6, q0]); rfl) (fun hb => ?_) (fun hb => ?_) <;> (try simp only [hb0, decide_eq_true_eq, decide_eq_false_iff_not, simprocAttr] at hb) <;> (try (exfalso; omega))) | (refine hK _ _ ?_; clear hK; try simp only [pst0, simprocAttr]))
            all_goals rfl
           | true =>
            simp only [q0, Bool.true_and, Bool.and_true] at hF
            cases q1 : ((((args.length : Int) + params.length) + exprs.length) == 0) with
            | false =>
             simp only [q1, Bool.false_and, Bool.and_false] at hF
             subst hF
             repeat' (first | refine a_seq fun K hK => ?_ | ((first | refine a_regionS ?_ | refine a_ret ?_); simp (maxSteps := 2000000) only [Ty.w, simprocAttr, g1, g5, g6, g7, g8, g9, Bool.not_true, Bool.not_false, wa, wb, wc, wd, we, wf, k1, k2, k3, k4, k5, k6, q0, q1]) | (refine a_skip ?_; try simp only [pst0, simprocAttr]) | (refine a_cond _ (by (try simp (maxSteps := 2000000) only [Ty.w, simprocAttr, g1, g5, g6, g7, g8, g9, Bool.not_true, Bool.not_false, wa, wb, wc, wd, we, wf, k1, k2, k3, k4, k5, k6, q0, q1]); rfl) (fun hb => ?_) (fun hb => ?_) <;> (try simp only [hb0, decide_eq_true_eq, decide_eq_false_iff_not, simprocAttr] at hb) <;> (try (exfalso; omega))) | (refine hK _ _ ?_; clear hK; try simp only [pst0, simprocAttr]))
             all_goals rfl
            | true =>
             simp only [q1, Bool.true_and, Bool.and_true] at hF
             subst hF
             repeat' (first | refine a_seq fun K hK => ?_ | ((first | refine a_regionS ?_ | refine a_ret ?_); simp (maxSteps := 2000000) only [Ty.w, simprocAttr, g1, g5, g6, g7, g8, g9, Bool.not_true, Bool.not_false, wa, wb, wc, wd, we, wf, k1, k2, k3, k4, k5, k6, q0, q1]) | (refine a_skip ?_; try simp only [pst0, simprocAttr]) | (refine a_cond _ (by (try simp (maxSteps := 2000000) only [Ty.w, simprocAttr, g1, g5, g6, g7, g8, g9, Bool.not_true, Bool.not_false, wa, wb, wc, wd, we, wf, k1, k2, k3, k4, k5, k6, q0, q1]); rfl) (fun hb => ?_) (fun hb => ?_) <;> (try simp only [hb0, decide_eq_true_eq, decide_eq_false_iff_not, simprocAttr] at hb) <;> (try (exfalso; omega))) | (refine hK _ _ ?_; clear hK; try simp only [pst0, simprocAttr]))
             all_goals rfl
          | false =>
           simp only [k6, Bool.true_or, Bool.or_true, Bool.false_or, if_true, Bool.false_eq_true, if_false] at hF
           cases k7 : (op.data.toList == (#[111, 114] : Array UInt8).toList) with
           | true =>
            simp only [k7, Bool.true_or, Bool.or_true, Bool.false_or, if_true, Bool.false_eq_true, if_false] at hF
            cases q0 : (name.data.toList == (#[] : Array UInt8).toList) with
            | false =>
             simp only [q0, Bool.false_and, Bool.and_false] at hF
             subst hF
             repeat' (first | refine a_seq fun K hK => ?_ | ((first | refine a_regionS ?_ | refine a_ret ?_); simp (maxSteps := 2000000) only [Ty.w, simprocAttr, g1, g5, g6, g7, g8, g9, Bool.not_true, Bool.not_false, wa, wb, wc, wd, we, wf, k1, k2, k3, k4, k5, k6, k7, q0]) | (refine a_cond _ (by (try simp (maxSteps := 2000000) only [Ty.w, simprocAttr, g1, g5, g6, g7, g8, g9, Bool.not_true, Bool.not_false, wa, wb, wc, wd, we, wf, k1, k2, k3, k4, k5, k6, k7, q0]); rfl) (fun hb => ?_) (fun hb => ?_) <;> (try simp only [hb0, decide_eq_true_eq, decide_eq_false_iff_not, simprocAttr] at hb) <;> (try (exfalso; omega))) | (refine hK _ _ ?_; clear hK; try simp only [pst0, simprocAttr]))
             all_goals rfl
            | true =>
             simp only [q0, Bool.true_and, Bool.and_true] at hF
             cases q1 : ((((args.length : Int) + params.length) + exprs.length) == 0) with
             | false =>
              simp only [q1, Bool.false_and, Bool.and_false] at hF
              subst hF
              repeat' (first | refine a_seq fun K hK => ?_ | ((first | refine a_regionS ?_ | refine a_ret ?_); simp (maxSteps := 2000000) only [Ty.w, simprocAttr, g1, g5, g6, g7, g8, g9, Bool.not_true, Bool.not_false, wa, wb, wc, wd, we, wf, k1, k2, k3, k4, k5, k6, k7, q0, q1]) | (refine a_cond _ (by (try simp (maxSteps := 2000000) only [Ty.w, simprocAttr, g1, g5, g6, g7, g8, g9, Bool.not_true, Bool.not_false, wa, wb, wc, wd, we, wf, k1, k2, k3, k4, k5, k6, k7, q0, q1]); rfl) (fun hb => ?_) (fun hb => ?_) <;> (try simp only [hb0, decide_eq_true_eq, decide_eq_false_iff_not, simprocAttr] at hb) <;> (try (exfalso; omega))) | (refine hK _ _ ?_; clear hK; try simp only [pst0, simprocAttr]))
              all_goals rfl
             | true =>
              simp only [q1, Bool.true_and, Bool.and_true] at hF
              subst hF
              repeat' (first | refine a_seq fun K hK => ?_ | ((first | refine a_regionS ?_ | refine a_ret ?_); simp (maxSteps := 2000000) only [Ty.w, simprocAttr, g1, g5, g6, g7, g8, g9, Bool.not_true, Bool.not_false, wa, wb, wc, wd, we, wf, k1, k2, k3, k4, k5, k6, k7, q0, q1]) | (refine a_cond _ (by (try simp (maxSteps := 2000000) only [Ty.w, simprocAttr, g1, g5, g6, g7, g8, g9, Bool.not_true, Bool.not_false, wa, wb, wc, wd, we, wf, k1, k2, k3, k4, k5, k6, k7, q0, q1]); rfl) (fun hb => ?_) (fun hb => ?_) <;> (try simp only [hb0, decide_eq_true_eq, decide_eq_false_iff_not, simprocAttr] at hb) <;> (try (exfalso; omega))) | (refine hK _ _ ?_; clear hK; try simp only [pst0, simprocAttr]))
              all_goals rfl
           | false =>
            simp only [k7, Bool.true_or, Bool.or_true, Bool.false_or, if_true, Bool.false_eq_true, if_false] at hF
            cases k8 : (op.data.toList == (#[110, 111, 116] : Array UInt8).toList) with
            | true =>
             simp only [k8, Bool.true_or, Bool.or_true, Bool.false_or, if_true, Bool.false_eq_true, if_false] at hF
             cases q0 : (name.data.toList == (#[] : Array UInt8).toList) with
             | false =>
              simp only [q0, Bool.false_and, Bool.and_false] at hF
              subst hF
              repeat' (first | refine a_seq fun K hK => ?_ | ((first | refine a_regionS ?_ | refine a_ret ?_); simp (maxSteps := 2000000) only [Ty.w, simprocAttr, g1, g5, g6, g7, g8, g9, Bool.not_true, Bool.not_false, wa, wb, wc, wd, we, wf, k1, k2, k3, k4, k5, k6, k7, k8, q0]) | (refine a_cond _ (by (try simp (maxSteps := 2000000) only [Ty.w, simprocAttr, g1, g5, g6, g7, g8, g9, Bool.not_true, Bool.not_false, wa, wb, wc, wd, we, wf, k1, k2, k3, k4, k5, k6, k7, k8, q0]); rfl) (fun hb => ?_) (fun hb => ?_) <;> (try simp only [hb0, decide_eq_true_eq, decide_eq_false_iff_not, simprocAttr] at hb) <;> (try (exfalso; omega))) | (refine hK _ _ ?_; clear hK; try simp only [pst0, simprocAttr]))
              all_goals rfl
             | true =>
              simp only [q0, Bool.true_and, Bool.and_true] at hF
              cases q1 : ((((args.length : Int) + params.length) + exprs.length) == 0) with
              | false =>
               simp only [q1, Bool.false_and, Bool.and_false] at hF
               subst hF
               repeat' (first | refine a_seq fun K hK => ?_ | ((first | refine a_regionS ?_ | refine a_ret ?_); simp (maxSteps := 2000000) only [Ty.w, simprocAttr, g1, g5, g6, g7, g8, g9, Bool.not_true, Bool.not_false, wa, wb, wc, wd, we, wf, k1, k2, k3, k4, k5, k6, k7, k8, q0, q1]) | (refine a_cond _ (by (try simp (maxSteps := 2000000) only [Ty.w, simprocAttr, g1, g5, g6, g7, g8, g9, Bool.not_true, Bool.not_false, wa, wb, wc, wd, we, wf, k1, k2, k3, k4, k5, k6, k7, k8, q0, q1]); rfl) (fun hb => ?_) (fun hb => ?_) <;> (try simp only [hb0, decide_eq_true_eq, decide_eq_false_iff_not, simprocAttr] at hb) <;> (try (exfalso; omega))) | (refine hK _ _ ?_; clear hK; try simp only [pst0, simprocAttr]))
               all_goals rfl
              | true =>
               simp only [q1, Bool.true_and, Bool.and_true] at hF
               cases q2 : ((kids.length : Int) == 1) with
               | false =>
                simp only [q2, Bool.false_and, Bool.and_false] at hF
                subst hF
                repeat' (first | refine a_seq fun K hK => ?_ | ((first | refine a_regionS ?_ | refine a_ret ?_); simp (maxSteps := 2000000) only [Ty.w, simprocAttr, g1, g5, g6, g7, g8, g9, Bool.not_true, Bool.not_false, wa, wb, wc, wd, we, wf, k1, k2, k3, k4, k5, k6, k7, k8, q0, q1, q2]) | (refine a_cond _ (by (try simp (maxSteps := 2000000) only [Ty.w, simprocAttr, g1, g5, g6, g7, g8, g9, Bool.not_true, Bool.not_false, wa, wb, wc, wd, we, wf, k1, k2, k3, k4, k5, k6, k7, k8, q0, q1, q2]); rfl) (fun hb => ?_) (fun hb => ?_) <;> (try simp only [hb0, decide_eq_true_eq, decide_eq_false_iff_not, simprocAttr] at hb) <;> (try (exfalso; omega))) | (refine hK _ _ ?_; clear hK; try simp only [pst0, simprocAttr]))
                all_goals rfl
               | true =>
                simp only [q2, Bool.true_and, Bool.and_true] at hF
                subst hF
                repeat' (first | refine a_seq fun K hK => ?_ | ((first | refine a_regionS ?_ | refine a_ret ?_); simp (maxSteps := 2000000) only [Ty.w, simprocAttr, g1, g5, g6, g7, g8, g9, Bool.not_true, Bool.not_false, wa, wb, wc, wd, we, wf, k1, k2, k3, k4, k5, k6, k7, k8, q0, q1, q2]) | (refine a_cond _ (by (try simp (maxSteps := 2000000) only [Ty.w, simprocAttr, g1, g5, g6, g7, g8, g9, Bool.not_true, Bool.not_false, wa, wb, wc, wd, we, wf, k1, k2, k3, k4, k5, k6, k7, k8, q0, q1, q2]); rfl) (fun hb => ?_) (fun hb => ?_) <;> (try simp only [hb0, decide_eq_true_eq, decide_eq_false_iff_not, simprocAttr] at hb) <;> (try (exfalso; omega))) | (refine hK _ _ ?_; clear hK; try simp only [pst0, simprocAttr]))
                all_goals rfl
            | false =>
             simp only [k8, Bool.true_or, Bool.or_true, Bool.false_or, if_true, Bool.false_eq_true, if_false] at hF
             cases k9 : (op.data.toList == (#[105, 109, 112, 108, 121] : Array UInt8).toList) with
             | true =>
              simp only [k9, Bool.true_or, Bool.or_true, Bool.false_or, if_true, Bool.false_eq_true, if_false] at hF
              cases q0 : (name.data.toList == (#[] : Array UInt8).toList) with
              | false =>
               simp only [q0, Bool.false_and, Bool.and_false] at hF
               subst hF
               repeat' (first | refine a_seq fun K hK => ?_ | ((first | refine a_regionS ?_ | refine a_ret ?_); simp (maxSteps := 2000000) only [Ty.w, simprocAttr, g1, g5, g6, g7, g8, g9, Bool.not_true, Bool.not_false, wa, wb, wc, wd, we, wf, k1, k2, k3, k4, k5, k6, k7, k8, k9, q0]) | (refine a_cond _ (by (try simp (maxSteps := 2000000) only [Ty.w, simprocAttr, g1, g5, g6, g7, g8, g9, Bool.not_true, Bool.not_false, wa, wb, wc, wd, we, wf, k1, k2, k3, k4, k5, k6, k7, k8, k9, q0]); rfl) (fun hb => ?_) (fun hb => ?_) <;> (try simp only [hb0, decide_eq_true_eq, decide_eq_false_iff_not, simprocAttr] at hb) <;> (try (exfalso; omega))) | (refine hK _ _ ?_; clear hK; try simp only [pst0, simprocAttr]))
               all_goals rfl
              | true =>
               simp only [q0, Bool.true_and, Bool.and_true] at hF
               cases q1 : ((((args.length : Int) + params.length) + exprs.length) == 0) with
               | false =>
                simp only [q1, Bool.false_and, Bool.and_false] at hF
                subst hF
                repeat' (first | refine a_seq fun K hK => ?_ | ((first | refine a_regionS ?_ | refine a_ret ?_); simp (maxSteps := 2000000) only [Ty.w, simprocAttr, g1, g5, g6, g7, g8, g9, Bool.not_true, Bool.not_false, wa, wb, wc, wd, we, wf, k1, k2, k3, k4, k5, k6, k7, k8, k9, q0, q1]) | (refine a_cond _ (by (try simp (maxSteps := 2000000) only [Ty.w, simprocAttr, g1, g5, g6, g7, g8, g9, Bool.not_true, Bool.not_false, wa, wb, wc, wd, we, wf, k1, k2, k3, k4, k5, k6, k7, k8, k9, q0, q1]); rfl) (fun hb => ?_) (fun hb => ?_) <;> (try simp only [hb0, decide_eq_true_eq, decide_eq_false_iff_not, simprocAttr] at hb) <;> (try (exfalso; omega))) | (refine hK _ _ ?_; clear hK; try simp only [pst0, simprocAttr]))
                all_goals rfl
               | true =>
                simp only [q1, Bool.true_and, Bool.and_true] at hF
                cases q2 : ((kids.length : Int) == 2) with
                | false =>
                 simp only [q2, Bool.false_and, Bool.and_false] at hF
                 subst hF
                 repeat' (first | refine a_seq fun K hK => ?_ | ((first | refine a_regionS ?_ | refine a_ret ?_); simp (maxSteps := 2000000) only [Ty.w, simprocAttr, g1, g5, g6, g7, g8, g9, Bool.not_true, Bool.not_false, wa, wb, wc, wd, we, wf, k1, k2, k3, k4, k5, k6, k7, k8, k9, q0, q1, q2]) | (refine a_cond _ (by (try simp (maxSteps := 2000000) only [Ty.w, simprocAttr, g1, g5, g6, g7, g8, g9, Bool.not_true, Bool.not_false, wa, wb, wc, wd, we, wf, k1, k2, k3, k4, k5, k6, k7, k8, k9, q0, q1, q2]); rfl) (fun hb => ?_) (fun hb => ?_) <;> (try simp only [hb0, decide_eq_true_eq, decide_eq_false_iff_not, simprocAttr] at hb) <;> (try (exfalso; omega))) | (refine hK _ _ ?_; clear hK; try simp only [pst0, simprocAttr]))
                 all_goals rfl
                | true =>
                 simp only [q2, Bool.true_and, Bool.and_true] at hF
                 subst hF
                 repeat' (first | refine a_seq fun K hK => ?_ | ((first | refine a_regionS ?_ | refine a_ret ?_); simp (maxSteps := 2000000) only [Ty.w, simprocAttr, g1, g5, g6, g7, g8, g9, Bool.not_true, Bool.not_false, wa, wb, wc, wd, we, wf, k1, k2, k3, k4, k5, k6, k7, k8, k9, q0, q1, q2]) | (refine a_cond _ (by (try simp (maxSteps := 2000000) only [Ty.w, simprocAttr, g1, g5, g6, g7, g8, g9, Bool.not_true, Bool.not_false, wa, wb, wc, wd, we, wf, k1, k2, k3, k4, k5, k6, k7, k8, k9, q0, q1, q2]); rfl) (fun hb => ?_) (fun hb => ?_) <;> (try simp only [hb0, decide_eq_true_eq, decide_eq_false_iff_not, simprocAttr] at hb) <;> (try (exfalso; omega))) | (refine hK _ _ ?_; clear hK; try simp only [pst0, simprocAttr]))
                 all_goals rfl
             | false =>
              simp only [k9, Bool.true_or, Bool.or_true, Bool.false_or, if_true, Bool.false_eq_true, if_false] at hF
              cases k10 : (op.data.toList == (#[102, 111, 114, 97, 108, 108] : Array UInt8).toList) with
              | true =>
               simp only [k10, Bool.true_or, Bool.or_true, Bool.false_or, if_true, Bool.false_eq_true, if_false] at hF
               cases q0 : (name.data.toList == (#[] : Array UInt8).toList) with
               | false =>
                simp only [q0, Bool.false_and, Bool.and_false] at hF
                subst hF
                repeat' (first | refine a_seq fun K hK => ?_ | ((first | refine a_regionS ?_ | refine a_ret ?_); simp (maxSteps := 2000000) only [Ty.w, simprocAttr, g1, g5, g6, g7, g8, g9, Bool.not_true, Bool.not_false, wa, wb, wc, wd, we, wf, k1, k2, k3, k4, k5, k6, k7, k8, k9, k10, q0]) | (refine a_skip ?_; try simp only [pst0, simprocAttr]) | (refine a_cond _ (by (try simp (maxSteps := 2000000) only [Ty.w, simprocAttr, g1, g5, g6, g7, g8, g9, Bool.not_true, Bool.not_false, wa, wb, wc, wd, we, wf, k1, k2, k3, k4, k5, k6, k7, k8, k9, k10, q0]); rfl) (fun hb => ?_) (fun hb => ?_) <;> (try simp only [hb0, decide_eq_true_eq, decide_eq_false_iff_not, simprocAttr] at hb) <;> (try (exfalso; omega))) | (refine hK _ _ ?_; clear hK; try simp only [pst0, simprocAttr]))
                all_goals rfl
               | true =>
                simp only [q0, Bool.true_and, Bool.and_true] at hF
                cases q1 : (((args.length : Int) + exprs.length) == 0) with
                | false =>
                 simp only [q1, Bool.false_and, Bool.and_false] at hF
                 subst hF
                 repeat' (first | refine a_seq fun K hK => ?_ | ((first | refine a_regionS ?_ | refine a_ret ?_); simp (maxSteps := 2000000) only [Ty.w, simprocAttr, g1, g5, g6, g7, g8, g9, Bool.not_true, Bool.not_false, wa, wb, wc, wd, we, wf, k1, k2, k3, k4, k5, k6, k7, k8, k9, k10, q0, q1]) | (refine a_skip ?_; try simp only [pst0, simprocAttr]) | (refine a_cond _ (by (try simp (maxSteps := 2000000) only [Ty.w, simprocAttr, g1, g5, g6, g7, g8, g9, Bool.not_true, Bool.not_false, wa, wb, wc, wd, we, wf, k1, k2, k3, k4, k5, k6, k7, k8, k9, k10, q0, q1]); rfl) (fun hb => ?_) (fun hb => ?_) <;> (try simp only [hb0, decide_eq_true_eq, decide_eq_false_iff_not, simprocAttr] at hb) <;> (try (exfalso; omega))) | (refine hK _ _ ?_; clear hK; try simp only [pst0, simprocAttr]))
                 all_goals rfl
                | true =>
                 simp only [q1, Bool.true_and, Bool.and_true] at hF
                 cases q2 : ((kids.length : Int) == 1) with
                 | false =>
                  simp only [q2, Bool.false_and, Bool.and_false] at hF
                  subst hF
                  repeat' (first | refine a_seq fun K hK => ?_ | ((first | refine a_regionS ?_ | refine a_ret ?_); simp (maxSteps := 2000000) only [Ty.w, simprocAttr, g1, g5, g6, g7, g8, g9, Bool.not_true, Bool.not_false, wa, wb, wc, wd, we, wf, k1, k2, k3, k4, k5, k6, k7, k8, k9, k10, q0, q1, q2]) | (refine a_skip ?_; try simp only [pst0, simprocAttr]) | (refine a_cond _ (by (try simp (maxSteps := 2000000) only [Ty.w, simprocAttr, g1, g5, g6, g7, g8, g9, Bool.not_true, Bool.not_false, wa, wb, wc, wd, we, wf, k1, k2, k3, k4, k5, k6, k7, k8, k9, k10, q0, q1, q2]); rfl) (fun hb => ?_) (fun hb => ?_) <;> (try simp only [hb0, decide_eq_true_eq, decide_eq_false_iff_not, simprocAttr] at hb) <;> (try (exfalso; omega))) | (refine hK _ _ ?_; clear hK; try simp only [pst0, simprocAttr]))
                  all_goals rfl
                 | true =>
                  simp only [q2, Bool.true_and, Bool.and_true] at hF
                  generalize params.all pmOk = bP at hP hF
                  cases bP with
                  | false =>
                   try simp only [Bool.false_and, Bool.and_false] at hF
                   subst hF
                   have W := And.intro g1 (And.intro g5 (And.intro g6 (And.intro g7 (And.intro g8 (And.intro g9 (And.intro wa (And.intro wb (And.intro wc (And.intro wd (And.intro we (And.intro wf (And.intro k1 (And.intro k2 (And.intro k3 (And.intro k4 (And.intro k5 (And.intro k6 (And.intro k7 (And.intro k8 (And.intro k9 (And.intro k10 (And.intro q0 (And.intro q1 q2)))))))))))))))))))))))
                   repeat' (first | refine a_seq fun K hK => ?_ | (refine a_regionS ?_; simp (maxSteps := 2000000) only [Ty.w, simprocAttr, W, Bool.not_true, Bool.not_false]) | (refine a_skip ?_; try simp only [pst0, simprocAttr]) | (refine a_cond _ (by (try simp (maxSteps := 2000000) only [Ty.w, simprocAttr, W, Bool.not_true, Bool.not_false]); rfl) (fun hb => ?_) (fun hb => ?_) <;> (try simp only [hb0, decide_eq_true_eq, decide_eq_false_iff_not, simprocAttr] at hb) <;> (try (exfalso; omega))) | (refine hK _ _ ?_; clear hK; try simp only [pst0, simprocAttr]))
                   refine owp_useQ (hP _) (by (try simp only [Ty.w, simprocAttr, W, Bool.not_true, Bool.not_false]); try rfl) ?_; simp (maxSteps := 2000000) only [Ty.w, simprocAttr, W, Bool.not_true, Bool.not_false]
                   repeat' (first | (refine a_ret ?_; simp (maxSteps := 2000000) only [Ty.w, simprocAttr, W, Bool.not_true, Bool.not_false]) | (refine hK _ _ ?_; clear hK; try simp only [pst0, simprocAttr]))
                   all_goals rfl
                  | true =>
                   try simp only [Bool.true_and, Bool.and_true] at hF
                   subst hF
                   have W := And.intro g1 (And.intro g5 (And.intro g6 (And.intro g7 (And.intro g8 (And.intro g9 (And.intro wa (And.intro wb (And.intro wc (And.intro wd (And.intro we (And.intro wf (And.intro k1 (And.intro k2 (And.intro k3 (And.intro k4 (And.intro k5 (And.intro k6 (And.intro k7 (And.intro k8 (And.intro k9 (And.intro k10 (And.intro q0 (And.intro q1 q2)))))))))))))))))))))))
                   repeat' (first | refine a_seq fun K hK => ?_ | (refine a_regionS ?_; simp (maxSteps := 2000000) only [Ty.w, simprocAttr, W, Bool.not_true, Bool.not_false]) | (refine a_skip ?_; try simp only [pst0, simprocAttr]) | (refine a_cond _ (by (try simp (maxSteps := 2000000) only [Ty.w, simprocAttr, W, Bool.not_true, Bool.not_false]); rfl) (fun hb => ?_) (fun hb => ?_) <;> (try simp only [hb0, decide_eq_true_eq, decide_eq_false_iff_not, simprocAttr] at hb) <;> (try (exfalso; omega))) | (refine hK _ _ ?_; clear hK; try simp only [pst0, simprocAttr]))
                   refine owp_useQ (hP _) (by (try simp only [Ty.w, simprocAttr, W, Bool.not_true, Bool.not_false]); try rfl) ?_; simp (maxSteps := 2000000) only [Ty.w, simprocAttr, W, Bool.not_true, Bool.not_false]
                   repeat' (first | (refine a_ret ?_; simp (maxSteps := 2000000) only [Ty.w, simprocAttr, W, Bool.not_true, Bool.not_false]) | (refine hK _ _ ?_; clear hK; try simp only [pst0, simprocAttr]))
                   all_goals rfl
              | false =>
               simp only [k10, Bool.true_or, Bool.or_true, Bool.false_or, if_true, Bool.false_eq_true, if_false] at hF
               cases k11 : (op.data.toList == (#[101, 120, 105, 115, 116, 115] : Array UInt8).toList) with
               | true =>
                simp only [k11, Bool.true_or, Bool.or_true, Bool.false_or, if_true, Bool.false_eq_true, if_false] at hF
                cases q0 : (name.data.toList == (#[] : Array UInt8).toList) with
                | false =>
                 simp only [q0, Bool.false_and, Bool.and_false] at hF
                 subst hF
                 repeat' (first | refine a_seq fun K hK => ?_ | ((first | refine a_regionS ?_ | refine a_ret ?_); simp (maxSteps := 2000000) only [Ty.w, simprocAttr, g1, g5, g6, g7, g8, g9, Bool.not_true, Bool.not_false, wa, wb, wc, wd, we, wf, k1, k2, k3, k4, k5, k6, k7, k8, k9, k10, k11, q0]) | (refine a_cond _ (by (try simp (maxSteps := 2000000) only [Ty.w, simprocAttr, g1, g5, g6, g7, g8, g9, Bool.not_true, Bool.not_false, wa, wb, wc, wd, we, wf, k1, k2, k3, k4, k5, k6, k7, k8, k9, k10, k11, q0]); rfl) (fun hb => ?_) (fun hb => ?_) <;> (try simp only [hb0, decide_eq_true_eq, decide_eq_false_iff_not, simprocAttr] at hb) <;> (try (exfalso; omega))) | (refine hK _ _ ?_; clear hK; try simp only [pst0, simprocAttr]))
                 all_goals rfl
                | true =>
                 simp only [q0, Bool.true_and, Bool.and_true] at hF
                 cases q1 : (((args.length : Int) + exprs.length) == 0) with
                 | false =>
                  simp only [q1, Bool.false_and, Bool.and_false] at hF
                  subst hF
                  repeat' (first | refine a_seq fun K hK => ?_ | ((first | refine a_regionS ?_ | refine a_ret ?_); simp (maxSteps := 2000000) only [Ty.w, simprocAttr, g1, g5, g6, g7, g8, g9, Bool.not_true, Bool.not_false, wa, wb, wc, wd, we, wf, k1, k2, k3, k4, k5, k6, k7, k8, k9, k10, k11, q0, q1]) | (refine a_cond _ (by (try simp (maxSteps := 2000000) only [Ty.w, simprocAttr, g1, g5, g6, g7, g8, g9, Bool.not_true, Bool.not_false, wa, wb, wc, wd, we, wf, k1, k2, k3, k4, k5, k6, k7, k8, k9, k10, k11, q0, q1]); rfl) (fun hb => ?_) (fun hb => ?_) <;> (try simp only [hb0, decide_eq_true_eq, decide_eq_false_iff_not, simprocAttr] at hb) <;> (try (exfalso; omega))) | (refine hK _ _ ?_; clear hK; try simp only [pst0, simprocAttr]))
                  all_goals rfl
                 | true =>
                  simp only [q1, Bool.true_and, Bool.and_true] at hF
                  cases q2 : ((kids.length : Int) == 1) with
                  | false =>
                   simp only [q2, Bool.false_and, Bool.and_false] at hF
                   subst hF
                   repeat' (first | refine a_seq fun K hK => ?_ | ((first | refine a_regionS ?_ | refine a_ret ?_); simp (maxSteps := 2000000) only [Ty.w, simprocAttr, g1, g5, g6, g7, g8, g9, Bool.not_true, Bool.not_false, wa, wb, wc, wd, we, wf, k1, k2, k3, k4, k5, k6, k7, k8, k9, k10, k11, q0, q1, q2]) | (refine a_cond _ (by (try simp (maxSteps := 2000000) only [Ty.w, simprocAttr, g1, g5, g6, g7, g8, g9, Bool.not_true, Bool.not_false, wa, wb, wc, wd, we, wf, k1, k2, k3, k4, k5, k6, k7, k8, k9, k10, k11, q0, q1, q2]); rfl) (fun hb => ?_) (fun hb => ?_) <;> (try simp only [hb0, decide_eq_true_eq, decide_eq_false_iff_not, simprocAttr] at hb) <;> (try (exfalso; omega))) | (refine hK _ _ ?_; clear hK; try simp only [pst0, simprocAttr]))
                   all_goals rfl
                  | true =>
                   simp only [q2, Bool.true_and, Bool.and_true] at hF
                   generalize params.all pmOk = bP at hP hF
                   cases bP with
                   | false =>
                    try simp only [Bool.false_and, Bool.and_false] at hF
                    subst hF
                    have W := And.intro g1 (And.intro g5 (And.intro g6 (And.intro g7 (And.intro g8 (And.intro g9 (And.intro wa (And.intro wb (And.intro wc (And.intro wd (And.intro we (And.intro wf (And.intro k1 (And.intro k2 (And.intro k3 (And.intro k4 (And.intro k5 (And.intro k6 (And.intro k7 (And.intro k8 (And.intro k9 (And.intro k10 (And.intro k11 (And.intro q0 (And.intro q1 q2))))))))))))))))))))))))
                    repeat' (first | refine a_seq fun K hK => ?_ | (refine a_regionS ?_; simp (maxSteps := 2000000) only [Ty.w, simprocAttr, W, Bool.not_true, Bool.not_false]) | (refine a_cond _ (by (try simp (maxSteps := 2000000) only [Ty.w, simprocAttr, W, Bool.not_true, Bool.not_false]); rfl) (fun hb => ?_) (fun hb => ?_) <;> (try simp only [hb0, decide_eq_true_eq, decide_eq_false_iff_not, simprocAttr] at hb) <;> (try (exfalso; omega))) | (refine hK _ _ ?_; clear hK; try simp only [pst0, simprocAttr]))
                    refine owp_useQ (hP _) (by (try simp only [Ty.w, simprocAttr, W, Bool.not_true, Bool.not_false]); try rfl) ?_; simp (maxSteps := 2000000) only [Ty.w, simprocAttr, W, Bool.not_true, Bool.not_false]
                    repeat' (first | (refine a_ret ?_; simp (maxSteps := 2000000) only [Ty.w, simprocAttr, W, Bool.not_true, Bool.not_false]) | (refine hK _ _ ?_; clear hK; try simp only [pst0, simprocAttr]))
                    all_goals rfl
                   | true =>
                    try simp only [Bool.true_and, Bool.and_true] at hF
                    subst hF
                    have W := And.intro g1 (And.intro g5 (And.intro g6 (And.intro g7 (And.intro g8 (And.intro g9 (And.intro wa (And.intro wb (And.intro wc (And.intro wd (And.intro we (And.intro wf (And.intro k1 (And.intro k2 (And.intro k3 (And.intro k4 (And.intro k5 (And.intro k6 (And.intro k7 (And.intro k8 (And.intro k9 (And.intro k10 (And.intro k11 (And.intro q0 (And.intro q1 q2))))))))))))))))))))))))
                    repeat' (first | refine a_seq fun K hK => ?_ | (refine a_regionS ?_; simp (maxSteps := 2000000) only [Ty.w, simprocAttr, W, Bool.not_true, Bool.not_false]) | (refine a_cond _ (by (try simp (maxSteps := 2000000) only [Ty.w, simprocAttr, W, Bool.not_true, Bool.not_false]); rfl) (fun hb => ?_) (fun hb => ?_) <;> (try simp only [hb0, decide_eq_true_eq, decide_eq_false_iff_not, simprocAttr] at hb) <;> (try (exfalso; omega))) | (refine hK _ _ ?_; clear hK; try simp only [pst0, simprocAttr]))
                    refine owp_useQ (hP _) (by (try simp only [Ty.w, simprocAttr, W, Bool.not_true, Bool.not_false]); try rfl) ?_; simp (maxSteps := 2000000) only [Ty.w, simprocAttr, W, Bool.not_true, Bool.not_false]
                    repeat' (first | (refine a_ret ?_; simp (maxSteps := 2000000) only [Ty.w, simprocAttr, W, Bool.not_true, Bool.not_false]) | (refine hK _ _ ?_; clear hK; try simp only [pst0, simprocAttr]))
                    all_goals rfl
               | false =>
                simp only [k11, Bool.true_or, Bool.or_true, Bool.false_or, if_true, Bool.false_eq_true, if_false] at hF
                subst hF
                repeat' (first | refine a_seq fun K hK => ?_ | (refine a_block ?_) | ((first | refine a_regionS ?_ | refine a_ret ?_); simp (maxSteps := 2000000) only [Ty.w, simprocAttr, g1, g5, g6, g7, g8, g9, Bool.not_true, Bool.not_false, wa, wb, wc, wd, we, wf, k1, k2, k3, k4, k5, k6, k7, k8, k9, k10, k11]) | (refine a_skip ?_; try simp only [pst0, simprocAttr]) | (refine a_cond _ (by (try simp (maxSteps := 2000000) only [Ty.w, simprocAttr, g1, g5, g6, g7, g8, g9, Bool.not_true, Bool.not_false, wa, wb, wc, wd, we, wf, k1, k2, k3, k4, k5, k6, k7, k8, k9, k10, k11]); rfl) (fun hb => ?_) (fun hb => ?_) <;> (try simp only [hb0, decide_eq_true_eq, decide_eq_false_iff_not, simprocAttr] at hb) <;> (try (exfalso; omega))) | (refine hK _ _ ?_; clear hK; try simp only [pst0, simprocAttr]))
end Go.Proofs.Ytjlkapgpjamnkaa
namespace Go.Proofs.Ytjlkapgpjamnkaa
open Go.AM
set_option maxHeartbeats 4000000
set_option maxRecDepth 20000
theorem rwriteParams_c {l : List Pm} (hl : l.length ≤ 1048576) (h : Heap) : PCall Try.prog 72 [.imm 2 (pmRows l)] h fun r h' => r = .imm 6 (Sx.rows (paramsW l)) ∧ h' = h := by
 refine PCall.frz Ty.hb_72 ?_
 have hll := pmRows_len l
 have hw : ∀ (s : ByteArray) (h : Heap), PCall Try.prog 71 [sPV s] h fun r h' => r = .agg (wordM s).cells ∧ h' = h := fun s h => rwd_c
 simp only [wordM, Sx.cells, Sx.rows] at hw
 refine pcall_body (ow := fun _ => false) (wf := fun _ => false) Ty.mixed Try.func72 rfl Ty.hb_72 (by rw [Try.ntmps72]; simp) ?_
 rw [Try.ntmps72, Try.results72]
 repeat' (first | refine a_seq fun K hK => ?_ | (refine a_block ?_) | (refine a_regionS ?_; simp only [Ty.w, simprocAttr, hll]) | (refine hK _ _ ?_; clear hK; try simp only [pst0, simprocAttr]))
 refine a_loop (fun m S h' => S 0 = .imm 2 (pmRows l) ∧ ∃ (k : Nat) (o : PV), S 4 = .sc (.int .i64 k) ∧ S 3 = o ∧ k ≤ l.length ∧ m = l.length - k ∧ Grow h h' ∧ Tl h' h.next 6 o (Sx.rows (paramsW (l.take k)))) l.length ?_ ?_
 ·simp only [Ty.w, simprocAttr]
  exact ⟨0, _, rfl, rfl, by omega, rfl, Grow.refl _, Tl.nil⟩
 ·rintro m S h' ⟨g0, k, o, g4, g3, hk, rfl, hg, tl⟩
  by_cases hlt : k < l.length
  ·have hd : decide ((k : Int) < (l.length : Int)) = true := by simp; omega
   have w7 : IntKind.i64.wrap ((k : Int) + 1) = k + 1 := by rw [wrap64 (by omega) (by omega)]
   obtain ⟨p, hx⟩ : ∃ p, l[k]? = some p := ⟨_, List.getElem?_eq_getElem hlt⟩
   have hr := pmRows_get hx
   obtain ⟨H, t1, t2, t3, t4, t5⟩ := tl.tail
   have hpr : (Sx.rows (paramsW (l.take k))).length = 3 * k := by rw [Sx.rows_len, paramsW_len, List.length_take]; omega
   have hb : (3 * k + 3) * 72 ≤ 140737488355328 := by omega
   have hR : Sx.rows (paramsW (l.take (k + 1))) = Sx.rows (paramsW (l.take k)) ++ [[.sc (.int .i64 1), .sc (.int .i64 0), .sc (.int .i64 0), .sc (.int .i64 0), sPV p.name, .imm 6 []], [.sc (.int .i64 1), .sc (.int .i64 0), .sc (.int .i64 0), .sc (.int .i64 0), sPV ⟨#[45]⟩, .imm 6 []], [.sc (.int .i64 1), .sc (.int .i64 0), .sc (.int .i64 0), .sc (.int .i64 0), sPV p.type, .imm 6 []]] := by
    rw [List.take_add_one, hx, paramsW_append]
    simp only [Sx.rows_map, List.map_append, Option.toList_some, paramsW, List.map_cons, List.map_nil, wordM, Sx.cells]
   generalize Sx.rows (paramsW (l.take k)) = R at tl t1 t2 hpr hR
   have W := And.intro g0 (And.intro g4 (And.intro g3 (And.intro hr (And.intro w7 (And.intro t1 (And.intro t2 (And.intro hpr hb)))))))
   repeat' (first | refine a_seq fun K hK => ?_ | (refine a_block ?_) | ((first | refine a_regionS ?_ | refine a_draw (by decide +kernel) (fun K hK => ?_)); simp only [Ty.w, simprocAttr, W, hd, hll]) | (refine a_skip ?_; try simp only [pst0, simprocAttr]) | (refine a_cond _ (by (try simp only [Ty.w, simprocAttr, W, hd, hll]); rfl) (fun hb => ?_) (fun hb => ?_) <;> (try simp only [hb0, decide_eq_true_eq, decide_eq_false_iff_not, simprocAttr] at hb) <;> (try (exfalso; omega))) | (refine hK _ _ ?_; clear hK; try simp only [pst0, simprocAttr]))
   (first | refine a_dcall0 (hw p.name _) (by (try simp only [Ty.w, simprocAttr, W]); try rfl) ?_ | refine a_dcallA (hw p.name _) (by (try simp only [Ty.w, simprocAttr, W]); try rfl) (by simp only [Ty.w, simprocAttr, W]; try trivial) ?_); simp only [Ty.w, simprocAttr, W, Option.getD_some]
   skip
   (first | refine a_dcall0 (hw ⟨#[45]⟩ _) (by (try simp only [Ty.w, simprocAttr, W]); try rfl) ?_ | refine a_dcallA (hw ⟨#[45]⟩ _) (by (try simp only [Ty.w, simprocAttr, W]); try rfl) (by simp only [Ty.w, simprocAttr, W]; try trivial) ?_); simp only [Ty.w, simprocAttr, W, Option.getD_some]
   skip
   (first | refine a_dcall0 (hw p.type _) (by (try simp only [Ty.w, simprocAttr, W]); try rfl) ?_ | refine a_dcallA (hw p.type _) (by (try simp only [Ty.w, simprocAttr, W]); try rfl) (by simp only [Ty.w, simprocAttr, W]; try trivial) ?_); simp only [Ty.w, simprocAttr, W, Option.getD_some]
   repeat' (first | (refine a_regionS ?_; simp only [Ty.w, simprocAttr, W]) | (refine hK _ _ ?_; clear hK; try simp only [pst0, simprocAttr]) | (with_reducible refine a_past2 (by simp only [List.forall_mem_cons, Ty.w, simprocAttr, g0, g4, g3, hr, w7, t1, t2, hpr, hb]; (repeat' apply And.intro) <;> first | trivial | exact .inl (by decide +kernel)) ?_; try simp only [Ty.w, simprocAttr, W]) | (rw [if_pos]; rotate_left 1; omega; simp only [Ty.w, simprocAttr, W]))
   have hkp := t5 h ⟨hg.le, hg.old⟩ (Nat.le_refl _)
   have hgH : Grow h H := ⟨hkp.1, hkp.2⟩
   rw [← hR]
   have hRl : 3 * k + 3 = (Sx.rows (paramsW (l.take (k + 1)))).length := by rw [Sx.rows_len, paramsW_len, List.length_take]; omega
   exact ⟨l.length - (k + 1), by omega, k + 1, .own H.next 0 (3 * k + 3), by simp, by first | rfl | rw [t3], by omega, rfl, hgH.new _, Tl.grow hkp.1 hRl⟩
  ·have hd : decide ((k : Int) < (l.length : Int)) = false := by simp; omega
   have hke : k = l.length := by omega
   subst hke
   rw [List.take_length] at tl
   repeat' (first | refine a_seq fun K hK => ?_ | ((first | refine a_regionS ?_ | refine a_ret ?_); simp only [Ty.w, simprocAttr, g0, g4, g3, hd, hll]) | (refine a_exit ?_; try simp only [pst0, simprocAttr]) | (refine a_cond _ (by (try simp only [Ty.w, simprocAttr, g0, g4, g3, hd, hll]); rfl) (fun hb => ?_) (fun hb => ?_) <;> (try simp only [hb0, decide_eq_true_eq, decide_eq_false_iff_not, simprocAttr] at hb) <;> (try (exfalso; omega))) | ((first | refine hK _ _ ?_ | (clear hK; refine hK _ _ ?_)); clear hK; try simp only [pst0, simprocAttr]))
   exact ⟨tl_frzX tl, hg⟩
theorem rwriteF_c : ∀ f : Fm, f.small → shapedF f = true → ∀ h : Heap, PCall Try.prog 31 [.agg f.cells] h fun r h' => r = .agg (fmW f).cells ∧ h' = h := by
 refine Fm.ind ?_
 intro op name args params exprs kids ih hsm hsh h
 simp only [Fm.small] at hsm
 obtain ⟨hal, hpl, hes, hkl, hks⟩ := hsm
 rw [Ex.smalls_iff] at hes
 rw [Fm.smalls_iff] at hks
 simp only [shapedF, Bool.and_eq_true] at hsh
 obtain ⟨⟨hpo, hse⟩, hsk⟩ := hsh
 rw [shapedFs_iff] at hsk
 rw [List.all_eq_true] at hse
 have hlK := Fm.rows_len kids
 unfold fmW
 refine PCall.frz Ty.hb_31 ?_
 cases k1 : (op.data.toList == (#[97, 116, 111, 109] : Array UInt8).toList) with
 | true =>
  rw [if_pos (show bEq op opAtom = true from k1)]
  have hw : ∀ h : Heap, PCall Try.prog 70 [sPV name, .imm 1 (strRows args)] h fun r h' => r = .agg (wordsM name args).cells ∧ h' = h := fun h => rlist_c hal
  have hfz := fun (n : Nat) (h : Heap) => sx_frz n h (wordsM name args)
  simp only [Fm.cells]
  generalize wordsM name args = X at hw hfz ⊢
  obtain ⟨ki, va, li, co, te, ks⟩ := X
  simp only [Sx.cells] at hw hfz ⊢
  refine pcall_body (ow := fun _ => false) (wf := fun _ => false) Ty.mixed Try.func31 rfl Ty.hb_31 (by rw [Try.ntmps31]; simp) ?_
  rw [Try.ntmps31, Try.results31]
  repeat' (first | refine a_seq fun K hK => ?_ | (refine a_regionS ?_; simp only [Ty.w, simprocAttr, k1]) | (refine hK _ _ ?_; clear hK; try simp only [pst0, simprocAttr]))
  refine owp_useQ (hw _) (by (try simp only [Ty.w, simprocAttr, k1]); try rfl) ?_; simp only [Ty.w, simprocAttr, k1]
  repeat' (first | (refine a_ret ?_; simp only [Ty.w, simprocAttr]) | (refine hK _ _ ?_; clear hK; try simp only [pst0, simprocAttr]))
  refine ⟨?_, ((Grow.refl h).new _).set (Nat.le_refl _) _⟩
  simp only [FrzTo]
  exact ⟨_, rfl, hfz _ _⟩
 | false =>
  cases k2 : (op.data.toList == (#[115, 97, 109, 101] : Array UInt8).toList) with
  | true =>
   rw [if_neg (by rw [(show bEq op opAtom = false from k1)]; simp)]
   rw [if_pos (show bEq op opSame = true from k2)]
   have hw : ∀ h : Heap, PCall Try.prog 70 [sPV ⟨#[61]⟩, .imm 1 (strRows args)] h fun r h' => r = .agg (wordsM opEq args).cells ∧ h' = h := fun h => rlist_c hal
   have hfz := fun (n : Nat) (h : Heap) => sx_frz n h (wordsM opEq args)
   simp only [Fm.cells]
   generalize wordsM opEq args = X at hw hfz ⊢
   obtain ⟨ki, va, li, co, te, ks⟩ := X
   simp only [Sx.cells] at hw hfz ⊢
   refine pcall_body (ow := fun _ => false) (wf := fun _ => false) Ty.mixed Try.func31 rfl Ty.hb_31 (by rw [Try.ntmps31]; simp) ?_
   rw [Try.ntmps31, Try.results31]
   repeat' (first | refine a_seq fun K hK => ?_ | (refine a_regionS ?_; simp only [Ty.w, simprocAttr, k1, k2]) | (refine hK _ _ ?_; clear hK; try simp only [pst0, simprocAttr]))
   refine owp_useQ (hw _) (by (try simp only [Ty.w, simprocAttr, k1, k2]); try rfl) ?_; simp only [Ty.w, simprocAttr, k1, k2]
   repeat' (first | (refine a_ret ?_; simp only [Ty.w, simprocAttr]) | (refine hK _ _ ?_; clear hK; try simp only [pst0, simprocAttr]))
   refine ⟨?_, ((Grow.refl h).new _).set (Nat.le_refl _) _⟩
   simp only [FrzTo]
   exact ⟨_, rfl, hfz _ _⟩
  | false =>
   rw [if_neg (by rw [(show bEq op opAtom = false from k1)]; simp), if_neg (by rw [(show bEq op opSame = false from k2)]; simp)]
   cases k3 : (op.data.toList == (#[60] : Array UInt8).toList) with
   | true =>
    rw [if_pos (by simp [isCmp, (show bEq op opAtom = false from k1), (show bEq op opSame = false from k2), (show bEq op opLt = true from k3)])]
    have hx2 : exprs.length = 2 := by have q := hpo; simp [partsOk, shapeOf, (show bEq op opAtom = false from k1), (show bEq op opSame = false from k2), (show bEq op opLt = true from k3)] at q; omega
    obtain ⟨a, b, rfl⟩ : ∃ a b, exprs = [a, b] := by
     match exprs, hx2 with
     | [a, b], _ => exact ⟨a, b, rfl⟩
    have ca := rwriteE_c a (hes a (by simp)) (hse a (by simp))
    have cb := rwriteE_c b (hes b (by simp)) (hse b (by simp))
    have hw := fun h : Heap => rwd_c (h := h) (s := op)
    simp only [List.map_cons, List.map_nil]
    have hfz := fun (n : Nat) (h : Heap) => sx_frz n h (listM [wordM op, exW a, exW b])
    generalize exW a = xa at ca hfz ⊢
    generalize exW b = xb at cb hfz ⊢
    clear ih hks hpo hse hsk hes
    obtain ⟨aop, aname, an, aargs, akids⟩ := a
    obtain ⟨bop, bname, bn, bargs, bkids⟩ := b
    obtain ⟨ki, va, li, co, te, ks⟩ := xa
    obtain ⟨ki2, va2, li2, co2, te2, ks2⟩ := xb
    simp only [Fm.cells, Ex.cells, Ex.rows, listM, Sx.cells, Sx.rows, wordM] at ca cb hw hfz ⊢
    refine pcall_body (ow := fun _ => false) (wf := fun _ => false) Ty.mixed Try.func31 rfl Ty.hb_31 (by rw [Try.ntmps31]; simp) ?_
    rw [Try.ntmps31, Try.results31]
    repeat' (first | refine a_seq fun K hK => ?_ | ((first | refine a_regionS ?_ | refine a_drawS (by decide +kernel) ?_); simp only [Ty.w, simprocAttr, k1, k2, k3]) | (refine a_skip ?_; try simp only [pst0, simprocAttr]) | (refine a_cond _ (by (try simp only [Ty.w, simprocAttr, k1, k2, k3]); rfl) (fun hb => ?_) (fun hb => ?_) <;> (try simp only [hb0, decide_eq_true_eq, decide_eq_false_iff_not, simprocAttr] at hb) <;> (try (exfalso; omega))) | (refine hK _ _ ?_; clear hK; try simp only [pst0, simprocAttr]))
    (first | refine a_dcall0 (hw _) (by (try simp only [Ty.w, simprocAttr, ]); try rfl) ?_ | refine a_dcallA (hw _) (by (try simp only [Ty.w, simprocAttr, ]); try rfl) (by simp only [Ty.w, simprocAttr, ]; try trivial) ?_); simp only [Ty.w, simprocAttr, Option.getD_some, ]
    skip
    (first | refine a_dcall0 (ca _) (by (try simp only [Ty.w, simprocAttr, ]); try rfl) ?_ | refine a_dcallA (ca _) (by (try simp only [Ty.w, simprocAttr, ]); try rfl) (by simp only [Ty.w, simprocAttr, ]; try trivial) ?_); simp only [Ty.w, simprocAttr, Option.getD_some, ]
    skip
    (first | refine a_dcall0 (cb _) (by (try simp only [Ty.w, simprocAttr, ]); try rfl) ?_ | refine a_dcallA (cb _) (by (try simp only [Ty.w, simprocAttr, ]); try rfl) (by simp only [Ty.w, simprocAttr, ]; try trivial) ?_); simp only [Ty.w, simprocAttr, Option.getD_some, ]
    repeat' (first | (refine a_ret ?_; simp only [Ty.w, simprocAttr]) | (refine hK _ _ ?_; clear hK; try simp only [pst0, simprocAttr]) | (with_reducible refine a_past2 (by simp only [List.forall_mem_cons, Ty.w, simprocAttr]; (repeat' apply And.intro) <;> first | trivial | exact .inl (by decide +kernel)) ?_; try simp only [Ty.w, simprocAttr]))
    refine ⟨?_, ((Grow.refl h).new _).set (Nat.le_refl _) _⟩
    simp only [FrzTo]
    exact ⟨_, rfl, hfz _ _⟩
   | false =>
    cases k4 : (op.data.toList == (#[60, 61] : Array UInt8).toList) with
    | true =>
     rw [if_pos (by simp [isCmp, (show bEq op opAtom = false from k1), (show bEq op opSame = false from k2), (show bEq op opLt = false from k3), (show bEq op opLe = true from k4)])]
     have hx2 : exprs.length = 2 := by have q := hpo; simp [partsOk, shapeOf, (show bEq op opAtom = false from k1), (show bEq op opSame = false from k2), (show bEq op opLt = false from k3), (show bEq op opLe = true from k4)] at q; omega
     obtain ⟨a, b, rfl⟩ : ∃ a b, exprs = [a, b] := by
      match exprs, hx2 with
      | [a, b], _ => exact ⟨a, b, rfl⟩
     have ca := rwriteE_c a (hes a (by simp)) (hse a (by simp))
     have cb := rwriteE_c b (hes b (by simp)) (hse b (by simp))
     have hw := fun h : Heap => rwd_c (h := h) (s := op)
     simp only [List.map_cons, List.map_nil]
     have hfz := fun (n : Nat) (h : Heap) => sx_frz n h (listM [wordM op, exW a, exW b])
     generalize exW a = xa at ca hfz ⊢
     generalize exW b = xb at cb hfz ⊢
     clear ih hks hpo hse hsk hes
     obtain ⟨aop, aname, an, aargs, akids⟩ := a
     obtain ⟨bop, bname, bn, bargs, bkids⟩ := b
     obtain ⟨ki, va, li, co, te, ks⟩ := xa
     obtain ⟨ki2, va2, li2, co2, te2, ks2⟩ := xb
     simp only [Fm.cells, Ex.cells, Ex.rows, listM, Sx.cells, Sx.rows, wordM] at ca cb hw hfz ⊢
     refine pcall_body (ow := fun _ => false) (wf := fun _ => false) Ty.mixed Try.func31 rfl Ty.hb_31 (by rw [Try.ntmps31]; simp) ?_
     rw [Try.ntmps31, Try.results31]
     repeat' (first | refine a_seq fun K hK => ?_ | ((first | refine a_regionS ?_ | refine a_drawS (by decide +kernel) ?_); simp only [Ty.w, simprocAttr, k1, k2, k3, k4]) | (refine a_skip ?_; try simp only [pst0, simprocAttr]) | (refine a_cond _ (by (try simp only [Ty.w, simprocAttr, k1, k2, k3, k4]); rfl) (fun hb => ?_) (fun hb => ?_) <;> (try simp only [hb0, decide_eq_true_eq, decide_eq_false_iff_not, simprocAttr] at hb) <;> (try (exfalso; omega))) | (refine hK _ _ ?_; clear hK; try simp only [pst0, simprocAttr]))
     (first | refine a_dcall0 (hw _) (by (try simp only [Ty.w, simprocAttr, ]); try rfl) ?_ | refine a_dcallA (hw _) (by (try simp only [Ty.w, simprocAttr, ]); try rfl) (by simp only [Ty.w, simprocAttr, ]; try trivial) ?_); simp only [Ty.w, simprocAttr, Option.getD_some, ]
     skip
     (first | refine a_dcall0 (ca _) (by (try simp only [Ty.w, simprocAttr, ]); try rfl) ?_ | refine a_dcallA (ca _) (by (try simp only [Ty.w, simprocAttr, ]); try rfl) (by simp only [Ty.w, simprocAttr, ]; try trivial) ?_); simp only [Ty.w, simprocAttr, Option.getD_some, ]
     skip
     (first | refine a_dcall0 (cb _) (by (try simp only [Ty.w, simprocAttr, ]); try rfl) ?_ | refine a_dcallA (cb _) (by (try simp only [Ty.w, simprocAttr, ]); try rfl) (by simp only [Ty.w, simprocAttr, ]; try trivial) ?_); simp only [Ty.w, simprocAttr, Option.getD_some, ]
     repeat' (first | (refine a_ret ?_; simp only [Ty.w, simprocAttr]) | (refine hK _ _ ?_; clear hK; try simp only [pst0, simprocAttr]) | (with_reducible refine a_past2 (by simp only [List.forall_mem_cons, Ty.w, simprocAttr]; (repeat' apply And.intro) <;> first | trivial | exact .inl (by decide +kernel)) ?_; try simp only [Ty.w, simprocAttr]))
     refine ⟨?_, ((Grow.refl h).new _).set (Nat.le_refl _) _⟩
     simp only [FrzTo]
     exact ⟨_, rfl, hfz _ _⟩
    | false =>
     cases k5 : (op.data.toList == (#[61] : Array UInt8).toList) with
     | true =>
      rw [if_pos (by simp [isCmp, (show bEq op opAtom = false from k1), (show bEq op opSame = false from k2), (show bEq op opLt = false from k3), (show bEq op opLe = false from k4), (show bEq op opEq = true from k5)])]
      have hx2 : exprs.length = 2 := by have q := hpo; simp [partsOk, shapeOf, (show bEq op opAtom = false from k1), (show bEq op opSame = false from k2), (show bEq op opLt = false from k3), (show bEq op opLe = false from k4), (show bEq op opEq = true from k5)] at q; omega
      obtain ⟨a, b, rfl⟩ : ∃ a b, exprs = [a, b] := by
       match exprs, hx2 with
       | [a, b], _ => exact ⟨a, b, rfl⟩
      have ca := rwriteE_c a (hes a (by simp)) (hse a (by simp))
      have cb := rwriteE_c b (hes b (by simp)) (hse b (by simp))
      have hw := fun h : Heap => rwd_c (h := h) (s := op)
      simp only [List.map_cons, List.map_nil]
      have hfz := fun (n : Nat) (h : Heap) => sx_frz n h (listM [wordM op, exW a, exW b])
      generalize exW a = xa at ca hfz ⊢
      generalize exW b = xb at cb hfz ⊢
      clear ih hks hpo hse hsk hes
      obtain ⟨aop, aname, an, aargs, akids⟩ := a
      obtain ⟨bop, bname, bn, bargs, bkids⟩ := b
      obtain ⟨ki, va, li, co, te, ks⟩ := xa
      obtain ⟨ki2, va2, li2, co2, te2, ks2⟩ := xb
      simp only [Fm.cells, Ex.cells, Ex.rows, listM, Sx.cells, Sx.rows, wordM] at ca cb hw hfz ⊢
      refine pcall_body (ow := fun _ => false) (wf := fun _ => false) Ty.mixed Try.func31 rfl Ty.hb_31 (by rw [Try.ntmps31]; simp) ?_
      rw [Try.ntmps31, Try.results31]
      repeat' (first | refine a_seq fun K hK => ?_ | ((first | refine a_regionS ?_ | refine a_drawS (by decide +kernel) ?_); simp only [Ty.w, simprocAttr, k1, k2, k3, k4, k5]) | (refine a_cond _ (by (try simp only [Ty.w, simprocAttr, k1, k2, k3, k4, k5]); rfl) (fun hb => ?_) (fun hb => ?_) <;> (try simp only [hb0, decide_eq_true_eq, decide_eq_false_iff_not, simprocAttr] at hb) <;> (try (exfalso; omega))) | (refine hK _ _ ?_; clear hK; try simp only [pst0, simprocAttr]))
      (first | refine a_dcall0 (hw _) (by (try simp only [Ty.w, simprocAttr, ]); try rfl) ?_ | refine a_dcallA (hw _) (by (try simp only [Ty.w, simprocAttr, ]); try rfl) (by simp only [Ty.w, simprocAttr, ]; try trivial) ?_); simp only [Ty.w, simprocAttr, Option.getD_some, ]
      skip
      (first | refine a_dcall0 (ca _) (by (try simp only [Ty.w, simprocAttr, ]); try rfl) ?_ | refine a_dcallA (ca _) (by (try simp only [Ty.w, simprocAttr, ]); try rfl) (by simp only [Ty.w, simprocAttr, ]; try trivial) ?_); simp only [Ty.w, simprocAttr, Option.getD_some, ]
      skip
      (first | refine a_dcall0 (cb _) (by (try simp only [Ty.w, simprocAttr, ]); try rfl) ?_ | refine a_dcallA (cb _) (by (try simp only [Ty.w, simprocAttr, ]); try rfl) (by simp only [Ty.w, simprocAttr, ]; try trivial) ?_); simp only [Ty.w, simprocAttr, Option.getD_some, ]
      repeat' (first | (refine a_ret ?_; simp only [Ty.w, simprocAttr]) | (refine hK _ _ ?_; clear hK; try simp only [pst0, simprocAttr]) | (with_reducible refine a_past2 (by simp only [List.forall_mem_cons, Ty.w, simprocAttr]; (repeat' apply And.intro) <;> first | trivial | exact .inl (by decide +kernel)) ?_; try simp only [Ty.w, simprocAttr]))
      refine ⟨?_, ((Grow.refl h).new _).set (Nat.le_refl _) _⟩
      simp only [FrzTo]
      exact ⟨_, rfl, hfz _ _⟩
     | false =>
      rw [if_neg (by simp [isCmp, (show bEq op opLt = false from k3), (show bEq op opLe = false from k4), (show bEq op opEq = false from k5)])]
      clear hse hes hpo
      have n6 : bEq op opAnd = (op.data.toList == (#[97, 110, 100] : Array UInt8).toList) := rfl
      by_cases hz : (bEq op opAnd && kids.isEmpty) = true
      ·have hz2 := hz
       rw [Bool.and_eq_true] at hz2
       have k6 : (op.data.toList == (#[97, 110, 100] : Array UInt8).toList) = true := hz2.1
       have hk0 : kids = [] := List.isEmpty_iff.1 hz2.2
       have hq : isQ op = false := by rw [bEq_eq hz2.1]; try rfl
       subst hk0
       rw [if_pos hz, hq]
       simp only [Bool.false_eq_true, if_false, fmWs, List.append_nil, Fm.cells, Fm.rows]
       refine pcall_body (ow := fun _ => false) (wf := fun _ => false) Ty.mixed Try.func31 rfl Ty.hb_31 (by rw [Try.ntmps31]; simp) ?_
       rw [Try.ntmps31, Try.results31]
       repeat' (first | refine a_seq fun K hK => ?_ | (refine a_block ?_) | ((first | refine a_regionS ?_ | refine a_ret ?_); simp only [Ty.w, simprocAttr, k1, k2, k3, k4, k5, k6]) | (refine a_skip ?_; try simp only [pst0, simprocAttr]) | (refine a_cond _ (by (try simp only [Ty.w, simprocAttr, k1, k2, k3, k4, k5, k6]); rfl) (fun hb => ?_) (fun hb => ?_) <;> (try simp only [hb0, decide_eq_true_eq, decide_eq_false_iff_not, simprocAttr] at hb) <;> (try (exfalso; omega))) | (refine hK _ _ ?_; clear hK; try simp only [pst0, simprocAttr]))
       refine ⟨?_, ((Grow.refl h).new _).set (Nat.le_refl _) _⟩
       simp only [listM, Sx.cells, Sx.rows, FrzTo, FrzL]
       exact ⟨_, rfl, rfl, rfl, rfl, rfl, rfl, .inr (.inl ⟨rfl, .inr rfl⟩), trivial⟩
      ·rw [if_neg hz]
       have hw : ∀ (s : ByteArray) (h : Heap), PCall Try.prog 71 [sPV s] h fun r h' => r = .agg (wordM s).cells ∧ h' = h := fun s h => rwd_c
       simp only [wordM, Sx.cells, Sx.rows] at hw
       simp only [Fm.cells]
       refine pcall_body (ow := fun t => t == 51) (wf := fun _ => false) Ty.mixed Try.func31 rfl Ty.hb_31 (by rw [Try.ntmps31]; simp) ?_
       rw [Try.ntmps31, Try.results31]
       repeat' (first | (with_reducible refine a_hold 10 ?_) | refine a_seq fun K hK => ?_ | (refine a_block ?_) | (refine a_regionS ?_; simp only [Ty.w, simprocAttr, k1, k2, k3, k4, k5]) | (refine a_skip ?_; try simp only [pst0, simprocAttr]) | (refine a_cond _ (by (try simp only [Ty.w, simprocAttr, k1, k2, k3, k4, k5]); rfl) (fun hb => ?_) (fun hb => ?_) <;> (try simp only [hb0, decide_eq_true_eq, decide_eq_false_iff_not, simprocAttr] at hb) <;> (try (exfalso; omega))) | (refine hK _ _ ?_; clear hK; try simp only [pst0, simprocAttr]))
       refine ⟨?_⟩
       refine a_cut (fun S h' => S 1 = .cptr (Fm.mk op name args params exprs kids).cells ∧ S 2 = .ptr h.next 0 0 ∧ h' = h.new (.arr 6 [[.sc (.int .i64 0), .sc (.int .i64 0), .sc (.int .i64 0), .sc (.int .i64 0), .sc (.string ⟨#[]⟩), .sc (.slice none 0 0)]])) ?_ ?_
       ·cases k6 : (op.data.toList == (#[97, 110, 100] : Array UInt8).toList) with
        | false =>
         repeat' (first | refine a_seq fun K hK => ?_ | (refine a_regionS ?_; simp only [Ty.w, simprocAttr, k6]) | (refine a_skip ?_; try simp only [pst0, simprocAttr]) | (refine a_cond _ (by (try simp only [Ty.w, simprocAttr, k6]); rfl) (fun hb => ?_) (fun hb => ?_) <;> (try simp only [hb0, decide_eq_true_eq, decide_eq_false_iff_not, simprocAttr] at hb) <;> (try (exfalso; omega))) | (refine hK _ _ ?_; clear hK; try simp only [pst0, simprocAttr]))
         all_goals first | rfl | trivial | ((try refine ⟨?_, ?_, ?_⟩) <;> first | rfl | trivial) | ((try refine ⟨?_, ?_⟩) <;> first | rfl | trivial)
        | true =>
         have hk0 : ((kids.length : Int) == 0) = false := by
          cases kids with
          | nil => exact absurd (by rw [n6, k6]; try rfl) hz
          | cons a l => simp; omega
         repeat' (first | refine a_seq fun K hK => ?_ | (refine a_regionS ?_; simp only [Ty.w, simprocAttr, k6, hk0, hlK]) | (refine a_skip ?_; try simp only [pst0, simprocAttr]) | (refine a_cond _ (by (try simp only [Ty.w, simprocAttr, k6, hk0, hlK]); rfl) (fun hb => ?_) (fun hb => ?_) <;> (try simp only [hb0, decide_eq_true_eq, decide_eq_false_iff_not, simprocAttr] at hb) <;> (try (exfalso; omega))) | (refine hK _ _ ?_; clear hK; try simp only [pst0, simprocAttr]))
         all_goals first | rfl | trivial | ((try refine ⟨?_, ?_, ?_⟩) <;> first | rfl | trivial) | ((try refine ⟨?_, ?_⟩) <;> first | rfl | trivial)
       ·rintro S h' ⟨g1, g2, rfl⟩
        simp only [Fm.cells] at g1
        repeat' (first | refine a_seq fun K hK => ?_ | (refine a_regionS ?_; simp only [Ty.w, simprocAttr, g1, g2]))
        refine owp_useQ (hw op _) (by (try simp only [Ty.w, simprocAttr, g1, g2]); try rfl) ?_; simp only [Ty.w, simprocAttr, g1, g2]
        repeat' (first | (with_reducible refine a_hold 13 ?_) | (refine hK _ _ ?_; clear hK; try simp only [pst0, simprocAttr]))
        refine ⟨?_⟩
        refine a_cut (fun S h' => S 1 = .cptr (Fm.mk op name args params exprs kids).cells ∧ S 2 = .ptr h.next 0 0 ∧ ∃ id, S 3 = .own id 0 (wordM op :: (if isQ op = true then [listM (paramsW params)] else [])).length ∧ Grow h h' ∧ h.next < id ∧ id < h'.next ∧ h'.obj h.next = some (.arr 6 [[.sc (.int .i64 0), .sc (.int .i64 0), .sc (.int .i64 0), .sc (.int .i64 0), .sc (.string ⟨#[]⟩), .sc (.slice none 0 0)]]) ∧ h'.obj id = some (.arr 6 (Sx.rows (wordM op :: (if isQ op = true then [listM (paramsW params)] else []))))) ?_ ?_
        ·have n7 : bEq op opAll = (op.data.toList == (#[102, 111, 114, 97, 108, 108] : Array UInt8).toList) := rfl
         have n8 : bEq op opSome = (op.data.toList == (#[101, 120, 105, 115, 116, 115] : Array UInt8).toList) := rfl
         cases k7 : (op.data.toList == (#[102, 111, 114, 97, 108, 108] : Array UInt8).toList) with
         | true =>
          rw [if_pos (by simp [isQ, n7, n8, k7])]
          have hwp := rwriteParams_c (l := params) hpl
          simp only [listM, wordM, Sx.rows, Sx.cells, List.length_cons, List.length_nil]
          generalize Sx.rows (paramsW params) = PR at hwp ⊢
          repeat' (first | refine a_seq fun K hK => ?_ | (refine a_regionS ?_; simp only [Ty.w, simprocAttr, g1, g2, k7, nsucc, Nat.add_eq_left, Nat.one_ne_zero]) | (refine a_cond _ (by (try simp only [Ty.w, simprocAttr, g1, g2, k7, nsucc, Nat.add_eq_left, Nat.one_ne_zero]); rfl) (fun hb => ?_) (fun hb => ?_) <;> (try simp only [hb0, decide_eq_true_eq, decide_eq_false_iff_not, simprocAttr] at hb) <;> (try (exfalso; omega))) | (refine hK _ _ ?_; clear hK; try simp only [pst0, simprocAttr]))
          refine owp_useQ (hwp _) (by (try simp only [Ty.w, simprocAttr, g1, g2, k7]); try rfl) ?_; simp only [Ty.w, simprocAttr, g1, g2, k7]
          skip
          refine ⟨rfl, h.next + 1 + 1, ?_, ((((Grow.refl h).new _).new _).kill (Nat.le_succ _)).new _, by omega, by simp [Heap.new, Heap.kill], ?_, ?_⟩
          all_goals first | rfl | (simp [Heap.new, Heap.kill]; done) | (simp [Heap.new, Heap.kill]; omega)
         | false =>
          cases k8 : (op.data.toList == (#[101, 120, 105, 115, 116, 115] : Array UInt8).toList) with
          | true =>
           rw [if_pos (by simp [isQ, n7, n8, k7, k8])]
           have hwp := rwriteParams_c (l := params) hpl
           simp only [listM, wordM, Sx.rows, Sx.cells, List.length_cons, List.length_nil]
           generalize Sx.rows (paramsW params) = PR at hwp ⊢
           repeat' (first | refine a_seq fun K hK => ?_ | (refine a_regionS ?_; simp only [Ty.w, simprocAttr, g1, g2, k7, k8, nsucc, Nat.add_eq_left, Nat.one_ne_zero]) | (refine a_cond _ (by (try simp only [Ty.w, simprocAttr, g1, g2, k7, k8, nsucc, Nat.add_eq_left, Nat.one_ne_zero]); rfl) (fun hb => ?_) (fun hb => ?_) <;> (try simp only [hb0, decide_eq_true_eq, decide_eq_false_iff_not, simprocAttr] at hb) <;> (try (exfalso; omega))) | (refine hK _ _ ?_; clear hK; try simp only [pst0, simprocAttr]))
           refine owp_useQ (hwp _) (by (try simp only [Ty.w, simprocAttr, g1, g2, k7, k8]); try rfl) ?_; simp only [Ty.w, simprocAttr, g1, g2, k7, k8]
           skip
           refine ⟨rfl, h.next + 1 + 1, ?_, ((((Grow.refl h).new _).new _).kill (Nat.le_succ _)).new _, by omega, by simp [Heap.new, Heap.kill], ?_, ?_⟩
           all_goals first | rfl | (simp [Heap.new, Heap.kill]; done) | (simp [Heap.new, Heap.kill]; omega)
          | false =>
           rw [if_neg (by simp [isQ, n7, n8, k7, k8])]
           simp only [wordM, Sx.rows, Sx.cells, List.length_cons, List.length_nil]
           repeat' (first | refine a_seq fun K hK => ?_ | (refine a_regionS ?_; simp only [Ty.w, simprocAttr, g1, g2, k7, k8]) | (refine a_skip ?_; try simp only [pst0, simprocAttr]) | (refine a_cond _ (by (try simp only [Ty.w, simprocAttr, g1, g2, k7, k8]); rfl) (fun hb => ?_) (fun hb => ?_) <;> (try simp only [hb0, decide_eq_true_eq, decide_eq_false_iff_not, simprocAttr] at hb) <;> (try (exfalso; omega))) | (refine hK _ _ ?_; clear hK; try simp only [pst0, simprocAttr]))
           (try simp only [Ty.w, simprocAttr, Ty.all, g1, g2])
           refine ⟨rfl, h.next + 1, ?_, ((Grow.refl h).new _).new _, by omega, by simp [Heap.new], ?_, ?_⟩
           all_goals first | rfl | simp [Heap.new]
        ·clear g1 g2 S
         obtain ⟨L1, hL1, hl1⟩ : ∃ L1 : List Sx, (wordM op :: (if isQ op = true then [listM (paramsW params)] else [])) = L1 ∧ L1.length ≤ 2 := ⟨_, rfl, by split <;> simp⟩
         have hfin : [wordM op] ++ (if isQ op = true then [listM (paramsW params)] else []) ++ fmWs kids = L1 ++ kids.map fmW := by rw [← hL1, fmWs_map]; try rfl
         rw [hfin, hL1]
         clear hL1 hfin
         rintro S h' ⟨g1, g2, id, g3, hg, hlo, hhi, o1, o2⟩
         simp only [Fm.cells] at g1
         have hrl : ∀ k, (L1 ++ (kids.take k).map fmW).length ≤ 1048578 := fun k => by simp; omega
         repeat' (first | refine a_seq fun K hK => ?_ | (refine a_block ?_) | (refine a_regionS ?_; simp only [Ty.w, simprocAttr, g1, g2, g3, hlK]) | (refine hK _ _ ?_; clear hK; try simp only [pst0, simprocAttr]))
         refine a_loop (fun c S h' => S 1 = .cptr (Fm.mk op name args params exprs kids).cells ∧ S 2 = .ptr h.next 0 0 ∧ ∃ k id : Nat, S 4 = .sc (.int .i64 k) ∧ S 3 = .own id 0 (L1 ++ (kids.take k).map fmW).length ∧ k ≤ kids.length ∧ c = kids.length - k ∧ Grow h h' ∧ h.next < id ∧ id < h'.next ∧ h'.obj h.next = some (.arr 6 [[.sc (.int .i64 0), .sc (.int .i64 0), .sc (.int .i64 0), .sc (.int .i64 0), .sc (.string ⟨#[]⟩), .sc (.slice none 0 0)]]) ∧ h'.obj id = some (.arr 6 (Sx.rows (L1 ++ (kids.take k).map fmW)))) kids.length ?_ ?_
         ·simp only [Ty.w, simprocAttr, g1, g2, g3]
          exact ⟨rfl, 0, id, rfl, by simp, by omega, rfl, hg, hlo, hhi, o1, by simpa using o2⟩
         ·clear g1 g2 g3 o1 o2 hg hlo hhi S
          rintro c S h' ⟨g1, g2, k, id, g4, g3, hk, rfl, hg, hlo, hhi, o1, o2⟩
          simp only [Fm.cells] at g1
          by_cases hlt : k < kids.length
          ·have hdk : decide ((k : Int) < (kids.length : Int)) = true := by simp; omega
           have w7 : IntKind.i64.wrap ((k : Int) + 1) = k + 1 := by rw [wrap64 (by omega) (by omega)]
           obtain ⟨x, hx⟩ : ∃ x, kids[k]? = some x := ⟨_, List.getElem?_eq_getElem hlt⟩
           have hmem := List.mem_of_getElem? hx
           have hr := Fm.rows_get hx
           have hcx := ih x hmem (hks x hmem) (hsk x hmem)
           have hL : L1 ++ (kids.take (k + 1)).map fmW = L1 ++ (kids.take k).map fmW ++ [fmW x] := by rw [List.take_add_one, hx]; simp
           have hrk := hrl k
           generalize L1 ++ (kids.take k).map fmW = L2 at g3 o2 hrk hL
           generalize fmW x = X at hcx hL
           obtain ⟨xo, xn, xa, xp, xe, xk⟩ := x
           obtain ⟨ki, va, li, co, te, ks⟩ := X
           simp only [Fm.cells, Sx.cells] at hr hcx
           have hR : Sx.rows (L2 ++ [.mk ki va li co te ks]) = Sx.rows L2 ++ [[.sc (.int .i64 ki), .sc (.int .i64 va), .sc (.int .i64 li), .sc (.int .i64 co), sPV te, .imm 6 (Sx.rows ks)]] := by simp [Sx.rows_map, Sx.cells]
           have hpr := Sx.rows_len L2
           generalize Sx.rows L2 = R at o2 hpr hR
           have htk : List.take L2.length R = R := List.take_of_length_le (by omega)
           have hb : (L2.length + 1) * 72 ≤ 140737488355328 := by omega
           have W := And.intro g1 (And.intro g2 (And.intro g3 (And.intro g4 (And.intro hpr (And.intro htk (And.intro o2 hb))))))
           repeat' (first | refine a_seq fun K hK => ?_ | (refine a_block ?_) | ((first | refine a_regionS ?_ | refine a_region (fun K hK => ?_)); simp only [Ty.w, simprocAttr, W, hlK, hdk, hr]) | (refine a_skip ?_; try simp only [pst0, simprocAttr]) | (refine a_cond _ (by (try simp only [Ty.w, simprocAttr, W, hlK, hdk, hr]); rfl) (fun hb => ?_) (fun hb => ?_) <;> (try simp only [hb0, decide_eq_true_eq, decide_eq_false_iff_not, simprocAttr] at hb) <;> (try (exfalso; omega))) | (refine hK _ _ ?_; clear hK; try simp only [pst0, simprocAttr]))
           refine owp_useQ (hcx _) (by (try simp only [Ty.w, simprocAttr, W]); try rfl) ?_; simp only [Ty.w, simprocAttr, W]
           repeat' (first | (refine a_regionS ?_; simp only [Ty.w, simprocAttr, W, w7]) | (refine hK _ _ ?_; clear hK; try simp only [pst0, simprocAttr]) | (rw [if_pos]; rotate_left 1; omega; simp only [Ty.w, simprocAttr, W, w7]))
           refine ⟨kids.length - (k + 1), by omega, rfl, k + 1, h'.next, by simp, ?_, by omega, rfl, (hg.kill (by omega)).new _, by omega, by simp [Heap.new, Heap.kill], ?_, ?_⟩
           ·rw [hL]; simp
           ·rw [if_neg (by omega), if_neg (by omega)]
            exact o1
           ·rw [hL, hR]; simp [Heap.new, Heap.kill]
          ·have hdk : decide ((k : Int) < (kids.length : Int)) = false := by simp; omega
           have hke : k = kids.length := by omega
           subst hke
           rw [List.take_length] at o2 g3
           repeat' (first | refine a_seq fun K hK => ?_ | ((first | refine a_regionS ?_ | refine a_ret ?_); simp only [Ty.w, simprocAttr, g1, g2, g3, g4, hlK, hdk, o1, o2]) | (refine a_exit ?_; try simp only [pst0, simprocAttr]) | (refine a_cond _ (by (try simp only [Ty.w, simprocAttr, g1, g2, g3, g4, hlK, hdk, o1, o2]); rfl) (fun hb => ?_) (fun hb => ?_) <;> (try simp only [hb0, decide_eq_true_eq, decide_eq_false_iff_not, simprocAttr] at hb) <;> (try (exfalso; omega))) | ((first | refine hK _ _ ?_ | (clear hK; refine hK _ _ ?_)); clear hK; try simp only [pst0, simprocAttr]))
           refine ⟨?_, hg.set (Nat.le_refl _) _⟩
           simp only [listM, Sx.cells, FrzTo, FrzL]
           refine ⟨_, rfl, rfl, rfl, rfl, rfl, rfl, .inr (.inr ⟨id, 0, _, Sx.rows (L1 ++ kids.map fmW), rfl, by omega, ?_, ?_, ?_⟩), trivial⟩
           ·simp only [Heap.set]; rw [if_neg (by omega)]; exact o2
           ·rw [Sx.rows_len]; omega
           ·rw [List.drop_zero, List.take_of_length_le (by rw [Sx.rows_len]; omega)]
            exact sxs_frz _ _ _
end Go.Proofs.Ytjlkapgpjamnkaa
namespace Go.Proofs.Ytjlkapgpjamnkaa
open Go.AM
set_option maxHeartbeats 4000000
set_option maxRecDepth 20000
theorem rvalidF_c {f : Fm} (hok : f.ok) (hsm : f.small) (hd : (fmW f).depth ≤ bigN) (h : Heap) : PCall Try.prog 20 [.agg f.cells] h fun r h' => r = .sc (.bool (shapedF f && rvalidB (fmW f))) ∧ h' = h := by
 have hs := rshapedF_c f hok
 cases hb : shapedF f with
 | false =>
  rw [hb] at hs
  obtain ⟨op, name, args, params, exprs, kids⟩ := f
  simp only [Fm.cells] at hs ⊢
  refine pcall_body (ow := fun _ => false) (wf := fun _ => false) Ty.mixed Try.func20 rfl Ty.hb_20 (by rw [Try.ntmps20]; simp) ?_
  rw [Try.ntmps20, Try.results20]
  repeat' (first | refine a_seq fun K hK => ?_ | (refine a_regionS ?_; simp (maxSteps := 2000000) only [Ty.w, simprocAttr]) | (refine hK _ _ ?_; clear hK; try simp only [pst0, simprocAttr]))
  refine owp_useQ (hs _) (by (try simp only [Ty.w, simprocAttr, ]); try rfl) ?_; simp (maxSteps := 2000000) only [Ty.w, simprocAttr, ]
  repeat' (first | (refine a_ret ?_; simp (maxSteps := 2000000) only [Ty.w, simprocAttr]) | (refine hK _ _ ?_; clear hK; try simp only [pst0, simprocAttr]))
  all_goals rfl
 | true =>
  rw [hb] at hs
  have hx := fmW_ok f hok hsm hb
  have hw := rwriteF_c f hsm hb
  have hv := rvalid_c hx hd
  have hq : rvalidB (fmW f) = (shapedS (fmW f) && decide (((fmW f).depth : Int) ≤ 32) && decide ((fmW f).count ≤ 4096)) := rfl
  rw [← hq] at hv
  clear hq
  generalize rvalidB (fmW f) = bb at hv ⊢
  generalize fmW f = X at hw hv
  obtain ⟨op, name, args, params, exprs, kids⟩ := f
  obtain ⟨ki, va, li, co, te, ks⟩ := X
  simp only [Fm.cells, Sx.cells, Bool.true_and] at hs hw hv ⊢
  refine pcall_body (ow := fun _ => false) (wf := fun _ => false) Ty.mixed Try.func20 rfl Ty.hb_20 (by rw [Try.ntmps20]; simp) ?_
  rw [Try.ntmps20, Try.results20]
  repeat' (first | refine a_seq fun K hK => ?_ | (refine a_regionS ?_; simp (maxSteps := 2000000) only [Ty.w, simprocAttr]) | (refine hK _ _ ?_; clear hK; try simp only [pst0, simprocAttr]))
  refine owp_useQ (hs _) (by (try simp only [Ty.w, simprocAttr, ]); try rfl) ?_; simp (maxSteps := 2000000) only [Ty.w, simprocAttr, ]
  skip
  refine owp_useQ (hw _) (by (try simp only [Ty.w, simprocAttr, ]); try rfl) ?_; simp (maxSteps := 2000000) only [Ty.w, simprocAttr, ]
  skip
  refine owp_useQ (hv _) (by (try simp only [Ty.w, simprocAttr, ]); try rfl) ?_; simp (maxSteps := 2000000) only [Ty.w, simprocAttr, ]
  repeat' (first | (refine a_ret ?_; simp (maxSteps := 2000000) only [Ty.w, simprocAttr]) | (refine hK _ _ ?_; clear hK; try simp only [pst0, simprocAttr]))
end Go.Proofs.Ytjlkapgpjamnkaa
namespace Go.Proofs.Ytjlkapgpjamnkaa
open Go.AM
set_option maxHeartbeats 4000000
set_option maxRecDepth 20000
theorem rParse_c {x : Sx} (hok : x.ok) (hnd : x.nodes ≤ bigN) (h : Heap) : PCall Try.prog 34 [.agg x.cells] h fun r h' => r = .tup [.agg (parseF x).1.cells, iN (parseF x).2] ∧ h' = h := by
 refine PCall.frz Ty.hb_34 ?_
 have hv := fun h : Heap => rvalidS_c hok hnd (Nat.le_trans (Sx.depth_nodes x) hnd) h
 have hX : parseF x = (if (svalid x 0 0).1 = true then (if (fmP x).2 = 0 then (if validF (fmP x).1 = true then ((fmP x).1, 0) else (zeroFm, 5)) else (zeroFm, (fmP x).2)) else (zeroFm, 2)) := rfl
 generalize parseF x = F at hX
 have bad : ∀ (c : Int) (h' : Heap), Grow h h' → F = (zeroFm, c) → FrzTo h.next h' (.tup [.agg F.1.cells, iN F.2]) (.tup [.agg [.sc (.string ⟨#[]⟩), .sc (.string ⟨#[]⟩), .sc (.slice none 0 0), .sc (.slice none 0 0), .sc (.slice none 0 0), .sc (.slice none 0 0)], iN c]) ∧ Grow h h' := by
  intro c h' hg hF
  subst hF
  exact ⟨frz_tup2 (frz_agg (by simp [zeroFm, Fm.cells, Ex.rows, Fm.rows, pmRows, strRows, FrzL, FrzTo])), hg⟩
 have hg1 : ∀ o r, Grow h ((h.new o).set h.next r) := fun o r => ((Grow.refl h).new _).set (Nat.le_refl _) _
 have hg2 : ∀ o o1 o2 r, Grow h ((((h.new o).new o1).set (h.next + 1) o2).set h.next r) := fun o o1 o2 r => ((((Grow.refl h).new _).new _).set (Nat.le_succ _) _).set (Nat.le_refl _) _
 cases v1 : (svalid x 0 0).1 with
 | false =>
  rw [v1] at hv
  rw [if_neg (by rw [v1]; simp)] at hX
  obtain ⟨kind, value, line, col, text, kids⟩ := x
  simp only [Sx.cells] at hv ⊢
  refine pcall_body (ow := fun _ => false) (wf := fun _ => false) Ty.mixed Try.func34 rfl Ty.hb_34 (by rw [Try.ntmps34]; simp) ?_
  rw [Try.ntmps34, Try.results34]
  repeat' (first | refine a_seq fun K hK => ?_ | (refine a_regionS ?_; simp only [Ty.w, simprocAttr]) | (refine hK _ _ ?_; clear hK; try simp only [pst0, simprocAttr]))
  refine owp_useQ (hv _) (by (try simp only [Ty.w, simprocAttr, ]); try rfl) ?_; simp only [Ty.w, simprocAttr, ]
  repeat' (first | refine a_seq fun K hK => ?_ | ((first | refine a_regionS ?_ | refine a_ret ?_); simp only [Ty.w, simprocAttr, Bool.not_false]) | (refine hK _ _ ?_; clear hK; try simp only [pst0, simprocAttr]))
  exact bad 2 _ (hg1 _ _) hX
 | true =>
  have hsm := svalid_small v1
  have hsv := (svalid_iff x 0 0 (by omega) (by omega)).1.1 v1
  have hp := rformula_c x hok hsm hsv.1 hnd
  have hfo := fmP_ok x hok hsm
  have hn := (fmP_nodes x).1
  have hzz := (fmP_nodes x).2
  rw [v1] at hv
  rw [if_pos v1] at hX
  have hnb : (fmW (fmP x).1).nodes ≤ bigN := by unfold bigN; omega
  have hV := (fun h : Heap => by have := rvalidF_c hfo.1 hfo.2 (Nat.le_trans (Sx.depth_nodes _) hnb) h; rw [← validF_same hnb] at this; exact this : ∀ h : Heap, PCall Try.prog 20 [.agg (fmP x).1.cells] h fun r h' => r = .sc (.bool (validF (fmP x).1)) ∧ h' = h)
  have hfz := fun n hh => fm_frz n hh (fmP x).1
  generalize fmP x = E at hp hfo hX hfz hzz hV
  obtain ⟨f, c⟩ := E
  simp only at hp hfo hX hfz hzz hV
  clear hn hnb hsv hsm hok hnd hfo
  obtain ⟨kind, value, line, col, text, kids⟩ := x
  simp only [Sx.cells] at hv hp ⊢
  cases hc : c == 0 with
  | false =>
   rw [if_neg (by simpa using hc)] at hX
   have := hzz hc
   subst this
   simp only [zeroFm, Fm.cells] at hp
   refine pcall_body (ow := fun _ => false) (wf := fun _ => false) Ty.mixed Try.func34 rfl Ty.hb_34 (by rw [Try.ntmps34]; simp) ?_
   rw [Try.ntmps34, Try.results34]
   repeat' (first | refine a_seq fun K hK => ?_ | (refine a_regionS ?_; simp only [Ty.w, simprocAttr]) | (refine hK _ _ ?_; clear hK; try simp only [pst0, simprocAttr]))
   refine owp_useQ (hv _) (by (try simp only [Ty.w, simprocAttr, ]); try rfl) ?_; simp only [Ty.w, simprocAttr, ]
   repeat' (first | refine a_seq fun K hK => ?_ | (refine a_regionS ?_; simp only [Ty.w, simprocAttr, Bool.not_true]) | (refine a_skip ?_; try simp only [pst0, simprocAttr]) | (refine a_cond _ (by (try simp only [Ty.w, simprocAttr, Bool.not_true]); rfl) (fun hb => ?_) (fun hb => ?_) <;> (try simp only [hb0, decide_eq_true_eq, decide_eq_false_iff_not, simprocAttr] at hb) <;> (try (exfalso; omega))) | (refine hK _ _ ?_; clear hK; try simp only [pst0, simprocAttr]))
   refine owp_useQ (hp _) (by (try simp only [Ty.w, simprocAttr, ]); try rfl) ?_; simp only [Ty.w, simprocAttr, ]
   repeat' (first | refine a_seq fun K hK => ?_ | ((first | refine a_regionS ?_ | refine a_ret ?_); simp only [Ty.w, simprocAttr, nsucc, hc, Nat.add_eq_left, Nat.one_ne_zero]) | (refine a_skip ?_; try simp only [pst0, simprocAttr]) | (refine a_cond _ (by (try simp only [Ty.w, simprocAttr, nsucc, hc, Nat.add_eq_left, Nat.one_ne_zero]); rfl) (fun hb => ?_) (fun hb => ?_) <;> (try simp only [hb0, decide_eq_true_eq, decide_eq_false_iff_not, simprocAttr] at hb) <;> (try (exfalso; omega))) | (refine hK _ _ ?_; clear hK; try simp only [pst0, simprocAttr]))
   subst hX
   exact ⟨frz_tup2 (frz_agg (by simpa only [zeroFm, Fm.cells] using hfz _ _)), hg2 _ _ _ _⟩
  | true =>
   have hc0 : c = 0 := by simpa using hc
   rw [if_pos hc0] at hX
   subst hc0
   cases v2 : validF f with
   | false =>
    rw [v2] at hV
    rw [if_neg (by rw [v2]; simp)] at hX
    obtain ⟨fop, fna, far, fpa, fex, fki⟩ := f
    simp only [Fm.cells] at hp hV
    refine pcall_body (ow := fun _ => false) (wf := fun _ => false) Ty.mixed Try.func34 rfl Ty.hb_34 (by rw [Try.ntmps34]; simp) ?_
    rw [Try.ntmps34, Try.results34]
    repeat' (first | refine a_seq fun K hK => ?_ | (refine a_regionS ?_; simp only [Ty.w, simprocAttr]) | (refine hK _ _ ?_; clear hK; try simp only [pst0, simprocAttr]))
    refine owp_useQ (hv _) (by (try simp only [Ty.w, simprocAttr, ]); try rfl) ?_; simp only [Ty.w, simprocAttr, ]
    repeat' (first | refine a_seq fun K hK => ?_ | (refine a_regionS ?_; simp only [Ty.w, simprocAttr, Bool.not_true]) | (refine a_skip ?_; try simp only [pst0, simprocAttr]) | (refine a_cond _ (by (try simp only [Ty.w, simprocAttr, Bool.not_true]); rfl) (fun hb => ?_) (fun hb => ?_) <;> (try simp only [hb0, decide_eq_true_eq, decide_eq_false_iff_not, simprocAttr] at hb) <;> (try (exfalso; omega))) | (refine hK _ _ ?_; clear hK; try simp only [pst0, simprocAttr]))
    refine owp_useQ (hp _) (by (try simp only [Ty.w, simprocAttr, ]); try rfl) ?_; simp only [Ty.w, simprocAttr, ]
    repeat' (first | refine a_seq fun K hK => ?_ | (refine a_regionS ?_; simp only [Ty.w, simprocAttr, nsucc, beq_self_eq_true]) | (refine hK _ _ ?_; clear hK; try simp only [pst0, simprocAttr]))
    refine owp_useQ (hV _) (by (try simp only [Ty.w, simprocAttr, nsucc, beq_self_eq_true]); try rfl) ?_; simp only [Ty.w, simprocAttr, nsucc, beq_self_eq_true]
    repeat' (first | refine a_seq fun K hK => ?_ | ((first | refine a_regionS ?_ | refine a_ret ?_); simp only [Ty.w, simprocAttr, nsucc, Bool.not_false]) | (refine hK _ _ ?_; clear hK; try simp only [pst0, simprocAttr]))
    exact bad 5 _ (hg2 _ _ _ _) hX
   | true =>
    rw [v2] at hV
    rw [if_pos v2] at hX
    subst hX
    obtain ⟨fop, fna, far, fpa, fex, fki⟩ := f
    simp only [Fm.cells] at hp hV hfz
    simp only [Fm.cells]
    refine pcall_body (ow := fun _ => false) (wf := fun _ => false) Ty.mixed Try.func34 rfl Ty.hb_34 (by rw [Try.ntmps34]; simp) ?_
    rw [Try.ntmps34, Try.results34]
    repeat' (first | refine a_seq fun K hK => ?_ | (refine a_regionS ?_; simp only [Ty.w, simprocAttr]) | (refine hK _ _ ?_; clear hK; try simp only [pst0, simprocAttr]))
    refine owp_useQ (hv _) (by (try simp only [Ty.w, simprocAttr, ]); try rfl) ?_; simp only [Ty.w, simprocAttr, ]
    repeat' (first | refine a_seq fun K hK => ?_ | (refine a_regionS ?_; simp only [Ty.w, simprocAttr, Bool.not_true]) | (refine a_skip ?_; try simp only [pst0, simprocAttr]) | (refine a_cond _ (by (try simp only [Ty.w, simprocAttr, Bool.not_true]); rfl) (fun hb => ?_) (fun hb => ?_) <;> (try simp only [hb0, decide_eq_true_eq, decide_eq_false_iff_not, simprocAttr] at hb) <;> (try (exfalso; omega))) | (refine hK _ _ ?_; clear hK; try simp only [pst0, simprocAttr]))
    refine owp_useQ (hp _) (by (try simp only [Ty.w, simprocAttr, ]); try rfl) ?_; simp only [Ty.w, simprocAttr, ]
    repeat' (first | refine a_seq fun K hK => ?_ | (refine a_regionS ?_; simp only [Ty.w, simprocAttr, nsucc, beq_self_eq_true]) | (refine hK _ _ ?_; clear hK; try simp only [pst0, simprocAttr]))
    refine owp_useQ (hV _) (by (try simp only [Ty.w, simprocAttr, nsucc, beq_self_eq_true]); try rfl) ?_; simp only [Ty.w, simprocAttr, nsucc, beq_self_eq_true]
    repeat' (first | refine a_seq fun K hK => ?_ | ((first | refine a_regionS ?_ | refine a_ret ?_); simp only [Ty.w, simprocAttr, nsucc, Bool.not_true, Nat.add_eq_left, Nat.one_ne_zero]) | (refine a_skip ?_; try simp only [pst0, simprocAttr]) | (refine a_cond _ (by (try simp only [Ty.w, simprocAttr, nsucc, Bool.not_true, Nat.add_eq_left, Nat.one_ne_zero]); rfl) (fun hb => ?_) (fun hb => ?_) <;> (try simp only [hb0, decide_eq_true_eq, decide_eq_false_iff_not, simprocAttr] at hb) <;> (try (exfalso; omega))) | (refine hK _ _ ?_; clear hK; try simp only [pst0, simprocAttr]))
    exact ⟨frz_tup2 (frz_agg (hfz _ _)), hg2 _ _ _ _⟩
theorem rParseExpr_c {x : Sx} (hok : x.ok) (hnd : x.nodes ≤ bigN) (h : Heap) : PCall Try.prog 37 [.agg x.cells] h fun r h' => r = .tup [.agg (parseE x).1.cells, iN (parseE x).2] ∧ h' = h := by
 refine PCall.frz Ty.hb_37 ?_
 have hv := fun h : Heap => rvalidS_c hok hnd (Nat.le_trans (Sx.depth_nodes x) hnd) h
 have hX : parseE x = (if (svalid x 0 0).1 = true then (if (exprP x).2 = 0 then (if validE (exprP x).1 = true then ((exprP x).1, 0) else (zeroEx, 5)) else (zeroEx, (exprP x).2)) else (zeroEx, 2)) := rfl
 generalize parseE x = F at hX
 have bad : ∀ (c : Int) (h' : Heap), Grow h h' → F = (zeroEx, c) → FrzTo h.next h' (.tup [.agg F.1.cells, iN F.2]) (.tup [.agg [.sc (.string ⟨#[]⟩), .sc (.string ⟨#[]⟩), .sc (.int .i64 0), .sc (.slice none 0 0), .sc (.slice none 0 0)], iN c]) ∧ Grow h h' := by
  intro c h' hg hF
  subst hF
  exact ⟨frz_tup2 (frz_agg (by simp [zeroEx, Ex.cells, Ex.rows, Fm.rows, pmRows, strRows, FrzL, FrzTo])), hg⟩
 have hg1 : ∀ o r, Grow h ((h.new o).set h.next r) := fun o r => ((Grow.refl h).new _).set (Nat.le_refl _) _
 have hg2 : ∀ o o1 o2 r, Grow h ((((h.new o).new o1).set (h.next + 1) o2).set h.next r) := fun o o1 o2 r => ((((Grow.refl h).new _).new _).set (Nat.le_succ _) _).set (Nat.le_refl _) _
 cases v1 : (svalid x 0 0).1 with
 | false =>
  rw [v1] at hv
  rw [if_neg (by rw [v1]; simp)] at hX
  obtain ⟨kind, value, line, col, text, kids⟩ := x
  simp only [Sx.cells] at hv ⊢
  refine pcall_body (ow := fun _ => false) (wf := fun _ => false) Ty.mixed Try.func37 rfl Ty.hb_37 (by rw [Try.ntmps37]; simp) ?_
  rw [Try.ntmps37, Try.results37]
  repeat' (first | refine a_seq fun K hK => ?_ | (refine a_regionS ?_; simp only [Ty.w, simprocAttr]) | (refine hK _ _ ?_; clear hK; try simp only [pst0, simprocAttr]))
  refine owp_useQ (hv _) (by (try simp only [Ty.w, simprocAttr, ]); try rfl) ?_; simp only [Ty.w, simprocAttr, ]
  repeat' (first | refine a_seq fun K hK => ?_ | ((first | refine a_regionS ?_ | refine a_ret ?_); simp only [Ty.w, simprocAttr, Bool.not_false]) | (refine hK _ _ ?_; clear hK; try simp only [pst0, simprocAttr]))
  exact bad 2 _ (hg1 _ _) hX
 | true =>
  have hsm := svalid_small v1
  have hsv := (svalid_iff x 0 0 (by omega) (by omega)).1.1 v1
  have hp := rexpr_c x hok hsm hsv.1
  have hfo := exprP_ok x hok hsm
  have hn := exprP_nodes x
  have hzz := (fun h => exprP_zero (x := x) h)
  rw [v1] at hv
  rw [if_pos v1] at hX
  have hnb : (exW (exprP x).1).nodes ≤ bigN := by unfold bigN; omega
  have hV := (fun h : Heap => by have := rvalidE_c hfo.1 hfo.2 (Nat.le_trans (Sx.depth_nodes _) hnb) h; rw [← validE_same hnb] at this; exact this : ∀ h : Heap, PCall Try.prog 41 [.agg (exprP x).1.cells] h fun r h' => r = .sc (.bool (validE (exprP x).1)) ∧ h' = h)
  have hfz := fun n hh => ex_frz n hh (exprP x).1
  generalize exprP x = E at hp hfo hX hfz hzz hV
  obtain ⟨f, c⟩ := E
  simp only at hp hfo hX hfz hzz hV
  clear hn hnb hsv hsm hok hnd hfo
  obtain ⟨kind, value, line, col, text, kids⟩ := x
  simp only [Sx.cells] at hv hp ⊢
  cases hc : c == 0 with
  | false =>
   rw [if_neg (by simpa using hc)] at hX
   have := hzz hc
   subst this
   simp only [zeroEx, Ex.cells] at hp
   refine pcall_body (ow := fun _ => false) (wf := fun _ => false) Ty.mixed Try.func37 rfl Ty.hb_37 (by rw [Try.ntmps37]; simp) ?_
   rw [Try.ntmps37, Try.results37]
   repeat' (first | refine a_seq fun K hK => ?_ | (refine a_regionS ?_; simp only [Ty.w, simprocAttr]) | (refine hK _ _ ?_; clear hK; try simp only [pst0, simprocAttr]))
   refine owp_useQ (hv _) (by (try simp only [Ty.w, simprocAttr, ]); try rfl) ?_; simp only [Ty.w, simprocAttr, ]
   repeat' (first | refine a_seq fun K hK => ?_ | (refine a_regionS ?_; simp only [Ty.w, simprocAttr, Bool.not_true]) | (refine a_skip ?_; try simp only [pst0, simprocAttr]) | (refine a_cond _ (by (try simp only [Ty.w, simprocAttr, Bool.not_true]); rfl) (fun hb => ?_) (fun hb => ?_) <;> (try simp only [hb0, decide_eq_true_eq, decide_eq_false_iff_not, simprocAttr] at hb) <;> (try (exfalso; omega))) | (refine hK _ _ ?_; clear hK; try simp only [pst0, simprocAttr]))
   refine owp_useQ (hp _) (by (try simp only [Ty.w, simprocAttr, ]); try rfl) ?_; simp only [Ty.w, simprocAttr, ]
   repeat' (first | refine a_seq fun K hK => ?_ | ((first | refine a_regionS ?_ | refine a_ret ?_); simp only [Ty.w, simprocAttr, nsucc, hc, Nat.add_eq_left, Nat.one_ne_zero]) | (refine a_skip ?_; try simp only [pst0, simprocAttr]) | (refine a_cond _ (by (try simp only [Ty.w, simprocAttr, nsucc, hc, Nat.add_eq_left, Nat.one_ne_zero]); rfl) (fun hb => ?_) (fun hb => ?_) <;> (try simp only [hb0, decide_eq_true_eq, decide_eq_false_iff_not, simprocAttr] at hb) <;> (try (exfalso; omega))) | (refine hK _ _ ?_; clear hK; try simp only [pst0, simprocAttr]))
   subst hX
   exact ⟨frz_tup2 (frz_agg (by simpa only [zeroEx, Ex.cells] using hfz _ _)), hg2 _ _ _ _⟩
  | true =>
   have hc0 : c = 0 := by simpa using hc
   rw [if_pos hc0] at hX
   subst hc0
   cases v2 : validE f with
   | false =>
    rw [v2] at hV
    rw [if_neg (by rw [v2]; simp)] at hX
    obtain ⟨fop, fna, fnn, far, fki⟩ := f
    simp only [Ex.cells] at hp hV
    refine pcall_body (ow := fun _ => false) (wf := fun _ => false) Ty.mixed Try.func37 rfl Ty.hb_37 (by rw [Try.ntmps37]; simp) ?_
    rw [Try.ntmps37, Try.results37]
    repeat' (first | refine a_seq fun K hK => ?_ | (refine a_regionS ?_; simp only [Ty.w, simprocAttr]) | (refine hK _ _ ?_; clear hK; try simp only [pst0, simprocAttr]))
    refine owp_useQ (hv _) (by (try simp only [Ty.w, simprocAttr, ]); try rfl) ?_; simp only [Ty.w, simprocAttr, ]
    repeat' (first | refine a_seq fun K hK => ?_ | (refine a_regionS ?_; simp only [Ty.w, simprocAttr, Bool.not_true]) | (refine a_skip ?_; try simp only [pst0, simprocAttr]) | (refine a_cond _ (by (try simp only [Ty.w, simprocAttr, Bool.not_true]); rfl) (fun hb => ?_) (fun hb => ?_) <;> (try simp only [hb0, decide_eq_true_eq, decide_eq_false_iff_not, simprocAttr] at hb) <;> (try (exfalso; omega))) | (refine hK _ _ ?_; clear hK; try simp only [pst0, simprocAttr]))
    refine owp_useQ (hp _) (by (try simp only [Ty.w, simprocAttr, ]); try rfl) ?_; simp only [Ty.w, simprocAttr, ]
    repeat' (first | refine a_seq fun K hK => ?_ | (refine a_regionS ?_; simp only [Ty.w, simprocAttr, nsucc, beq_self_eq_true]) | (refine hK _ _ ?_; clear hK; try simp only [pst0, simprocAttr]))
    refine owp_useQ (hV _) (by (try simp only [Ty.w, simprocAttr, nsucc, beq_self_eq_true]); try rfl) ?_; simp only [Ty.w, simprocAttr, nsucc, beq_self_eq_true]
    repeat' (first | refine a_seq fun K hK => ?_ | ((first | refine a_regionS ?_ | refine a_ret ?_); simp only [Ty.w, simprocAttr, nsucc, Bool.not_false]) | (refine hK _ _ ?_; clear hK; try simp only [pst0, simprocAttr]))
    exact bad 5 _ (hg2 _ _ _ _) hX
   | true =>
    rw [v2] at hV
    rw [if_pos v2] at hX
    subst hX
    obtain ⟨fop, fna, fnn, far, fki⟩ := f
    simp only [Ex.cells] at hp hV hfz
    simp only [Ex.cells]
    refine pcall_body (ow := fun _ => false) (wf := fun _ => false) Ty.mixed Try.func37 rfl Ty.hb_37 (by rw [Try.ntmps37]; simp) ?_
    rw [Try.ntmps37, Try.results37]
    repeat' (first | refine a_seq fun K hK => ?_ | (refine a_regionS ?_; simp only [Ty.w, simprocAttr]) | (refine hK _ _ ?_; clear hK; try simp only [pst0, simprocAttr]))
    refine owp_useQ (hv _) (by (try simp only [Ty.w, simprocAttr, ]); try rfl) ?_; simp only [Ty.w, simprocAttr, ]
    repeat' (first | refine a_seq fun K hK => ?_ | (refine a_regionS ?_; simp only [Ty.w, simprocAttr, Bool.not_true]) | (refine a_skip ?_; try simp only [pst0, simprocAttr]) | (refine a_cond _ (by (try simp only [Ty.w, simprocAttr, Bool.not_true]); rfl) (fun hb => ?_) (fun hb => ?_) <;> (try simp only [hb0, decide_eq_true_eq, decide_eq_false_iff_not, simprocAttr] at hb) <;> (try (exfalso; omega))) | (refine hK _ _ ?_; clear hK; try simp only [pst0, simprocAttr]))
    refine owp_useQ (hp _) (by (try simp only [Ty.w, simprocAttr, ]); try rfl) ?_; simp only [Ty.w, simprocAttr, ]
    repeat' (first | refine a_seq fun K hK => ?_ | (refine a_regionS ?_; simp only [Ty.w, simprocAttr, nsucc, beq_self_eq_true]) | (refine hK _ _ ?_; clear hK; try simp only [pst0, simprocAttr]))
    refine owp_useQ (hV _) (by (try simp only [Ty.w, simprocAttr, nsucc, beq_self_eq_true]); try rfl) ?_; simp only [Ty.w, simprocAttr, nsucc, beq_self_eq_true]
    repeat' (first | refine a_seq fun K hK => ?_ | ((first | refine a_regionS ?_ | refine a_ret ?_); simp only [Ty.w, simprocAttr, nsucc, Bool.not_true, Nat.add_eq_left, Nat.one_ne_zero]) | (refine a_skip ?_; try simp only [pst0, simprocAttr]) | (refine a_cond _ (by (try simp only [Ty.w, simprocAttr, nsucc, Bool.not_true, Nat.add_eq_left, Nat.one_ne_zero]); rfl) (fun hb => ?_) (fun hb => ?_) <;> (try simp only [hb0, decide_eq_true_eq, decide_eq_false_iff_not, simprocAttr] at hb) <;> (try (exfalso; omega))) | (refine hK _ _ ?_; clear hK; try simp only [pst0, simprocAttr]))
    exact ⟨frz_tup2 (frz_agg (hfz _ _)), hg2 _ _ _ _⟩
end Go.Proofs.Ytjlkapgpjamnkaa
namespace Go.Proofs.Ytjlkapgpjamnkaa
open Go.AM
set_option maxHeartbeats 8000000
set_option maxRecDepth 20000
def fmBody (w : ByteArray) (rest : List Sx) : Fm × Int :=
 bif isQ w then (match rest with
  | [] => (zeroFm, 2)
  | p :: body => bif kindOf p == 3 then (bif (paramsP true (kidsOf p)).2 == 0 then (match fmPs body with
    | (ks, c) => bif c == 0 then (.mk w ⟨#[]⟩ [] (paramsP true (kidsOf p)).1 [] ks, 0) else (zeroFm, c))
   else (zeroFm, (paramsP true (kidsOf p)).2)) else (zeroFm, 2))
 else bif isLst w then (match fmPs rest with
  | (ks, c) => bif c == 0 then (.mk w ⟨#[]⟩ [] [] [] ks, 0) else (zeroFm, c))
 else bif isCmp5 w then (match rest with
  | [a, b] => fin (compareP w a b)
  | _ => (zeroFm, 2))
 else bif nameB w then (bif (termsM rest).2 == 0 then (.mk opAtom w (termsM rest).1 [] [] [], 0) else (zeroFm, (termsM rest).2))
 else (zeroFm, 8)
theorem fmP_head (x : Sx) : fmP x = (bif kindOf x == 3 && (kidsOf x).isEmpty then (.mk opAnd ⟨#[]⟩ [] [] [] [], 0) else (match headM x with
  | none => (zeroFm, 2)
  | some (w, rest) => bif decide (countW w ≥ 0) && !(decide (countW w = rest.length)) then (zeroFm, 2) else fmBody w rest)) := by
 obtain ⟨kind, value, line, col, text, kids⟩ := x
 conv => lhs; unfold fmP
 have kk : kindOf (.mk kind value line col text kids) = kind := rfl
 have k5 : kidsOf (.mk kind value line col text kids) = kids := rfl
 rw [kk, k5]
 simp only [headM]
 by_cases h3 : kind = 3
 ·rw [if_pos h3, if_pos h3]
  cases kids with
  | nil => simp [h3]
  | cons y rest =>
   simp only [List.isEmpty_cons, Bool.and_false, cond_false]
   cases hk : kindOf y == 1 <;> simp only [hk, cond_true, cond_false] <;> rfl
 ·rw [if_neg h3, if_neg h3]
  rw [show (kind == 3) = false by simpa using h3]
  try rfl
theorem count_two {w : ByteArray} {n : Nat} (hw : isQ w = true ∨ isCmp5 w = true) (hc : (decide (countW w ≥ 0) && !(decide (countW w = n))) = false) : n = 2 := by
 have : countW w = 2 := by
  rw [countW_eq]
  unfold isQ isCmp5 isCmp at hw
  simp only [Bool.or_eq_true] at hw
  rcases hw with (h | h) | (((h | h) | h) | h) | h <;> (have h := bEq_eq h; subst h; decide)
 rw [this] at hc
 simp at hc
 omega
def fmZ : AObj := .arr 6 [[.sc (.string ⟨#[]⟩), .sc (.string ⟨#[]⟩), .sc (.slice none 0 0), .sc (.slice none 0 0), .sc (.slice none 0 0), .sc (.slice none 0 0)]]
structure PI (h : Heap) (w : ByteArray) (h' : Heap) : Prop where
 grow : Grow h h'
 nxt : h'.next = h.next + 2
 o1 : h'.obj h.next = some fmZ
 o2 : h'.obj (h.next + 1) = some (.arr 6 [[sPV w, .sc (.string ⟨#[]⟩), .sc (.slice none 0 0), .sc (.slice none 0 0), .sc (.slice none 0 0), .sc (.slice none 0 0)]])
def PJ (h : Heap) (F : Fm × Int) (S : Slots) (h' : Heap) : Prop := S 2 = .ptr h.next 0 0 ∧ S 8 = .ptr (h.next + 1) 0 0 ∧ Grow h h' ∧ ∃ (c : Int) (a b : ByteArray) (p2 p3 p4 p5 : PV), S 9 = errP c ∧ h'.obj h.next = some fmZ ∧ h'.obj (h.next + 1) = some (.arr 6 [[sPV a, sPV b, p2, p3, p4, p5]]) ∧
 (oneC p2 = true ∧ oneC p3 = true ∧ oneC p4 = true ∧ oneC p5 = true) ∧ ((c == 0) = false → F = (zeroFm, c)) ∧ ((c == 0) = true → F.2 = 0 ∧ ∀ hh, FrzL h.next hh F.1.cells [sPV a, sPV b, p2, p3, p4, p5])
theorem PJ.mk2 {h h' : Heap} {w : ByteArray} {F : Fm × Int} {S : Slots} (hp : PI h w h') (c : Int) (a b : ByteArray) (p2 p3 p4 p5 : PV) (g2 : S 2 = .ptr h.next 0 0) (g8 : S 8 = .ptr (h.next + 1) 0 0) (g9 : S 9 = errP c)
  (ho : oneC p2 = true ∧ oneC p3 = true ∧ oneC p4 = true ∧ oneC p5 = true) (hc : (c == 0) = false → F = (zeroFm, c)) (hd : (c == 0) = true → F.2 = 0 ∧ ∀ hh, FrzL h.next hh F.1.cells [sPV a, sPV b, p2, p3, p4, p5]) :
  PJ h F S (h'.set (h.next + 1) (.arr 6 [[sPV a, sPV b, p2, p3, p4, p5]])) := by
 refine ⟨g2, g8, hp.grow.set (Nat.le_succ _) _, c, a, b, p2, p3, p4, p5, g9, ?_, by simp [Heap.set], ho, hc, hd⟩
 simp only [Heap.set]
 rw [if_neg (by omega)]
 exact hp.o1
theorem errRet {h h' : Heap} {c : Int} {F : Fm × Int} (hc : c = 2 ∨ c = 8) (hg : Grow h h') (hF : F = (zeroFm, c)) :
  FrzTo h.next h' (.tup [.agg F.1.cells, errP F.2]) (.tup [.agg [.sc (.string ⟨#[]⟩), .sc (.string ⟨#[]⟩), .sc (.slice none 0 0), .sc (.slice none 0 0), .sc (.slice none 0 0), .sc (.slice none 0 0)], errV c]) ∧ Grow h h' := by
 subst hF
 have : errP c = errV c := by rcases hc with rfl | rfl <;> rfl
 simp only [this]
 refine ⟨?_, hg⟩
 simp only [errV, zeroFm, Fm.cells, Ex.rows, Fm.rows, pmRows, strRows, List.map_nil, FrzTo, FrzL]
 exact ⟨_, rfl, ⟨_, rfl, rfl, rfl, .inr (.inl ⟨rfl, .inr rfl⟩), .inr (.inl ⟨rfl, .inr rfl⟩), .inr (.inl ⟨rfl, .inr rfl⟩), .inr (.inl ⟨rfl, .inr rfl⟩), trivial⟩, rfl, trivial⟩
end Go.Proofs.Ytjlkapgpjamnkaa
