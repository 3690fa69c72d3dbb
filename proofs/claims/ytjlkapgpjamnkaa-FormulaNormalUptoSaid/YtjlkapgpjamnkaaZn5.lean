/- What the claim rests on, part 5: the abstract machine, contracts of the functions, plain data. -/
import Derived.OpenShut
import Derived.ChangeShapes
import Derived.SizedLaws
import Derived.Test.YtjlkapgpjamnkaaRows
import Derived.Test.YtjlkapgpjamnkaaZn4
set_option linter.unusedVariables false
set_option linter.unusedSimpArgs false
set_option linter.unusedSectionVars false
namespace Go.AM
mutual
def Fm.small : Fm → Prop
 | .mk _ _ args params exprs kids => args.length ≤ 1048576 ∧ params.length ≤ 1048576 ∧ Ex.smalls exprs ∧ kids.length ≤ 1048576 ∧ Fm.smalls kids
def Fm.smalls : List Fm → Prop
 | [] => True
 | k :: ks => k.small ∧ Fm.smalls ks
end
theorem Fm.smalls_iff : {l : List Fm} → (Fm.smalls l ↔ ∀ k ∈ l, k.small)
 | [] => by simp [Fm.smalls]
 | k :: ks => by simp [Fm.smalls, Fm.smalls_iff (l := ks)]
end Go.AM
namespace Go.Proofs.Ytjlkapgpjamnkaa
open Go.AM
set_option maxHeartbeats 4000000
set_option maxRecDepth 20000
structure WrI (h : Heap) (L : List Sx) (h' : Heap) : Prop where
 grow : Grow h h'
 ex : ∃ p H, h.next + 1 < h'.next ∧ h'.obj h.next = some (.arr 6 [[.sc (.int .i64 0), .sc (.int .i64 0), .sc (.int .i64 0), .sc (.int .i64 0), .sc (.string ⟨#[]⟩), .sc (.slice none 0 0)]]) ∧
  h'.obj (h.next + 1) = some (.arr 6 [[.sc (.int .i64 3), .sc (.int .i64 0), .sc (.int .i64 0), .sc (.int .i64 0), .sc (.string ⟨#[]⟩), p]]) ∧ Tl h' (h.next + 2) 6 p (Sx.rows L) ∧
  isTail h' p = some (H, Sx.rows L) ∧ zOk h' 6 p = true ∧ H.next = h'.next ∧ (∀ j, j < h.next + 2 → H.obj j = h'.obj j) ∧ Grow h H ∧ p.cells = [p] ∧ oneC p = true
theorem WrI.mk2 {h h' : Heap} {L : List Sx} {p : PV} (g : Grow h h') (hn : h.next + 1 < h'.next) (o1 : h'.obj h.next = some (.arr 6 [[.sc (.int .i64 0), .sc (.int .i64 0), .sc (.int .i64 0), .sc (.int .i64 0), .sc (.string ⟨#[]⟩), .sc (.slice none 0 0)]])) (o2 : h'.obj (h.next + 1) = some (.arr 6 [[.sc (.int .i64 3), .sc (.int .i64 0), .sc (.int .i64 0), .sc (.int .i64 0), .sc (.string ⟨#[]⟩), p]])) (tl : Tl h' (h.next + 2) 6 p (Sx.rows L)) : WrI h L h' := by
 obtain ⟨H, t1, t2, t3, t4, t5⟩ := tl.tail
 have hk := t5 h ⟨g.le, g.old⟩ (by omega)
 refine ⟨g, p, H, hn, o1, o2, tl, t1, t2, t3, t4, ⟨hk.1, hk.2⟩, ?_, ?_⟩
 ·rcases tl with ⟨_, rfl | rfl⟩ | ⟨_, _, _, rfl, _⟩ <;> rfl
 ·rcases tl with ⟨_, rfl | rfl⟩ | ⟨_, _, _, rfl, _⟩ <;> rfl
theorem Tl.low {h : Heap} {a b z : Nat} {p : PV} {rows : List (List PV)} (t : Tl h a z p rows) (hab : b ≤ a) : Tl h b z p rows := by
 rcases t with ht | ⟨id, h1, h2⟩
 ·exact .inl ht
 ·exact .inr ⟨id, by omega, h2⟩
theorem WrI.push {h h' H : Heap} {L : List Sx} {X : Sx} {m : Nat} (hn : h.next + 1 < h'.next) (o1 : h'.obj h.next = some (.arr 6 [[.sc (.int .i64 0), .sc (.int .i64 0), .sc (.int .i64 0), .sc (.int .i64 0), .sc (.string ⟨#[]⟩), .sc (.slice none 0 0)]])) (t3 : H.next = h'.next) (t4 : ∀ j, j < h.next + 2 → H.obj j = h'.obj j) (g : Grow h H) (hm : m = L.length + 1) :
  WrI h (L ++ [X]) ((H.new (.arr 6 (Sx.rows L ++ [X.cells]))).set (h.next + 1) (.arr 6 [[.sc (.int .i64 3), .sc (.int .i64 0), .sc (.int .i64 0), .sc (.int .i64 0), .sc (.string ⟨#[]⟩), .own h'.next 0 m]])) := by
 have e1 : Sx.rows (L ++ [X]) = Sx.rows L ++ [X.cells] := by simp [Sx.rows_map]
 have n1 : ¬ h.next = h.next + 1 := by omega
 have n2 : ¬ h.next = H.next := by omega
 refine WrI.mk2 (p := .own h'.next 0 m) ((g.new _).set (by omega) _) (by simp only [Heap.set, Heap.new]; omega) ?_ ?_ ?_
 rotate_left
 ·simp only [Heap.set, if_true]
 ·rw [e1, ← t3]
  have : Tl (H.new (.arr 6 (Sx.rows L ++ [X.cells]))) (h.next + 2) 6 (.own H.next 0 m) (Sx.rows L ++ [X.cells]) := Tl.grow (by omega) (by rw [hm]; simp [Sx.rows_len])
  exact this.up (Nat.le_refl _) (fun j hj _ => by simp only [Heap.set]; rw [if_neg (by omega)])
 ·simp only [Heap.set, Heap.new, n1, n2, if_false]
  rw [t4 _ (by omega)]; exact o1
theorem a_heap {P : Program} {ow : Nat → Bool} {wf : FuncId → Bool} {n : Nat} {Q : Post} {s : Slots} {h0 : Heap} {c : Code} (I : Heap → Prop) (hi : I h0) (hh : ∀ h', I h' → awp P ow wf n c Q s h') : awp P ow wf n c Q s h0 := hh _ hi
theorem write_c : ∀ f : Fm, f.small → shapedF f = true → ∀ h : Heap, PCall Try.prog 65 [.agg f.cells] h fun r h' => r = .agg (fmW f).cells ∧ h' = h := by
 refine Fm.ind ?_
 intro op name args params exprs kids ih hsm hsh h
 simp only [Fm.small] at hsm
 obtain ⟨hal, hpl, hes, hkl, hks⟩ := hsm
 rw [Ex.smalls_iff] at hes
 rw [Fm.smalls_iff] at hks
 simp only [shapedF, Bool.and_eq_true] at hsh
 obtain ⟨⟨hpo, hse⟩, hsk⟩ := hsh
 rw [shapedFs_iff] at hsk
 rw [List.all_eq_true] at hse
 have hlK := Fm.rows_len kids
 unfold fmW
 refine PCall.frz Ty.hb_65 ?_
 cases k1 : (op.data.toList == (#[97, 116, 111, 109] : Array UInt8).toList) with
 | true =>
  rw [if_pos (show bEq op opAtom = true from k1)]
  have hw : ∀ h : Heap, PCall Try.prog 109 [sPV name, .imm 1 (strRows args)] h fun r h' => r = .agg (wordsM name args).cells ∧ h' = h := fun h => words_c hal
  have hfz := fun (n : Nat) (h : Heap) => sx_frz n h (wordsM name args)
  simp only [Fm.cells]
  generalize wordsM name args = X at hw hfz ⊢
  obtain ⟨ki, va, li, co, te, ks⟩ := X
  simp only [Sx.cells] at hw hfz ⊢
  refine pcall_body (ow := fun _ => false) (wf := fun _ => false) Ty.mixed Try.func65 rfl Ty.hb_65 (by rw [Try.ntmps65]; simp) ?_
  rw [Try.ntmps65, Try.results65]
  repeat' (first | refine a_seq fun K hK => ?_ | (refine a_regionS ?_; simp (maxSteps := 2000000) only [Ty.w, simprocAttr, k1]) | (refine hK _ _ ?_; clear hK; try simp only [pst0, simprocAttr]))
  refine owp_useQ (hw _) (by (try simp only [Ty.w, simprocAttr, k1]); try rfl) ?_; simp (maxSteps := 2000000) only [Ty.w, simprocAttr, k1]
  repeat' (first | (refine a_ret ?_; simp (maxSteps := 2000000) only [Ty.w, simprocAttr]) | (refine hK _ _ ?_; clear hK; try simp only [pst0, simprocAttr]))
  refine ⟨?_, ((Grow.refl h).new _).set (Nat.le_refl _) _⟩
  simp only [FrzTo]
  exact ⟨_, rfl, hfz _ _⟩
 | false =>
  cases k2 : (op.data.toList == (#[115, 97, 109, 101] : Array UInt8).toList) with
  | true =>
   rw [if_neg (by rw [(show bEq op opAtom = false from k1)]; simp)]
   rw [if_pos (show bEq op opSame = true from k2)]
   have hw : ∀ h : Heap, PCall Try.prog 109 [sPV ⟨#[61]⟩, .imm 1 (strRows args)] h fun r h' => r = .agg (wordsM opEq args).cells ∧ h' = h := fun h => words_c hal
   have hfz := fun (n : Nat) (h : Heap) => sx_frz n h (wordsM opEq args)
   simp only [Fm.cells]
   generalize wordsM opEq args = X at hw hfz ⊢
   obtain ⟨ki, va, li, co, te, ks⟩ := X
   simp only [Sx.cells] at hw hfz ⊢
   refine pcall_body (ow := fun _ => false) (wf := fun _ => false) Ty.mixed Try.func65 rfl Ty.hb_65 (by rw [Try.ntmps65]; simp) ?_
   rw [Try.ntmps65, Try.results65]
   repeat' (first | refine a_seq fun K hK => ?_ | (refine a_regionS ?_; simp (maxSteps := 2000000) only [Ty.w, simprocAttr, k1, k2]) | (refine hK _ _ ?_; clear hK; try simp only [pst0, simprocAttr]))
   refine owp_useQ (hw _) (by (try simp only [Ty.w, simprocAttr, k1, k2]); try rfl) ?_; simp (maxSteps := 2000000) only [Ty.w, simprocAttr, k1, k2]
   repeat' (first | (refine a_ret ?_; simp (maxSteps := 2000000) only [Ty.w, simprocAttr]) | (refine hK _ _ ?_; clear hK; try simp only [pst0, simprocAttr]))
   refine ⟨?_, ((Grow.refl h).new _).set (Nat.le_refl _) _⟩
   simp only [FrzTo]
   exact ⟨_, rfl, hfz _ _⟩
  | false =>
   rw [if_neg (by rw [(show bEq op opAtom = false from k1)]; simp), if_neg (by rw [(show bEq op opSame = false from k2)]; simp)]
   cases k3 : (op.data.toList == (#[60] : Array UInt8).toList) with
   | true =>
    rw [if_pos (by simp [isCmp, (show bEq op opAtom = false from k1), (show bEq op opSame = false from k2), (show bEq op opLt = true from k3)])]
    have hx2 : exprs.length = 2 := by have q := hpo; simp [partsOk, shapeOf, (show bEq op opAtom = false from k1), (show bEq op opSame = false from k2), (show bEq op opLt = true from k3)] at q; omega
    obtain ⟨a, b, rfl⟩ : ∃ a b, exprs = [a, b] := by
     match exprs, hx2 with
     | [a, b], _ => exact ⟨a, b, rfl⟩
    have ca := writeE_c a (hes a (by simp)) (hse a (by simp))
    have cb := writeE_c b (hes b (by simp)) (hse b (by simp))
    have hw := fun h : Heap => word_c (h := h) (s := op)
    simp only [List.map_cons, List.map_nil]
    have hfz := fun (n : Nat) (h : Heap) => sx_frz n h (listM [wordM op, exW a, exW b])
    have hl := fun h : Heap => list_c (h := h) (p := .imm 6 (Sx.rows [wordM op, exW a, exW b])) rfl (fun _ => frz_imm (sxs_in _ _))
    generalize exW a = xa at ca hfz hl ⊢
    generalize exW b = xb at cb hfz hl ⊢
    clear ih hks hpo hse hsk hes
    obtain ⟨aop, aname, an, aargs, akids⟩ := a
    obtain ⟨bop, bname, bn, bargs, bkids⟩ := b
    obtain ⟨ki, va, li, co, te, ks⟩ := xa
    obtain ⟨ki2, va2, li2, co2, te2, ks2⟩ := xb
    simp only [Fm.cells, Ex.cells, Ex.rows, listM, Sx.cells, Sx.rows, wordM] at ca cb hw hfz hl ⊢
    refine pcall_body (ow := fun _ => false) (wf := fun _ => false) Ty.mixed Try.func65 rfl Ty.hb_65 (by rw [Try.ntmps65]; simp) ?_
    rw [Try.ntmps65, Try.results65]
    repeat' (first | refine a_seq fun K hK => ?_ | ((first | refine a_regionS ?_ | refine a_drawS (by decide +kernel) ?_); simp (maxSteps := 2000000) only [Ty.w, simprocAttr, k1, k2, k3]) | (refine a_skip ?_; try simp only [pst0, simprocAttr]) | (refine a_cond _ (by (try simp (maxSteps := 2000000) only [Ty.w, simprocAttr, k1, k2, k3]); rfl) (fun hb => ?_) (fun hb => ?_) <;> (try simp only [hb0, decide_eq_true_eq, decide_eq_false_iff_not, simprocAttr] at hb) <;> (try (exfalso; omega))) | (refine hK _ _ ?_; clear hK; try simp only [pst0, simprocAttr]))
    (first | refine a_dcall0 (hw _) (by (try simp only [Ty.w, simprocAttr, ]); try rfl) ?_ | refine a_dcallA (hw _) (by (try simp only [Ty.w, simprocAttr, ]); try rfl) (by simp only [Ty.w, simprocAttr, ]; try trivial) ?_); simp (maxSteps := 2000000) only [Ty.w, simprocAttr, Option.getD_some, ]
    skip
    (first | refine a_dcall0 (ca _) (by (try simp only [Ty.w, simprocAttr, ]); try rfl) ?_ | refine a_dcallA (ca _) (by (try simp only [Ty.w, simprocAttr, ]); try rfl) (by simp only [Ty.w, simprocAttr, ]; try trivial) ?_); simp (maxSteps := 2000000) only [Ty.w, simprocAttr, Option.getD_some, ]
    skip
    (first | refine a_dcall0 (cb _) (by (try simp only [Ty.w, simprocAttr, ]); try rfl) ?_ | refine a_dcallA (cb _) (by (try simp only [Ty.w, simprocAttr, ]); try rfl) (by simp only [Ty.w, simprocAttr, ]; try trivial) ?_); simp (maxSteps := 2000000) only [Ty.w, simprocAttr, Option.getD_some, ]
    skip
    (first | refine a_dcall0 (hl _) (by (try simp only [Ty.w, simprocAttr, ]); try rfl) ?_ | refine a_dcallA (hl _) (by (try simp only [Ty.w, simprocAttr, ]); try rfl) (by simp only [Ty.w, simprocAttr, ]; try trivial) ?_); simp (maxSteps := 2000000) only [Ty.w, simprocAttr, Option.getD_some, ]
    repeat' (first | (refine a_ret ?_; simp (maxSteps := 2000000) only [Ty.w, simprocAttr]) | (refine hK _ _ ?_; clear hK; try simp only [pst0, simprocAttr]) | (with_reducible refine a_past2 (by simp only [List.forall_mem_cons, Ty.w, simprocAttr]; (repeat' apply And.intro) <;> first | trivial | exact .inl (by decide +kernel)) ?_; try simp (maxSteps := 2000000) only [Ty.w, simprocAttr]))
    refine ⟨?_, ((Grow.refl h).new _).set (Nat.le_refl _) _⟩
    simp only [FrzTo]
    exact ⟨_, rfl, hfz _ _⟩
   | false =>
    cases k4 : (op.data.toList == (#[60, 61] : Array UInt8).toList) with
    | true =>
     rw [if_pos (by simp [isCmp, (show bEq op opAtom = false from k1), (show bEq op opSame = false from k2), (show bEq op opLt = false from k3), (show bEq op opLe = true from k4)])]
     have hx2 : exprs.length = 2 := by have q := hpo; simp [partsOk, shapeOf, (show bEq op opAtom = false from k1), (show bEq op opSame = false from k2), (show bEq op opLt = false from k3), (show bEq op opLe = true from k4)] at q; omega
     obtain ⟨a, b, rfl⟩ : ∃ a b, exprs = [a, b] := by
      match exprs, hx2 with
      | [a, b], _ => exact ⟨a, b, rfl⟩
     have ca := writeE_c a (hes a (by simp)) (hse a (by simp))
     have cb := writeE_c b (hes b (by simp)) (hse b (by simp))
     have hw := fun h : Heap => word_c (h := h) (s := op)
     simp only [List.map_cons, List.map_nil]
     have hfz := fun (n : Nat) (h : Heap) => sx_frz n h (listM [wordM op, exW a, exW b])
     have hl := fun h : Heap => list_c (h := h) (p := .imm 6 (Sx.rows [wordM op, exW a, exW b])) rfl (fun _ => frz_imm (sxs_in _ _))
     generalize exW a = xa at ca hfz hl ⊢
     generalize exW b = xb at cb hfz hl ⊢
     clear ih hks hpo hse hsk hes
     obtain ⟨aop, aname, an, aargs, akids⟩ := a
     obtain ⟨bop, bname, bn, bargs, bkids⟩ := b
     obtain ⟨ki, va, li, co, te, ks⟩ := xa
     obtain ⟨ki2, va2, li2, co2, te2, ks2⟩ := xb
     simp only [Fm.cells, Ex.cells, Ex.rows, listM, Sx.cells, Sx.rows, wordM] at ca cb hw hfz hl ⊢
     refine pcall_body (ow := fun _ => false) (wf := fun _ => false) Ty.mixed Try.func65 rfl Ty.hb_65 (by rw [Try.ntmps65]; simp) ?_
     rw [Try.ntmps65, Try.results65]
     repeat' (first | refine a_seq fun K hK => ?_ | ((first | refine a_regionS ?_ | refine a_drawS (by decide +kernel) ?_); simp (maxSteps := 2000000) only [Ty.w, simprocAttr, k1, k2, k3, k4]) | (refine a_skip ?_; try simp only [pst0, simprocAttr]) | (refine a_cond _ (by (try simp (maxSteps := 2000000) only [Ty.w, simprocAttr, k1, k2, k3, k4]); rfl) (fun hb => ?_) (fun hb => ?_) <;> (try simp only [hb0, decide_eq_true_eq, decide_eq_false_iff_not, simprocAttr] at hb) <;> (try (exfalso; omega))) | (refine hK _ _ ?_; clear hK; try simp only [pst0, simprocAttr]))
     (first | refine a_dcall0 (hw _) (by (try simp only [Ty.w, simprocAttr, ]); try rfl) ?_ | refine a_dcallA (hw _) (by (try simp only [Ty.w, simprocAttr, ]); try rfl) (by simp only [Ty.w, simprocAttr, ]; try trivial) ?_); simp (maxSteps := 2000000) only [Ty.w, simprocAttr, Option.getD_some, ]
     skip
     (first | refine a_dcall0 (ca _) (by (try simp only [Ty.w, simprocAttr, ]); try rfl) ?_ | refine a_dcallA (ca _) (by (try simp only [Ty.w, simprocAttr, ]); try rfl) (by simp only [Ty.w, simprocAttr, ]; try trivial) ?_); simp (maxSteps := 2000000) only [Ty.w, simprocAttr, Option.getD_some, ]
     skip
     (first | refine a_dcall0 (cb _) (by (try simp only [Ty.w, simprocAttr, ]); try rfl) ?_ | refine a_dcallA (cb _) (by (try simp only [Ty.w, simprocAttr, ]); try rfl) (by simp only [Ty.w, simprocAttr, ]; try trivial) ?_); simp (maxSteps := 2000000) only [Ty.w, simprocAttr, Option.getD_some, ]
     skip
     (first | refine a_dcall0 (hl _) (by (try simp only [Ty.w, simprocAttr, ]); try rfl) ?_ | refine a_dcallA (hl _) (by (try simp only [Ty.w, simprocAttr, ]); try rfl) (by simp only [Ty.w, simprocAttr, ]; try trivial) ?_); simp (maxSteps := 2000000) only [Ty.w, simprocAttr, Option.getD_some, ]
     repeat' (first | (refine a_ret ?_; simp (maxSteps := 2000000) only [Ty.w, simprocAttr]) | (refine hK _ _ ?_; clear hK; try simp only [pst0, simprocAttr]) | (with_reducible refine a_past2 (by simp only [List.forall_mem_cons, Ty.w, simprocAttr]; (repeat' apply And.intro) <;> first | trivial | exact .inl (by decide +kernel)) ?_; try simp (maxSteps := 2000000) only [Ty.w, simprocAttr]))
     refine ⟨?_, ((Grow.refl h).new _).set (Nat.le_refl _) _⟩
     simp only [FrzTo]
     exact ⟨_, rfl, hfz _ _⟩
    | false =>
     cases k5 : (op.data.toList == (#[61] : Array UInt8).toList) with
     | true =>
      rw [if_pos (by simp [isCmp, (show bEq op opAtom = false from k1), (show bEq op opSame = false from k2), (show bEq op opLt = false from k3), (show bEq op opLe = false from k4), (show bEq op opEq = true from k5)])]
      have hx2 : exprs.length = 2 := by have q := hpo; simp [partsOk, shapeOf, (show bEq op opAtom = false from k1), (show bEq op opSame = false from k2), (show bEq op opLt = false from k3), (show bEq op opLe = false from k4), (show bEq op opEq = true from k5)] at q; omega
      obtain ⟨a, b, rfl⟩ : ∃ a b, exprs = [a, b] := by
       match exprs, hx2 with
       | [a, b], _ => exact ⟨a, b, rfl⟩
      have ca := writeE_c a (hes a (by simp)) (hse a (by simp))
      have cb := writeE_c b (hes b (by simp)) (hse b (by simp))
      have hw := fun h : Heap => word_c (h := h) (s := op)
      simp only [List.map_cons, List.map_nil]
      have hfz := fun (n : Nat) (h : Heap) => sx_frz n h (listM [wordM op, exW a, exW b])
      have hl := fun h : Heap => list_c (h := h) (p := .imm 6 (Sx.rows [wordM op, exW a, exW b])) rfl (fun _ => frz_imm (sxs_in _ _))
      generalize exW a = xa at ca hfz hl ⊢
      generalize exW b = xb at cb hfz hl ⊢
      clear ih hks hpo hse hsk hes
      obtain ⟨aop, aname, an, aargs, akids⟩ := a
      obtain ⟨bop, bname, bn, bargs, bkids⟩ := b
      obtain ⟨ki, va, li, co, te, ks⟩ := xa
      obtain ⟨ki2, va2, li2, co2, te2, ks2⟩ := xb
      simp only [Fm.cells, Ex.cells, Ex.rows, listM, Sx.cells, Sx.rows, wordM] at ca cb hw hfz hl ⊢
      refine pcall_body (ow := fun _ => false) (wf := fun _ => false) Ty.mixed Try.func65 rfl Ty.hb_65 (by rw [Try.ntmps65]; simp) ?_
      rw [Try.ntmps65, Try.results65]
      repeat' (first | refine a_seq fun K hK => ?_ | ((first | refine a_regionS ?_ | refine a_drawS (by decide +kernel) ?_); simp (maxSteps := 2000000) only [Ty.w, simprocAttr, k1, k2, k3, k4, k5]) | (refine a_cond _ (by (try simp (maxSteps := 2000000) only [Ty.w, simprocAttr, k1, k2, k3, k4, k5]); rfl) (fun hb => ?_) (fun hb => ?_) <;> (try simp only [hb0, decide_eq_true_eq, decide_eq_false_iff_not, simprocAttr] at hb) <;> (try (exfalso; omega))) | (refine hK _ _ ?_; clear hK; try simp only [pst0, simprocAttr]))
      (first | refine a_dcall0 (hw _) (by (try simp only [Ty.w, simprocAttr, ]); try rfl) ?_ | refine a_dcallA (hw _) (by (try simp only [Ty.w, simprocAttr, ]); try rfl) (by simp only [Ty.w, simprocAttr, ]; try trivial) ?_); simp (maxSteps := 2000000) only [Ty.w, simprocAttr, Option.getD_some, ]
      skip
      (first | refine a_dcall0 (ca _) (by (try simp only [Ty.w, simprocAttr, ]); try rfl) ?_ | refine a_dcallA (ca _) (by (try simp only [Ty.w, simprocAttr, ]); try rfl) (by simp only [Ty.w, simprocAttr, ]; try trivial) ?_); simp (maxSteps := 2000000) only [Ty.w, simprocAttr, Option.getD_some, ]
      skip
      (first | refine a_dcall0 (cb _) (by (try simp only [Ty.w, simprocAttr, ]); try rfl) ?_ | refine a_dcallA (cb _) (by (try simp only [Ty.w, simprocAttr, ]); try rfl) (by simp only [Ty.w, simprocAttr, ]; try trivial) ?_); simp (maxSteps := 2000000) only [Ty.w, simprocAttr, Option.getD_some, ]
      skip
      (first | refine a_dcall0 (hl _) (by (try simp only [Ty.w, simprocAttr, ]); try rfl) ?_ | refine a_dcallA (hl _) (by (try simp only [Ty.w, simprocAttr, ]); try rfl) (by simp only [Ty.w, simprocAttr, ]; try trivial) ?_); simp (maxSteps := 2000000) only [Ty.w, simprocAttr, Option.getD_some, ]
      repeat' (first | (refine a_ret ?_; simp (maxSteps := 2000000) only [Ty.w, simprocAttr]) | (refine hK _ _ ?_; clear hK; try simp only [pst0, simprocAttr]) | (with_reducible refine a_past2 (by simp only [List.forall_mem_cons, Ty.w, simprocAttr]; (repeat' apply And.intro) <;> first | trivial | exact .inl (by decide +kernel)) ?_; try simp (maxSteps := 2000000) only [Ty.w, simprocAttr]))
      refine ⟨?_, ((Grow.refl h).new _).set (Nat.le_refl _) _⟩
      simp only [FrzTo]
      exact ⟨_, rfl, hfz _ _⟩
     | false =>
      rw [if_neg (by simp [isCmp, (show bEq op opLt = false from k3), (show bEq op opLe = false from k4), (show bEq op opEq = false from k5)])]
      clear hse hes hpo
      simp only [Fm.cells]
      refine pcall_body (ow := fun _ => false) (wf := fun _ => false) Ty.mixed Try.func65 rfl Ty.hb_65 (by rw [Try.ntmps65]; simp) ?_
      rw [Try.ntmps65, Try.results65]
      repeat' (first | refine a_seq fun K hK => ?_ | (refine a_block ?_) | (refine a_regionS ?_; simp (maxSteps := 2000000) only [Ty.w, simprocAttr, k1, k2, k3, k4, k5]) | (refine a_skip ?_; try simp only [pst0, simprocAttr]) | (refine a_cond _ (by (try simp (maxSteps := 2000000) only [Ty.w, simprocAttr, k1, k2, k3, k4, k5]); rfl) (fun hb => ?_) (fun hb => ?_) <;> (try simp only [hb0, decide_eq_true_eq, decide_eq_false_iff_not, simprocAttr] at hb) <;> (try (exfalso; omega))) | (refine hK _ _ ?_; clear hK; try simp only [pst0, simprocAttr]))
      refine owp_useQ (list_c (p := .sc (.slice none 0 0)) rfl (fun _ => by simp only [FrzTo])) (by (try simp only [Ty.w, simprocAttr, k1]); try rfl) ?_; simp (maxSteps := 2000000) only [Ty.w, simprocAttr, k1]
      repeat' (first | (with_reducible refine a_hold 11 ?_) | (refine hK _ _ ?_; clear hK; try simp only [pst0, simprocAttr]))
      refine ⟨?_⟩
      refine a_heap (WrI h []) ?_ (fun H0 hI => ?_)
      ·refine WrI.mk2 (p := .sc (.slice none 0 0)) ((((Grow.refl h).new _).new _).set (by omega) _) (by simp [Heap.new, Heap.set]) (by simp [Heap.new, Heap.set]) (by simp [Heap.new, Heap.set]) Tl.nil
      refine a_cut (fun S h' => S 1 = .cptr (Fm.mk op name args params exprs kids).cells ∧ S 2 = .ptr h.next 0 0 ∧ S 3 = .ptr (h.next + 1) 0 0 ∧ WrI h (if (bEq op opAnd && kids.isEmpty) = true then [] else [wordM op]) h') ?_ ?_
      ·have n6 : bEq op opAnd = (op.data.toList == (#[97, 110, 100] : Array UInt8).toList) := rfl
       cases k6 : (op.data.toList == (#[97, 110, 100] : Array UInt8).toList) with
       | false =>
        rw [if_neg (by rw [n6, k6]; simp)]
        obtain ⟨hg, p, H, hn, o1, o2, tl, t1, t2, t3, t4, hgH, hpc, hp1⟩ := hI
        have hw : ∀ (s : ByteArray) (h : Heap), PCall Try.prog 111 [sPV s] h fun r h' => r = .agg (wordM s).cells ∧ h' = h := fun s h => word_c
        simp only [wordM, Sx.cells, Sx.rows] at hw
        have o2H : H.obj (h.next + 1) = _ := (t4 _ (by omega)).trans o2
        have n2 : (h.next + 1 = H.next) = False := by simp; omega
        have hpr : (Sx.rows ([] : List Sx)).length = 0 := rfl
        have hpush := fun X : Sx => WrI.push (L := []) (X := X) (m := 1) hn o1 t3 t4 hgH rfl
        generalize Sx.rows [] = R at t1 hpr hpush
        have W := And.intro k6 (And.intro o2 (And.intro o2H (And.intro n2 (And.intro t1 (And.intro t2 (And.intro hpr (And.intro hpc hp1)))))))
        repeat' (first | refine a_seq fun K hK => ?_ | ((first | refine a_regionS ?_ | refine a_drawS (by decide +kernel) ?_); simp (maxSteps := 2000000) only [Ty.w, simprocAttr, W, Bool.not_false]) | (refine a_cond _ (by (try simp (maxSteps := 2000000) only [Ty.w, simprocAttr, W, Bool.not_false]); rfl) (fun hb => ?_) (fun hb => ?_) <;> (try simp only [hb0, decide_eq_true_eq, decide_eq_false_iff_not, simprocAttr] at hb) <;> (try (exfalso; omega))) | (refine hK _ _ ?_; clear hK; try simp only [pst0, simprocAttr]))
        (first | refine a_dcall0 (hw op _) (by (try simp only [Ty.w, simprocAttr, W, Bool.not_false]); try rfl) ?_ | refine a_dcallA (hw op _) (by (try simp only [Ty.w, simprocAttr, W, Bool.not_false]); try rfl) (by simp only [Ty.w, simprocAttr, W, Bool.not_false]; try trivial) ?_); simp (maxSteps := 2000000) only [Ty.w, simprocAttr, W, Option.getD_some, Bool.not_false]
        repeat' (first | (with_reducible refine a_past2 (by simp only [List.forall_mem_cons, Ty.w, simprocAttr, k6, Bool.not_false, o2, o2H, n2, t1, t2, hpr, hpc, hp1]; (repeat' apply And.intro) <;> first | trivial | exact .inl (by decide +kernel)) ?_; try simp (maxSteps := 2000000) only [Ty.w, simprocAttr, W, Bool.not_false]) | (rw [if_pos]; rotate_left 1; omega; simp (maxSteps := 2000000) only [Ty.w, simprocAttr, W, Bool.not_false]))
        (simp (maxSteps := 2000000) only [Ty.w, simprocAttr, Ty.all, Fm.cells])
        exact hpush (wordM op)
       | true =>
        cases q6 : decide ((kids.length : Int) > 0) with
        | false =>
         have hk0 : kids.isEmpty = true := by cases kids with | nil => rfl | cons a l => simp at q6
         rw [if_pos (by rw [n6, k6, hk0]; try rfl)]
         repeat' (first | refine a_seq fun K hK => ?_ | (refine a_regionS ?_; simp (maxSteps := 2000000) only [Ty.w, simprocAttr, k6, q6, hlK, Bool.not_true]) | (refine a_skip ?_; try simp only [pst0, simprocAttr]) | (refine a_cond _ (by (try simp (maxSteps := 2000000) only [Ty.w, simprocAttr, k6, q6, hlK, Bool.not_true]); rfl) (fun hb => ?_) (fun hb => ?_) <;> (try simp only [hb0, decide_eq_true_eq, decide_eq_false_iff_not, simprocAttr] at hb) <;> (try (exfalso; omega))) | (refine hK _ _ ?_; clear hK; try simp only [pst0, simprocAttr]))
         (simp (maxSteps := 2000000) only [Ty.w, simprocAttr, Ty.all, Fm.cells])
         exact hI
        | true =>
         have hk0 : kids.isEmpty = false := by cases kids with | nil => simp at q6 | cons a l => rfl
         rw [if_neg (by rw [hk0]; simp)]
         obtain ⟨hg, p, H, hn, o1, o2, tl, t1, t2, t3, t4, hgH, hpc, hp1⟩ := hI
         have hw : ∀ (s : ByteArray) (h : Heap), PCall Try.prog 111 [sPV s] h fun r h' => r = .agg (wordM s).cells ∧ h' = h := fun s h => word_c
         simp only [wordM, Sx.cells, Sx.rows] at hw
         have o2H : H.obj (h.next + 1) = _ := (t4 _ (by omega)).trans o2
         have n2 : (h.next + 1 = H.next) = False := by simp; omega
         have hpr : (Sx.rows ([] : List Sx)).length = 0 := rfl
         have hpush := fun X : Sx => WrI.push (L := []) (X := X) (m := 1) hn o1 t3 t4 hgH rfl
         generalize Sx.rows [] = R at t1 hpr hpush
         have W := And.intro k6 (And.intro q6 (And.intro hlK (And.intro o2 (And.intro o2H (And.intro n2 (And.intro t1 (And.intro t2 (And.intro hpr (And.intro hpc hp1)))))))))
         repeat' (first | refine a_seq fun K hK => ?_ | ((first | refine a_regionS ?_ | refine a_drawS (by decide +kernel) ?_); simp (maxSteps := 2000000) only [Ty.w, simprocAttr, W, Bool.not_true]) | (refine a_cond _ (by (try simp (maxSteps := 2000000) only [Ty.w, simprocAttr, W, Bool.not_true]); rfl) (fun hb => ?_) (fun hb => ?_) <;> (try simp only [hb0, decide_eq_true_eq, decide_eq_false_iff_not, simprocAttr] at hb) <;> (try (exfalso; omega))) | (refine hK _ _ ?_; clear hK; try simp only [pst0, simprocAttr]))
         (first | refine a_dcall0 (hw op _) (by (try simp only [Ty.w, simprocAttr, W, Bool.not_true]); try rfl) ?_ | refine a_dcallA (hw op _) (by (try simp only [Ty.w, simprocAttr, W, Bool.not_true]); try rfl) (by simp only [Ty.w, simprocAttr, W, Bool.not_true]; try trivial) ?_); simp (maxSteps := 2000000) only [Ty.w, simprocAttr, W, Option.getD_some, Bool.not_true]
         repeat' (first | (with_reducible refine a_past2 (by simp only [List.forall_mem_cons, Ty.w, simprocAttr, k6, q6, hlK, Bool.not_true, o2, o2H, n2, t1, t2, hpr, hpc, hp1]; (repeat' apply And.intro) <;> first | trivial | exact .inl (by decide +kernel)) ?_; try simp (maxSteps := 2000000) only [Ty.w, simprocAttr, W, Bool.not_true]) | (rw [if_pos]; rotate_left 1; omega; simp (maxSteps := 2000000) only [Ty.w, simprocAttr, W, Bool.not_true]))
         (simp (maxSteps := 2000000) only [Ty.w, simprocAttr, Ty.all, Fm.cells])
         exact hpush (wordM op)
      ·clear hI
       obtain ⟨L0, hL0, hl0⟩ : ∃ L0 : List Sx, (if (bEq op opAnd && kids.isEmpty) = true then [] else [wordM op]) = L0 ∧ L0.length ≤ 1 := ⟨_, rfl, by split <;> simp⟩
       rw [hL0]
       rintro S h' ⟨g1, g2, g3, hI⟩
       simp only [Fm.cells] at g1
       repeat' (with_reducible refine a_hold 13 ?_)
       refine ⟨?_⟩
       refine a_cut (fun S h' => S 1 = .cptr (Fm.mk op name args params exprs kids).cells ∧ S 2 = .ptr h.next 0 0 ∧ S 3 = .ptr (h.next + 1) 0 0 ∧ WrI h (L0 ++ (if isQ op = true then [listM (paramsW params)] else [])) h') ?_ ?_
       ·have n7 : bEq op opAll = (op.data.toList == (#[102, 111, 114, 97, 108, 108] : Array UInt8).toList) := rfl
        have n8 : bEq op opSome = (op.data.toList == (#[101, 120, 105, 115, 116, 115] : Array UInt8).toList) := rfl
        cases k7 : (op.data.toList == (#[102, 111, 114, 97, 108, 108] : Array UInt8).toList) with
        | true =>
         rw [if_pos (by simp [isQ, n7, n8, k7])]
         obtain ⟨hg, p, H, hn, o1, o2, tl, t1, t2, t3, t4, hgH, hpc, hp1⟩ := hI
         have hwp := writeParams_c (l := params) hpl
         have hli : ∀ h : Heap, PCall Try.prog 110 [.imm 6 (Sx.rows (paramsW params))] h fun r h' => r = .agg (listM (paramsW params)).cells ∧ h' = h := fun h => list_c rfl (fun _ => frz_imm (sxs_in _ _))
         generalize hX : listM (paramsW params) = X at hli ⊢
         clear hX
         generalize Sx.rows (paramsW params) = PR at hwp hli
         have o2H : H.obj (h.next + 1) = _ := (t4 _ (by omega)).trans o2
         have n2 : (h.next + 1 = H.next) = False := by simp; omega
         have hpr := Sx.rows_len L0
         have hpush := WrI.push (L := L0) (X := X) (m := L0.length + 1) hn o1 t3 t4 hgH rfl
         generalize Sx.rows L0 = R at t1 hpr hpush
         have hb : (L0.length + 1) * 72 ≤ 140737488355328 := by omega
         obtain ⟨ki, va, li, co, te, ks⟩ := X
         simp only [Sx.cells] at hli hpush
         have W := And.intro g1 (And.intro g2 (And.intro g3 (And.intro k7 (And.intro o2 (And.intro o2H (And.intro n2 (And.intro t1 (And.intro t2 (And.intro hpr (And.intro hpc (And.intro hp1 hb)))))))))))
         repeat' (first | refine a_seq fun K hK => ?_ | ((first | refine a_regionS ?_ | refine a_drawS (by decide +kernel) ?_); simp (maxSteps := 2000000) only [Ty.w, simprocAttr, W]) | (refine a_cond _ (by (try simp (maxSteps := 2000000) only [Ty.w, simprocAttr, W]); rfl) (fun hb => ?_) (fun hb => ?_) <;> (try simp only [hb0, decide_eq_true_eq, decide_eq_false_iff_not, simprocAttr] at hb) <;> (try (exfalso; omega))) | (refine hK _ _ ?_; clear hK; try simp only [pst0, simprocAttr]))
         (first | refine a_dcall0 (hwp _) (by (try simp only [Ty.w, simprocAttr, W]); try rfl) ?_ | refine a_dcallA (hwp _) (by (try simp only [Ty.w, simprocAttr, W]); try rfl) (by simp only [Ty.w, simprocAttr, W]; try trivial) ?_); simp (maxSteps := 2000000) only [Ty.w, simprocAttr, W, Option.getD_some]
         skip
         (first | refine a_dcall0 (hli _) (by (try simp only [Ty.w, simprocAttr, W]); try rfl) ?_ | refine a_dcallA (hli _) (by (try simp only [Ty.w, simprocAttr, W]); try rfl) (by simp only [Ty.w, simprocAttr, W]; try trivial) ?_); simp (maxSteps := 2000000) only [Ty.w, simprocAttr, W, Option.getD_some]
         repeat' (first | (with_reducible refine a_past2 (by simp only [List.forall_mem_cons, Ty.w, simprocAttr, g1, g2, g3, k7, o2, o2H, n2, t1, t2, hpr, hpc, hp1, hb]; (repeat' apply And.intro) <;> first | trivial | exact .inl (by decide +kernel)) ?_; try simp (maxSteps := 2000000) only [Ty.w, simprocAttr, W]) | (rw [if_pos]; rotate_left 1; omega; simp (maxSteps := 2000000) only [Ty.w, simprocAttr, W]))
         (simp (maxSteps := 2000000) only [Ty.w, simprocAttr, W, Ty.all, Fm.cells])
         exact hpush
        | false =>
         cases k8 : (op.data.toList == (#[101, 120, 105, 115, 116, 115] : Array UInt8).toList) with
         | true =>
          rw [if_pos (by simp [isQ, n7, n8, k8])]
          obtain ⟨hg, p, H, hn, o1, o2, tl, t1, t2, t3, t4, hgH, hpc, hp1⟩ := hI
          have hwp := writeParams_c (l := params) hpl
          have hli : ∀ h : Heap, PCall Try.prog 110 [.imm 6 (Sx.rows (paramsW params))] h fun r h' => r = .agg (listM (paramsW params)).cells ∧ h' = h := fun h => list_c rfl (fun _ => frz_imm (sxs_in _ _))
          generalize hX : listM (paramsW params) = X at hli ⊢
          clear hX
          generalize Sx.rows (paramsW params) = PR at hwp hli
          have o2H : H.obj (h.next + 1) = _ := (t4 _ (by omega)).trans o2
          have n2 : (h.next + 1 = H.next) = False := by simp; omega
          have hpr := Sx.rows_len L0
          have hpush := WrI.push (L := L0) (X := X) (m := L0.length + 1) hn o1 t3 t4 hgH rfl
          generalize Sx.rows L0 = R at t1 hpr hpush
          have hb : (L0.length + 1) * 72 ≤ 140737488355328 := by omega
          obtain ⟨ki, va, li, co, te, ks⟩ := X
          simp only [Sx.cells] at hli hpush
          have W := And.intro g1 (And.intro g2 (And.intro g3 (And.intro k7 (And.intro k8 (And.intro o2 (And.intro o2H (And.intro n2 (And.intro t1 (And.intro t2 (And.intro hpr (And.intro hpc (And.intro hp1 hb))))))))))))
          repeat' (first | refine a_seq fun K hK => ?_ | ((first | refine a_regionS ?_ | refine a_drawS (by decide +kernel) ?_); simp (maxSteps := 2000000) only [Ty.w, simprocAttr, W]) | (refine a_cond _ (by (try simp (maxSteps := 2000000) only [Ty.w, simprocAttr, W]); rfl) (fun hb => ?_) (fun hb => ?_) <;> (try simp only [hb0, decide_eq_true_eq, decide_eq_false_iff_not, simprocAttr] at hb) <;> (try (exfalso; omega))) | (refine hK _ _ ?_; clear hK; try simp only [pst0, simprocAttr]))
          (first | refine a_dcall0 (hwp _) (by (try simp only [Ty.w, simprocAttr, W]); try rfl) ?_ | refine a_dcallA (hwp _) (by (try simp only [Ty.w, simprocAttr, W]); try rfl) (by simp only [Ty.w, simprocAttr, W]; try trivial) ?_); simp (maxSteps := 2000000) only [Ty.w, simprocAttr, W, Option.getD_some]
          skip
          (first | refine a_dcall0 (hli _) (by (try simp only [Ty.w, simprocAttr, W]); try rfl) ?_ | refine a_dcallA (hli _) (by (try simp only [Ty.w, simprocAttr, W]); try rfl) (by simp only [Ty.w, simprocAttr, W]; try trivial) ?_); simp (maxSteps := 2000000) only [Ty.w, simprocAttr, W, Option.getD_some]
          repeat' (first | (with_reducible refine a_past2 (by simp only [List.forall_mem_cons, Ty.w, simprocAttr, g1, g2, g3, k7, k8, o2, o2H, n2, t1, t2, hpr, hpc, hp1, hb]; (repeat' apply And.intro) <;> first | trivial | exact .inl (by decide +kernel)) ?_; try simp (maxSteps := 2000000) only [Ty.w, simprocAttr, W]) | (rw [if_pos]; rotate_left 1; omega; simp (maxSteps := 2000000) only [Ty.w, simprocAttr, W]))
          (simp (maxSteps := 2000000) only [Ty.w, simprocAttr, W, Ty.all, Fm.cells])
          exact hpush
         | false =>
          rw [if_neg (by simp [isQ, n7, n8, k7, k8]), List.append_nil]
          repeat' (first | refine a_seq fun K hK => ?_ | (refine a_regionS ?_; simp (maxSteps := 2000000) only [Ty.w, simprocAttr, g1, g2, g3, k7, k8]) | (refine a_skip ?_; try simp only [pst0, simprocAttr]) | (refine a_cond _ (by (try simp (maxSteps := 2000000) only [Ty.w, simprocAttr, g1, g2, g3, k7, k8]); rfl) (fun hb => ?_) (fun hb => ?_) <;> (try simp only [hb0, decide_eq_true_eq, decide_eq_false_iff_not, simprocAttr] at hb) <;> (try (exfalso; omega))) | (refine hK _ _ ?_; clear hK; try simp only [pst0, simprocAttr]))
          (simp (maxSteps := 2000000) only [Ty.w, simprocAttr, Ty.all, g1, g2, g3, Fm.cells])
          exact hI
       ·clear hI g1 g2 g3
        obtain ⟨L1, hL1, hl1⟩ : ∃ L1 : List Sx, L0 ++ (if isQ op = true then [listM (paramsW params)] else []) = L1 ∧ L1.length ≤ 2 := ⟨_, rfl, by split <;> simp <;> omega⟩
        rw [hL1]
        rw [fmWs_map]
        clear hL1 hL0 hl0
        rintro S h' ⟨g1, g2, g3, hI⟩
        simp only [Fm.cells] at g1
        have hrl : ∀ k, (L1 ++ (kids.take k).map fmW).length ≤ 1048578 := fun k => by simp; omega
        repeat' (first | refine a_seq fun K hK => ?_ | (refine a_block ?_) | (refine a_regionS ?_; simp (maxSteps := 2000000) only [Ty.w, simprocAttr, g1, g2, g3, hlK]) | (refine hK _ _ ?_; clear hK; try simp only [pst0, simprocAttr]))
        refine a_loop (fun c S h' => S 2 = .ptr h.next 0 0 ∧ S 3 = .ptr (h.next + 1) 0 0 ∧ S 75 = .imm 6 (Fm.rows kids) ∧ S 76 = .sc (.int .i64 kids.length) ∧ ∃ k : Nat, S 77 = .sc (.int .i64 k) ∧ k ≤ kids.length ∧ c = kids.length - k ∧ WrI h (L1 ++ (kids.take k).map fmW) h') kids.length ?_ ?_
        ·simp only [Ty.w, simprocAttr, g2, g3]
         refine ⟨0, rfl, by omega, rfl, ?_⟩
         simpa using hI
        ·clear hI g1 g2 g3
         rintro c S h' ⟨g2, g3, g75, g76, k, g77, hk, rfl, hI⟩
         by_cases hlt : k < kids.length
         ·have hdk : decide ((k : Int) < (kids.length : Int)) = true := by simp; omega
          have w7 : IntKind.i64.wrap ((k : Int) + 1) = k + 1 := by rw [wrap64 (by omega) (by omega)]
          obtain ⟨x, hx⟩ : ∃ x, kids[k]? = some x := ⟨_, List.getElem?_eq_getElem hlt⟩
          have hmem := List.mem_of_getElem? hx
          have hr := Fm.rows_get hx
          have hcx := ih x hmem (hks x hmem) (hsk x hmem)
          have hL : L1 ++ (kids.take (k + 1)).map fmW = L1 ++ (kids.take k).map fmW ++ [fmW x] := by rw [List.take_add_one, hx]; simp
          have hrk := hrl k
          generalize L1 ++ (kids.take k).map fmW = L2 at hI hrk hL
          obtain ⟨hg, p, H, hn, o1, o2, tl, t1, t2, t3, t4, hgH, hpc, hp1⟩ := hI
          generalize fmW x = X at hcx hL
          obtain ⟨xo, xn, xa, xp, xe, xk⟩ := x
          obtain ⟨ki, va, li, co, te, ks⟩ := X
          simp only [Fm.cells, Sx.cells] at hr hcx
          clear t1 t2 t3 t4 hgH H
          have hG2 : Grow h ((h'.new (.arr 6 [[.sc (.string ⟨#[]⟩), .sc (.string ⟨#[]⟩), .sc (.slice none 0 0), .sc (.slice none 0 0), .sc (.slice none 0 0), .sc (.slice none 0 0)]])).set h'.next (.arr 6 [[sPV xo, sPV xn, .imm 1 (strRows xa), .imm 2 (pmRows xp), .imm 5 (Ex.rows xe), .imm 6 (Fm.rows xk)]])) := (hg.new _).set hg.le _
          have m1 : ¬ h.next = h'.next := by omega
          have m2 : ¬ h.next + 1 = h'.next := by omega
          have m2' : (h.next + 1 = h'.next) = False := eq_false m2
          have tl2 := tl.up (h' := ((h'.new (.arr 6 [[.sc (.string ⟨#[]⟩), .sc (.string ⟨#[]⟩), .sc (.slice none 0 0), .sc (.slice none 0 0), .sc (.slice none 0 0), .sc (.slice none 0 0)]])).set h'.next (.arr 6 [[sPV xo, sPV xn, .imm 1 (strRows xa), .imm 2 (pmRows xp), .imm 5 (Ex.rows xe), .imm 6 (Fm.rows xk)]]))) (by simp [Heap.set, Heap.new]) fun j _ hj => by simp only [Heap.set, Heap.new]; rw [if_neg (by omega), if_neg (by omega)]
          obtain ⟨H, t1, t2, t3, t4, t5⟩ := tl2.tail
          have hgH := t5 h ⟨hG2.le, hG2.old⟩ (by omega)
          have o1x : ((h'.new (.arr 6 [[.sc (.string ⟨#[]⟩), .sc (.string ⟨#[]⟩), .sc (.slice none 0 0), .sc (.slice none 0 0), .sc (.slice none 0 0), .sc (.slice none 0 0)]])).set h'.next (.arr 6 [[sPV xo, sPV xn, .imm 1 (strRows xa), .imm 2 (pmRows xp), .imm 5 (Ex.rows xe), .imm 6 (Fm.rows xk)]])).obj h.next = some (.arr 6 [[.sc (.int .i64 0), .sc (.int .i64 0), .sc (.int .i64 0), .sc (.int .i64 0), .sc (.string ⟨#[]⟩), .sc (.slice none 0 0)]]) := by simp only [Heap.set, Heap.new, m1, if_false]; exact o1
          have o2H : H.obj (h.next + 1) = _ := (t4 _ (by omega)).trans (show ((h'.new (.arr 6 [[.sc (.string ⟨#[]⟩), .sc (.string ⟨#[]⟩), .sc (.slice none 0 0), .sc (.slice none 0 0), .sc (.slice none 0 0), .sc (.slice none 0 0)]])).set h'.next (.arr 6 [[sPV xo, sPV xn, .imm 1 (strRows xa), .imm 2 (pmRows xp), .imm 5 (Ex.rows xe), .imm 6 (Fm.rows xk)]])).obj (h.next + 1) = _ by simp only [Heap.set, Heap.new, m2, if_false]; exact o2)
          have t3' : H.next = h'.next + 1 := by rw [t3]; simp [Heap.new, Heap.set]
          have n2 : (h.next + 1 = H.next) = False := by simp; omega
          have hpr := Sx.rows_len L2
          have hpush := WrI.push (h' := ((h'.new (.arr 6 [[.sc (.string ⟨#[]⟩), .sc (.string ⟨#[]⟩), .sc (.slice none 0 0), .sc (.slice none 0 0), .sc (.slice none 0 0), .sc (.slice none 0 0)]])).set h'.next (.arr 6 [[sPV xo, sPV xn, .imm 1 (strRows xa), .imm 2 (pmRows xp), .imm 5 (Ex.rows xe), .imm 6 (Fm.rows xk)]]))) (L := L2) (X := .mk ki va li co te ks) (m := L2.length + 1) (by simp only [Heap.set, Heap.new]; omega) o1x t3 t4 ⟨hgH.1, hgH.2⟩ rfl
          have hb : (L2.length + 1) * 72 ≤ 140737488355328 := by omega
          simp only [Sx.cells] at hpush
          clear tl tl2 t5
          generalize Sx.rows L2 = R at t1 hpr hpush
          have W := And.intro g2 (And.intro g3 (And.intro g75 (And.intro g76 (And.intro g77 (And.intro w7 (And.intro m2' (And.intro o2 (And.intro o2H (And.intro n2 (And.intro t1 (And.intro t2 (And.intro hpr (And.intro hpc (And.intro hp1 hb))))))))))))))
          repeat' (first | refine a_seq fun K hK => ?_ | ((first | refine a_regionS ?_ | refine a_draw (by decide +kernel) (fun K hK => ?_)); simp (maxSteps := 2000000) only [Ty.w, simprocAttr, W, hdk, hr]) | (refine a_skip ?_; try simp only [pst0, simprocAttr]) | (refine a_cond _ (by (try simp (maxSteps := 2000000) only [Ty.w, simprocAttr, W, hdk, hr]); rfl) (fun hb => ?_) (fun hb => ?_) <;> (try simp only [hb0, decide_eq_true_eq, decide_eq_false_iff_not, simprocAttr] at hb) <;> (try (exfalso; omega))) | (refine hK _ _ ?_; clear hK; try simp only [pst0, simprocAttr]))
          (first | refine a_dcall0 (hcx _) (by (try simp only [Ty.w, simprocAttr, W]); try rfl) ?_ | refine a_dcallA (hcx _) (by (try simp only [Ty.w, simprocAttr, W]); try rfl) (by simp only [Ty.w, simprocAttr, W]; try trivial) ?_); simp (maxSteps := 2000000) only [Ty.w, simprocAttr, W, Option.getD_some]
          repeat' (first | (refine a_regionS ?_; simp (maxSteps := 2000000) only [Ty.w, simprocAttr, W]) | (refine hK _ _ ?_; clear hK; try simp only [pst0, simprocAttr]) | (with_reducible refine a_past2 (by simp only [List.forall_mem_cons, Ty.w, simprocAttr, g2, g3, g75, g76, g77, w7, m2', o2, o2H, n2, t1, t2, hpr, hpc, hp1, hb]; (repeat' apply And.intro) <;> first | trivial | exact .inl (by decide +kernel)) ?_; try simp (maxSteps := 2000000) only [Ty.w, simprocAttr, W]) | (rw [if_pos]; rotate_left 1; omega; simp (maxSteps := 2000000) only [Ty.w, simprocAttr, W]))
          exact ⟨kids.length - (k + 1), by omega, k + 1, by simp, by omega, rfl, by rw [hL]; exact hpush⟩
         ·have hdk : decide ((k : Int) < (kids.length : Int)) = false := by simp; omega
          have hke : k = kids.length := by omega
          subst hke
          rw [List.take_length] at hI
          obtain ⟨hg, p, H, hn, o1, o2, tl, t1, t2, t3, t4, hgH, hpc, hp1⟩ := hI
          repeat' (first | refine a_seq fun K hK => ?_ | ((first | refine a_regionS ?_ | refine a_ret ?_); simp (maxSteps := 2000000) only [Ty.w, simprocAttr, g2, g3, g75, g76, g77, hdk, o1, o2, hpc]) | (refine a_exit ?_; try simp only [pst0, simprocAttr]) | (refine a_cond _ (by (try simp (maxSteps := 2000000) only [Ty.w, simprocAttr, g2, g3, g75, g76, g77, hdk, o1, o2, hpc]); rfl) (fun hb => ?_) (fun hb => ?_) <;> (try simp only [hb0, decide_eq_true_eq, decide_eq_false_iff_not, simprocAttr] at hb) <;> (try (exfalso; omega))) | ((first | refine hK _ _ ?_ | (clear hK; refine hK _ _ ?_)); clear hK; try simp only [pst0, simprocAttr]) | (rw [if_pos]; rotate_left 1; omega; simp (maxSteps := 2000000) only [Ty.w, simprocAttr, g2, g3, g75, g76, g77, hdk, o1, o2, hpc]))
          refine ⟨?_, hg.set (Nat.le_refl _) _⟩
          have tl2 : Tl (h'.set h.next (.arr 6 [[.sc (.int .i64 3), .sc (.int .i64 0), .sc (.int .i64 0), .sc (.int .i64 0), .sc (.string ⟨#[]⟩), p]])) (h.next + 2) 6 p (Sx.rows (L1 ++ kids.map fmW)) := tl.up (Nat.le_refl _) fun j hj _ => by simp only [Heap.set]; rw [if_neg (by omega)]
          simp only [listM, Sx.cells, FrzTo, FrzL]
          exact ⟨_, rfl, rfl, rfl, rfl, rfl, rfl, by have := tl_frzX (Tl.low tl2 (show h.next ≤ h.next + 2 by omega)); simpa only [FrzTo] using this, trivial⟩
theorem paramsW_ok : ∀ l : List Pm, (∀ p ∈ l, p.ok) → Sx.oks (paramsW l)
 | [], _ => by simp [paramsW, Sx.oks]
 | p :: l, h => by
  have hp := h p (by simp)
  simp only [paramsW, Sx.oks]
  exact ⟨wordM_ok hp.1, wordM_ok (by simp [bigN, ByteArray.size]), wordM_ok hp.2, paramsW_ok l fun q hq => h q (by simp [hq])⟩
theorem parts_cmp {op name : ByteArray} {args : List ByteArray} {params : List Pm} {ne nk : Nat} (h1 : ¬ bEq op opAtom = true) (h2 : ¬ bEq op opSame = true) (h3 : isCmp op = true) (hp : partsOk op name args params ne nk = true) : ne = 2 := by
 unfold partsOk shapeOf at hp
 rw [if_neg h1, if_neg h2] at hp
 simp only [isCmp, Bool.or_eq_true] at h3
 by_cases k1 : bEq op opLt = true
 ·simp [k1] at hp; omega
 by_cases k2 : bEq op opLe = true
 ·simp [k1, k2] at hp; omega
 have k3 : bEq op opEq = true := by rcases h3 with (h3 | h3) | h3 <;> simp_all
 simp [k1, k2, k3] at hp; omega
theorem fmW_ok : ∀ f : Fm, f.ok → f.small → shapedF f = true → (fmW f).ok := by
 refine Fm.ind ?_
 intro op name args params exprs kids ih hok hsm hsh
 simp only [Fm.ok] at hok
 simp only [Fm.small] at hsm
 simp only [shapedF, Bool.and_eq_true] at hsh
 obtain ⟨⟨hpo, _⟩, hsh⟩ := hsh
 rw [shapedFs_iff] at hsh
 obtain ⟨hop, hname, hargs, ⟨_, hps⟩, ⟨_, hes⟩, _, hks⟩ := hok
 obtain ⟨hal, hpl, hse, hkl, hsk⟩ := hsm
 rw [Fm.oks_iff] at hks
 rw [Ex.oks_iff] at hes
 have hse := Ex.smalls_iff.1 hse
 have hsk := Fm.smalls_iff.1 hsk
 unfold fmW
 split
 ·exact wordsM_ok hname hal hargs.2
 split
 ·exact wordsM_ok (by simp [opEq, bigN, ByteArray.size]) hal hargs.2
 split
 ·rename_i c1 c2 c3
  have h2 := parts_cmp c1 c2 c3 hpo
  refine listM_ok (by simp only [List.length_cons, List.length_map]; unfold bigN; omega) (Sx.oks_iff.2 ?_)
  intro k hk
  simp only [List.mem_cons, List.mem_map] at hk
  rcases hk with rfl | ⟨e, he, rfl⟩
  ·exact wordM_ok hop
  ·exact exW_ok e (hes e he) (hse e he)
 ·rw [fmWs_map]
  refine listM_ok ?_ (Sx.oks_iff.2 ?_)
  ·simp only [List.length_append, List.length_map]
   have a1 : (if (bEq op opAnd && kids.isEmpty) = true then [] else [wordM op]).length ≤ 1 := by split <;> simp
   have a2 : (if isQ op = true then [listM (paramsW params)] else []).length ≤ 1 := by split <;> simp
   unfold bigN; omega
  ·intro k hk
   simp only [List.mem_append, List.mem_map] at hk
   rcases hk with (hk | hk) | ⟨e, he, rfl⟩
   ·split at hk
    ·simp at hk
    ·simp only [List.mem_singleton] at hk; subst hk; exact wordM_ok hop
   ·split at hk
    ·simp only [List.mem_singleton] at hk; subst hk
     exact listM_ok (by rw [paramsW_len]; unfold bigN; omega) (paramsW_ok _ hps)
    ·simp at hk
   ·exact ih e he (hks e he) (hsk e he) (hsh e he)
theorem formedMs_shaped : ∀ (l : List Ex) (d n : Nat), (formedMs l d n).1 = true → ∀ e ∈ l, shapedE e = true
 | [], _, _, _ => by simp
 | e :: l, d, n, h => by
  unfold formedMs at h
  have h1 := formedM_shaped e d n
  split at h
  ·rename_i c he
   rw [he] at h1
   intro x hx
   rcases List.mem_cons.1 hx with rfl | hx
   ·exact h1 rfl
   ·exact formedMs_shaped l d c h x hx
  ·simp at h
mutual
theorem shapedM_F : ∀ (f : Fm) (d n : Nat), (shapedM f d n).1 = true → shapedF f = true
 | .mk op name args params exprs kids, d, n, h => by
  unfold shapedM at h
  split at h
  ·split at h
   ·rename_i hp
    have h1 := formedMs_shaped exprs (d + 1) (n + 1)
    split at h
    ·rename_i c he
     rw [he] at h1
     simp only [shapedF, Bool.and_eq_true, List.all_eq_true]
     exact ⟨⟨hp, h1 rfl⟩, shapedMs_F kids (d + 1) c h⟩
    ·simp at h
   ·simp at h
  ·simp at h
theorem shapedMs_F : ∀ (l : List Fm) (d n : Nat), (shapedMs l d n).1 = true → shapedFs l = true
 | [], _, _, _ => by simp [shapedFs]
 | k :: l, d, n, h => by
  unfold shapedMs at h
  have h1 := shapedM_F k d n
  split at h
  ·rename_i c he
   rw [he] at h1
   simp only [shapedFs, Bool.and_eq_true]
   exact ⟨h1 rfl, shapedMs_F l d c h⟩
  ·simp at h
end
theorem fvalid_c {f : Fm} (hok : f.ok) (hsm : f.small) (h : Heap) : PCall Try.prog 26 [.agg f.cells] h fun r h' => r = .sc (.bool (validF f)) ∧ h' = h := by
 have hf := shaped_c f hok 0 0 (by omega) (by omega) h.next (h.new (.arr 1 [[.sc (.int .i64 0)]])) (by simp [Heap.new, cntO])
 have hsh := shapedM_F f 0 0
 have hx := fmW_ok f hok hsm
 have hw0 := write_c f hsm
 have hv : validF f = ((shapedM f 0 0).1 && (svalid (fmW f) 0 0).1) := rfl
 rw [hv]
 refine PCall.quiet Ty.hb_26 ?_
 generalize shapedM f 0 0 = V at hf hsh ⊢
 obtain ⟨b, c⟩ := V
 cases b with
 | false =>
  obtain ⟨op, name, args, params, exprs, kids⟩ := f
  simp only [Fm.cells, Int.natCast_zero] at hf ⊢
  refine pcall_body (ow := fun t => t == 5) (wf := fun _ => false) Ty.mixed Try.func26 rfl Ty.hb_26 (by rw [Try.ntmps26]; simp) ?_
  rw [Try.ntmps26, Try.results26]
  repeat' (first | refine a_seq fun K hK => ?_ | (refine a_regionS ?_; simp (maxSteps := 2000000) only [Ty.w, simprocAttr]) | (refine hK _ _ ?_; clear hK; try simp only [pst0, simprocAttr]))
  refine owp_useH (hf) (by (try simp only [Ty.w, simprocAttr, ]); try rfl) ?_; simp (maxSteps := 2000000) only [Ty.w, simprocAttr, ]
  repeat' (first | (refine a_ret ?_; simp (maxSteps := 2000000) only [Ty.w, simprocAttr]) | (refine hK _ _ ?_; clear hK; try simp only [pst0, simprocAttr]))
  exact ((Grow.refl h).new _).set (Nat.le_refl _) _
 | true =>
  have hw := hw0 (hsh rfl)
  have hvv := svalid_c (hx (hsh rfl))
  clear hw0
  generalize fmW f = X at hw hvv ⊢
  obtain ⟨op, name, args, params, exprs, kids⟩ := f
  obtain ⟨ki, va, li, co, te, ks⟩ := X
  simp only [Fm.cells, Sx.cells, Int.natCast_zero] at hf hw hvv ⊢
  refine pcall_body (ow := fun t => t == 5) (wf := fun _ => false) Ty.mixed Try.func26 rfl Ty.hb_26 (by rw [Try.ntmps26]; simp) ?_
  rw [Try.ntmps26, Try.results26]
  repeat' (first | refine a_seq fun K hK => ?_ | (refine a_regionS ?_; simp (maxSteps := 2000000) only [Ty.w, simprocAttr]) | (refine hK _ _ ?_; clear hK; try simp only [pst0, simprocAttr]))
  refine owp_useH (hf) (by (try simp only [Ty.w, simprocAttr, ]); try rfl) ?_; simp (maxSteps := 2000000) only [Ty.w, simprocAttr, ]
  skip
  refine owp_useQ (hw _) (by (try simp only [Ty.w, simprocAttr, ]); try rfl) ?_; simp (maxSteps := 2000000) only [Ty.w, simprocAttr, ]
  skip
  refine owp_useQ (hvv _) (by (try simp only [Ty.w, simprocAttr, ]); try rfl) ?_; simp (maxSteps := 2000000) only [Ty.w, simprocAttr, ]
  repeat' (first | (refine a_ret ?_; simp (maxSteps := 2000000) only [Ty.w, simprocAttr]) | (refine hK _ _ ?_; clear hK; try simp only [pst0, simprocAttr]))
  exact ((Grow.refl h).new _).set (Nat.le_refl _) _
end Go.Proofs.Ytjlkapgpjamnkaa
namespace Go.Proofs.Ytjlkapgpjamnkaa
open Go.AM
set_option maxHeartbeats 4000000
set_option maxRecDepth 20000
theorem mixG_get {α : Type} {g : α → α} {l : List α} {k : Nat} {s : α} (h : l[k]? = some s) : ((l.take k).map g ++ l.drop k)[k]? = some s ∧ ((l.take k).map g ++ l.drop k).set k (g s) = (l.take (k + 1)).map g ++ l.drop (k + 1) := by
 have hk : k < l.length := (List.getElem?_eq_some_iff.1 h).1
 have h1 : ((l.take k).map g).length = k := by simp; omega
 have h2 : l.drop k = s :: l.drop (k + 1) := by
  obtain ⟨_, h4⟩ := List.getElem?_eq_some_iff.1 h
  rw [List.drop_eq_getElem_cons hk, h4]
 constructor
 ·rw [List.getElem?_append_right (by omega), h1, h2]; simp
 ·rw [List.set_append_right _ _ (by omega), h1, h2, List.take_add_one, h]; simp
theorem exRows_set (l : List Ex) (k : Nat) (e : Ex) : (Ex.rows l).set k e.cells = Ex.rows (l.set k e) := by simp [Ex.rows_map, List.map_set]
theorem shapedE_len {op name : ByteArray} {v : Int} {args : List ByteArray} {kids : List Ex} (h : shapedE (.mk op name v args kids) = true) : kids.length ≤ 2 := by
 unfold shapedE at h
 split at h
 ·simp only [Bool.and_eq_true, List.isEmpty_iff] at h
  rw [h.1.2]; simp
 ·split at h
  ·simp only [Bool.and_eq_true, List.isEmpty_iff] at h
   rw [h.1.1.2]; simp
  ·split at h
   ·simp only [Bool.and_eq_true] at h
    obtain ⟨_, h⟩ := h
    split at h
    ·simp
    ·simp at h
   ·simp at h
theorem bindE_c : ∀ e : Ex, e.small → shapedE e = true → ∀ {bound : List ByteArray} {T : PV} {to : ByteArray → Option ByteArray}, bound.length ≤ bigN → ∀ {h : Heap}, MapAt h T to →
  PCall Try.prog 83 [.agg e.cells, T, .imm 1 (strRows bound)] h fun r h' => r = .agg (bindEx to bound e).cells ∧ h' = h := by
 refine Ex.ind ?_
 intro op name v args kids ih hsm hsh bound T to hb h hT
 simp only [Ex.small] at hsm
 obtain ⟨hal, hks⟩ := hsm
 rw [Ex.smalls_iff] at hks
 have hkl := shapedE_len hsh
 have hke := shapedE_kid hsh
 have hlK := Ex.rows_len kids
 refine PCall.frz Ty.hb_83 ?_
 have hrp := fun {H : Heap} (hg : Grow h H) => replaced_c (l := args) (bound := bound) hal hb (hT.grow hg)
 have hB : bindEx to bound (.mk op name v args kids) = .mk op name v (args.map (replS to bound)) (kids.map (bindEx to bound)) := by simp only [bindEx, bindExs_map]
 rw [hB]
 clear hB
 generalize args.map (replS to bound) = args2 at hrp
 simp only [Ex.cells]
 refine pcall_body (ow := fun t => t == 3) (wf := fun _ => false) Ty.mixed Try.func83 rfl Ty.hb_83 (by rw [Try.ntmps83]; simp) ?_
 rw [Try.ntmps83, Try.results83]
 repeat' (first | refine a_seq fun K hK => ?_ | (refine a_regionS ?_; simp (maxSteps := 2000000) only [Ty.w, simprocAttr, nsucc]) | (refine hK _ _ ?_; clear hK; try simp only [pst0, simprocAttr]))
 refine owp_useQ (hrp (((Grow.refl h).new _).new _)) (by (try simp only [Ty.w, simprocAttr, nsucc]); try rfl) ?_; simp (maxSteps := 2000000) only [Ty.w, simprocAttr, nsucc]
 repeat' (first | refine a_seq fun K hK => ?_ | (refine a_regionS ?_; simp (maxSteps := 2000000) only [Ty.w, simprocAttr, nsucc]) | (refine hK _ _ ?_; clear hK; try simp only [pst0, simprocAttr]))
 refine owp_useL (cloneE_c (l := kids) (by omega) _) (by (try simp only [Ty.w, simprocAttr, nsucc]); try rfl) ?_
 rintro r h1 ⟨hg1, tl1⟩
 have k0 : h1.obj h.next = some (.arr 5 [[sPV op, sPV name, .sc (.int .i64 v), .imm 1 (strRows args2), .imm 5 (Ex.rows kids)]]) := by
  rw [hg1.old _ (by simp [Heap.new, Heap.set]; omega)]; simp [Heap.new, Heap.set]
 have k1 : h1.obj (h.next + 1) = some (.arr 5 [[.sc (.string ⟨#[]⟩), .sc (.string ⟨#[]⟩), .sc (.int .i64 0), .sc (.slice none 0 0), .sc (.slice none 0 0)]]) := by
  rw [hg1.old _ (by simp [Heap.new, Heap.set])]; simp [Heap.new, Heap.set]
 have hn1 : h.next + 2 ≤ h1.next := by have := hg1.le; simp [Heap.new, Heap.set] at this; omega
 have hgA : Grow h h1 := ((((Grow.refl h).new _).new _).set (Nat.le_refl _) _).trans hg1
 have tlA : Tl h1 (h.next + 2) 5 r (Ex.rows kids) := Tl.low tl1 (by simp [Heap.new, Heap.set])
 clear hg1 tl1 hrp
 have hpc : r.cells = [r] ∧ oneC r = true := by
  rcases tlA with ⟨_, rfl | rfl⟩ | ⟨_, _, _, rfl, _⟩ <;> exact ⟨rfl, rfl⟩
 have hsl := tlA.sl
 have hlo : ∀ H, lenP H r = some kids.length := fun H => by rw [lenP_sl hsl H, hlK]
 have hlk := hsl.lk
 obtain ⟨hp1, hp2⟩ := hpc
 simp (maxSteps := 2000000) only [Ty.w, simprocAttr, Ty.all, k0, nsucc, hp1, hp2, putC, hlo, hlk]
 repeat' (first | refine a_seq fun K hK => ?_ | (refine a_block ?_) | (refine a_regionS ?_; simp (maxSteps := 2000000) only [Ty.w, simprocAttr, k0, hp1, hp2, hlo, hlk, putC]) | (refine hK _ _ ?_; clear hK; try simp only [pst0, simprocAttr]))
 refine a_loop (fun m S h' => S 1 = T ∧ S 2 = .imm 1 (strRows bound) ∧ S 3 = .ptr h.next 0 0 ∧ S 6 = .ptr (h.next + 1) 0 0 ∧ S 20 = r ∧ S 21 = .sc (.int .i64 kids.length) ∧ ∃ k : Nat, S 22 = .sc (.int .i64 k) ∧ k ≤ kids.length ∧ m = kids.length - k ∧ Grow h h' ∧ h.next + 2 ≤ h'.next ∧
  h'.obj h.next = some (.arr 5 [[sPV op, sPV name, .sc (.int .i64 v), .imm 1 (strRows args2), r]]) ∧ h'.obj (h.next + 1) = some (.arr 5 [[.sc (.string ⟨#[]⟩), .sc (.string ⟨#[]⟩), .sc (.int .i64 0), .sc (.slice none 0 0), .sc (.slice none 0 0)]]) ∧
  Tl h' (h.next + 2) 5 r (Ex.rows ((kids.take k).map (bindEx to bound) ++ kids.drop k))) kids.length ?_ ?_
 ·simp only [Ty.w, simprocAttr]
  refine ⟨0, rfl, by omega, rfl, hgA.set (Nat.le_refl _) _, hn1, ?_, ?_⟩
  ·first | exact k1 | (rw [if_neg (by omega)]; exact k1)
  ·simpa using tlA.up (h' := h1.set h.next _) (Nat.le_refl _) fun j hj _ => by simp only [Heap.set]; rw [if_neg (by omega)]
 ·clear hgA hn1 k0 k1 tlA hsl hlo hlk
  rintro m S h' ⟨g1, g2, g3, g6, g20, g21, k, g22, hk, rfl, hg, hn, o1, o2, tl⟩
  by_cases hlt : k < kids.length
  ·have hd : decide ((k : Int) < (kids.length : Int)) = true := by simp; omega
   have w7 : IntKind.i64.wrap ((k : Int) + 1) = k + 1 := by rw [wrap64 (by omega) (by omega)]
   obtain ⟨x, hx⟩ : ∃ x, kids[k]? = some x := ⟨_, List.getElem?_eq_getElem hlt⟩
   have hmem := List.mem_of_getElem? hx
   have hc := fun {H : Heap} (hgH : Grow h H) => ih x hmem (hks x hmem) (hke x hmem) hb (hT.grow hgH)
   obtain ⟨m1, m2⟩ := mixG_get (g := bindEx to bound) hx
   have hlen : ((kids.take k).map (bindEx to bound) ++ kids.drop k).length = kids.length := by simp; omega
   have hlen2 : ((kids.take (k + 1)).map (bindEx to bound) ++ kids.drop (k + 1)).length = kids.length := by simp; omega
   have hr := Ex.rows_get m1
   obtain ⟨id, i1, i2, rfl, i4⟩ : ∃ id, h.next + 2 ≤ id ∧ id < h'.next ∧ r = .own id 0 kids.length ∧ h'.obj id = some (.arr 5 (Ex.rows ((kids.take k).map (bindEx to bound) ++ kids.drop k))) := by
    rcases tl with ⟨hn0, _⟩ | ⟨id, i1, i2, i3, i4⟩
    ·have := congrArg List.length hn0
     rw [Ex.rows_len, hlen] at this
     simp only [List.length_nil] at this; omega
    ·rw [Ex.rows_len, hlen] at i3; exact ⟨id, i1, i2, i3, i4⟩
   clear tl hp1 hp2
   have hset : (Ex.rows ((kids.take k).map (bindEx to bound) ++ kids.drop k)).set k (bindEx to bound x).cells = Ex.rows ((kids.take (k + 1)).map (bindEx to bound) ++ kids.drop (k + 1)) := by rw [exRows_set, m2]
   have hrl : (Ex.rows ((kids.take (k + 1)).map (bindEx to bound) ++ kids.drop (k + 1))).length = kids.length := by rw [Ex.rows_len, hlen2]
   generalize Ex.rows ((kids.take k).map (bindEx to bound) ++ kids.drop k) = R at i4 hr hset
   generalize bindEx to bound x = y at hc hset
   obtain ⟨xo, xn, xv, xa, xk⟩ := x
   obtain ⟨yo, yn, yv, ya, yk⟩ := y
   simp only [Ex.cells] at hr hc hset
   have e1 : (h.next = h'.next) = False := by simp; omega
   have e2 : (id = h'.next) = False := by simp; omega
   have hgX : ∀ o o2, Grow h ((h'.new o).set h'.next o2) := fun o o2 => (hg.new _).set hg.le _
   have W := And.intro g1 (And.intro g2 (And.intro g3 (And.intro g6 (And.intro g20 (And.intro g21 (And.intro g22 (And.intro i4 (And.intro hr (And.intro hlt (And.intro o1 (And.intro e1 e2)))))))))))
   repeat' (first | refine a_seq fun K hK => ?_ | ((first | refine a_regionS ?_ | refine a_draw (by decide +kernel) (fun K hK => ?_)); simp (maxSteps := 2000000) only [Ty.w, simprocAttr, W, hd]) | (refine a_skip ?_; try simp only [pst0, simprocAttr]) | (refine a_cond _ (by (try simp (maxSteps := 2000000) only [Ty.w, simprocAttr, W, hd]); rfl) (fun hb => ?_) (fun hb => ?_) <;> (try simp only [hb0, decide_eq_true_eq, decide_eq_false_iff_not, simprocAttr] at hb) <;> (try (exfalso; omega))) | (refine hK _ _ ?_; clear hK; try simp only [pst0, simprocAttr]))
   (first | refine a_dcall0 (hc (hgX _ _)) (by (try simp only [Ty.w, simprocAttr, W]); try rfl) ?_ | refine a_dcallA (hc (hgX _ _)) (by (try simp only [Ty.w, simprocAttr, W]); try rfl) (by simp only [Ty.w, simprocAttr, W]; try trivial) ?_); simp (maxSteps := 2000000) only [Ty.w, simprocAttr, W, Option.getD_some]
   repeat' (first | (refine a_regionS ?_; simp (maxSteps := 2000000) only [Ty.w, simprocAttr, W, w7, putC, hset]) | (refine hK _ _ ?_; clear hK; try simp only [pst0, simprocAttr]) | (with_reducible refine a_past2 (by simp only [List.forall_mem_cons, Ty.w, simprocAttr, g1, g2, g3, g6, g20, g21, g22, i4, hr, hlt, o1, e1, e2, w7, putC, hset]; (repeat' apply And.intro) <;> first | trivial | exact .inl (by decide +kernel)) ?_; try simp (maxSteps := 2000000) only [Ty.w, simprocAttr, W, w7, putC, hset]))
   refine ⟨kids.length - (k + 1), by omega, k + 1, by simp, by omega, rfl, (hgX _ _).set (by omega) _, by first | omega | (simp [Heap.new, Heap.set]; omega), ?_, ?_, ?_⟩
   ·rw [if_neg (by omega)]
   ·rw [if_neg (by omega), if_neg (by omega), if_neg (by omega)]; exact o2
   ·exact .inr ⟨id, i1, by first | omega | (simp [Heap.new, Heap.set]; omega), by rw [hrl], by simp [Heap.set]⟩
  ·have hd : decide ((k : Int) < (kids.length : Int)) = false := by simp; omega
   have hke2 : k = kids.length := by omega
   subst hke2
   rw [List.take_length, List.drop_length, List.append_nil] at tl
   repeat' (first | refine a_seq fun K hK => ?_ | ((first | refine a_regionS ?_ | refine a_ret ?_); simp (maxSteps := 2000000) only [Ty.w, simprocAttr, g1, g2, g3, g6, g20, g21, g22, hd, o1, o2, hp1, hp2]) | (refine a_exit ?_; try simp only [pst0, simprocAttr]) | (refine a_cond _ (by (try simp (maxSteps := 2000000) only [Ty.w, simprocAttr, g1, g2, g3, g6, g20, g21, g22, hd, o1, o2, hp1, hp2]); rfl) (fun hb => ?_) (fun hb => ?_) <;> (try simp only [hb0, decide_eq_true_eq, decide_eq_false_iff_not, simprocAttr] at hb) <;> (try (exfalso; omega))) | ((first | refine hK _ _ ?_ | (clear hK; refine hK _ _ ?_)); clear hK; try simp only [pst0, simprocAttr]))
   refine ⟨frz_agg ?_, hg.set (by omega) _⟩
   have tl3 : Tl (h'.set (h.next + 1) (.arr 5 [[sPV op, sPV name, .sc (.int .i64 v), .imm 1 (strRows args2), r]])) (h.next + 2) 5 r (Ex.rows (kids.map (bindEx to bound))) := tl.up (Nat.le_refl _) fun j hj _ => by simp only [Heap.set]; rw [if_neg (by omega)]
   have h1 := tl_frzE (show h.next ≤ h.next + 2 by omega) tl3
   unfold FrzL; refine ⟨by simp only [FrzTo], ?_⟩
   unfold FrzL; refine ⟨by simp only [FrzTo], ?_⟩
   unfold FrzL; refine ⟨by simp only [FrzTo], ?_⟩
   unfold FrzL; refine ⟨by simp only [FrzTo]; exact .inl ⟨trivial, strs_in _ _⟩, ?_⟩
   unfold FrzL; refine ⟨h1, ?_⟩
   simp only [FrzL]
end Go.Proofs.Ytjlkapgpjamnkaa
namespace Go.Proofs.Ytjlkapgpjamnkaa
open Go.AM
theorem nodess_append : ∀ l m : List Sx, Sx.nodess (l ++ m) = Sx.nodess l + Sx.nodess m
 | [], m => by simp [Sx.nodess]
 | k :: l, m => by simp only [List.cons_append, Sx.nodess, nodess_append l m]; omega
theorem list_nodes (l : List Sx) : (listM l).nodes = Sx.nodess l + 1 := by simp only [listM, Sx.nodes]
theorem word_nodes (s : ByteArray) : (wordM s).nodes = 1 := by simp [wordM, Sx.nodes, Sx.nodess]
theorem formed_of : ∀ (e : Ex), shapedE e = true → ∀ (d n : Nat), d + (exW e).depth ≤ 32 → n + (exW e).nodes ≤ 4096 → (formedM e d n).1 = true ∧ (formedM e d n).2 ≤ n + (exW e).nodes := by
 refine Ex.ind ?_
 intro op name v args kids ih hs d n hd hn
 unfold shapedE at hs
 unfold exW at hd hn ⊢
 unfold formedM
 cases c1 : bEq op opNum with
 | true =>
  rw [c1] at hs hd hn
  simp only [if_true] at hs hd hn ⊢
  simp only [Sx.nodes, Sx.nodess] at hn ⊢
  rw [if_pos ⟨by omega, by omega⟩]
  exact ⟨hs, by simp only; omega⟩
 | false =>
  rw [c1] at hs hd hn
  simp only [Bool.false_eq_true, if_false] at hs hd hn ⊢
  cases c2 : bEq op opFlu with
  | true =>
   rw [c2] at hs hd hn
   simp only [if_true] at hs hd hn ⊢
   simp only [wordsM, listM, Sx.nodes] at hn ⊢
   rw [if_pos ⟨by omega, by omega⟩]
   exact ⟨hs, by simp only; omega⟩
  | false =>
   rw [c2] at hs hd hn
   simp only [Bool.false_eq_true, if_false] at hs hd hn ⊢
   split at hs
   case isFalse => simp at hs
   rename_i hop
   rw [if_pos hop]
   rw [Bool.and_eq_true] at hs
   obtain ⟨h1, h2⟩ := hs
   rw [h1]
   simp only [if_true]
   split at h2
   case h_2 => simp at h2
   rename_i a b
   simp only [Bool.and_eq_true] at h2
   simp only [listM, Sx.depth, Sx.depths, Sx.nodes, Sx.nodess, wordM, if_true] at hd hn ⊢
   have k1 : ¬ ((1 : Int) = 3) := by omega
   rw [if_neg k1] at hd
   rw [if_pos ⟨by omega, by omega⟩]
   obtain ⟨f1, f2⟩ := ih a (by simp) h2.1 (d + 1) (n + 1) (by omega) (by omega)
   cases hw : formedM a (d + 1) (n + 1) with
   | mk x c =>
    rw [hw] at f1 f2
    simp only at f1 f2
    subst f1
    simp only
    obtain ⟨g1, g2⟩ := ih b (by simp) h2.2 (d + 1) c (by omega) (by omega)
    exact ⟨g1, by omega⟩
end Go.Proofs.Ytjlkapgpjamnkaa
namespace Go.Proofs.Ytjlkapgpjamnkaa
open Go.AM
theorem list_depth {l : List Sx} {k : Sx} (h : k ∈ l) : k.depth + 1 ≤ (listM l).depth := by
 have := Sx.depths_mem 0 h
 simp only [listM, Sx.depth, if_true]; omega
theorem fmW_rest {op name : ByteArray} {args : List ByteArray} {params : List Pm} {exprs : List Ex} {kids : List Fm} (h1 : bEq op opAtom = false) (h2 : bEq op opSame = false) (h3 : isCmp op = false) : ∃ pre, fmW (.mk op name args params exprs kids) = listM (pre ++ kids.map fmW) := by
 unfold fmW
 rw [h1, h2, h3, fmWs_map]
 exact ⟨_, rfl⟩
theorem fmW_parts : ∀ f, shapedF f = true → match f with
  | .mk _ _ _ _ exprs kids => 1 + Sx.nodess (exprs.map exW) + Sx.nodess (kids.map fmW) ≤ (fmW f).nodes ∧ 1 ≤ (fmW f).depth ∧ (∀ e ∈ exprs, (exW e).depth + 1 ≤ (fmW f).depth) ∧ (∀ k ∈ kids, (fmW k).depth + 1 ≤ (fmW f).depth) := by
 intro f hf
 have d1 : ∀ l : List Sx, 1 ≤ (listM l).depth := fun l => by simp only [listM, Sx.depth, if_true]; omega
 have rest : ∀ {op : ByteArray} {params : List Pm} {kids : List Fm} {pre : List Sx}, fmW (.mk op ⟨#[]⟩ [] params [] kids) = listM (pre ++ kids.map fmW) →
   1 + Sx.nodess (([] : List Ex).map exW) + Sx.nodess (kids.map fmW) ≤ (fmW (.mk op ⟨#[]⟩ [] params [] kids)).nodes ∧ 1 ≤ (fmW (.mk op ⟨#[]⟩ [] params [] kids)).depth ∧ (∀ e ∈ ([] : List Ex), (exW e).depth + 1 ≤ (fmW (.mk op ⟨#[]⟩ [] params [] kids)).depth) ∧ (∀ k ∈ kids, (fmW k).depth + 1 ≤ (fmW (.mk op ⟨#[]⟩ [] params [] kids)).depth) := by
  intro op params kids pre e
  rw [e]
  refine ⟨?_, d1 _, by simp, fun k hk => list_depth (List.mem_append.2 (.inr (List.mem_map.2 ⟨k, hk, rfl⟩)))⟩
  rw [list_nodes, nodess_append]; simp only [List.map_nil, Sx.nodess]; omega
 refine sf_cases (C := fun f => match f with
  | .mk _ _ _ _ exprs kids => 1 + Sx.nodess (exprs.map exW) + Sx.nodess (kids.map fmW) ≤ (fmW f).nodes ∧ 1 ≤ (fmW f).depth ∧ (∀ e ∈ exprs, (exW e).depth + 1 ≤ (fmW f).depth) ∧ (∀ k ∈ kids, (fmW k).depth + 1 ≤ (fmW f).depth)) f hf ?_ ?_ ?_ ?_ ?_ ?_ ?_
 ·intro name args _ _
  have e : fmW (.mk opAtom name args [] [] []) = wordsM name args := rfl
  simp only [e]
  exact ⟨by simp only [wordsM, list_nodes, List.map_nil, Sx.nodess]; omega, d1 _, by simp, by simp⟩
 ·intro args _ _
  have e : fmW (.mk opSame ⟨#[]⟩ args [] [] []) = wordsM opEq args := rfl
  simp only [e]
  exact ⟨by simp only [wordsM, list_nodes, List.map_nil, Sx.nodess]; omega, d1 _, by simp, by simp⟩
 ·intro op a b ho _ _
  have e : fmW (.mk op ⟨#[]⟩ [] [] [a, b] []) = listM [wordM op, exW a, exW b] := by rcases ho with rfl | rfl | rfl <;> rfl
  simp only [e]
  refine ⟨?_, d1 _, ?_, by simp⟩
  ·simp only [list_nodes, List.map_cons, List.map_nil, Sx.nodess, word_nodes]; omega
  ·intro x hx
   simp only [List.mem_cons, List.not_mem_nil, or_false] at hx
   rcases hx with rfl | rfl <;> exact list_depth (by simp)
 ·intro op kids ho _
  obtain ⟨pre, e⟩ : ∃ pre, fmW (.mk op ⟨#[]⟩ [] [] [] kids) = listM (pre ++ kids.map fmW) := by rcases ho with rfl | rfl <;> exact fmW_rest rfl rfl rfl
  exact rest e
 ·intro k _
  obtain ⟨pre, e⟩ : ∃ pre, fmW (.mk opNot ⟨#[]⟩ [] [] [] [k]) = listM (pre ++ [k].map fmW) := fmW_rest rfl rfl rfl
  exact rest e
 ·intro a b _ _
  obtain ⟨pre, e⟩ : ∃ pre, fmW (.mk opImp ⟨#[]⟩ [] [] [] [a, b]) = listM (pre ++ [a, b].map fmW) := fmW_rest rfl rfl rfl
  exact rest e
 ·intro op params k ho _ _
  obtain ⟨pre, e⟩ : ∃ pre, fmW (.mk op ⟨#[]⟩ [] params [] [k]) = listM (pre ++ [k].map fmW) := by rcases ho with rfl | rfl <;> exact fmW_rest rfl rfl rfl
  exact rest e
theorem formeds_of : ∀ (l : List Ex), (∀ e ∈ l, shapedE e = true) → ∀ (d n : Nat), (∀ e ∈ l, d + (exW e).depth ≤ 32) → n + Sx.nodess (l.map exW) ≤ 4096 → (formedMs l d n).1 = true ∧ (formedMs l d n).2 ≤ n + Sx.nodess (l.map exW)
 | [], _, d, n, _, hn => by simp [formedMs, Sx.nodess]
 | e :: l, hs, d, n, hd, hn => by
  simp only [List.map_cons, Sx.nodess] at hn ⊢
  obtain ⟨f1, f2⟩ := formed_of e (hs e (by simp)) d n (hd e (by simp)) (by omega)
  unfold formedMs
  cases hw : formedM e d n with
  | mk x c =>
   rw [hw] at f1 f2
   simp only at f1 f2
   subst f1
   simp only
   obtain ⟨g1, g2⟩ := formeds_of l (fun q hq => hs q (by simp [hq])) d c (fun q hq => hd q (by simp [hq])) (by omega)
   exact ⟨g1, by omega⟩
theorem shapeds_of : ∀ (l : List Fm) (d : Nat), (∀ k ∈ l, ∀ n, n + (fmW k).nodes ≤ 4096 → (shapedM k d n).1 = true ∧ (shapedM k d n).2 ≤ n + (fmW k).nodes) → ∀ n, n + Sx.nodess (l.map fmW) ≤ 4096 → (shapedMs l d n).1 = true ∧ (shapedMs l d n).2 ≤ n + Sx.nodess (l.map fmW)
 | [], _, _, n, hn => by simp [shapedMs, Sx.nodess]
 | k :: l, d, h, n, hn => by
  simp only [List.map_cons, Sx.nodess] at hn ⊢
  obtain ⟨f1, f2⟩ := h k (by simp) n (by omega)
  unfold shapedMs
  cases hw : shapedM k d n with
  | mk x c =>
   rw [hw] at f1 f2
   simp only at f1 f2
   subst f1
   simp only
   obtain ⟨g1, g2⟩ := shapeds_of l d (fun q hq => h q (by simp [hq])) c (by omega)
   exact ⟨g1, by omega⟩
theorem shaped_of : ∀ (f : Fm), shapedF f = true → ∀ (d n : Nat), d + (fmW f).depth ≤ 32 → n + (fmW f).nodes ≤ 4096 → (shapedM f d n).1 = true ∧ (shapedM f d n).2 ≤ n + (fmW f).nodes := by
 refine Fm.ind ?_
 intro op name args params exprs kids ih hs d n hd hn
 have hp := fmW_parts _ hs
 simp only at hp
 obtain ⟨p1, p2, p3, p4⟩ := hp
 have hs2 := hs
 simp only [shapedF, Bool.and_eq_true, List.all_eq_true] at hs2
 obtain ⟨⟨h1, h2⟩, h3⟩ := hs2
 rw [shapedFs_iff] at h3
 generalize fmW (.mk op name args params exprs kids) = X at *
 unfold shapedM
 rw [if_pos ⟨by omega, by omega⟩, if_pos h1]
 obtain ⟨f1, f2⟩ := formeds_of exprs h2 (d + 1) (n + 1) (fun e he => by have := p3 e he; omega) (by omega)
 cases hw : formedMs exprs (d + 1) (n + 1) with
 | mk x c =>
  rw [hw] at f1 f2
  simp only at f1 f2
  subst f1
  simp only
  obtain ⟨g1, g2⟩ := shapeds_of kids (d + 1) (fun k hk m hm => ih k hk (h3 k hk) (d + 1) m (by have := p4 k hk; omega) hm) c (by omega)
  exact ⟨g1, by omega⟩
theorem validF_same {f : Fm} (hn : (fmW f).nodes ≤ bigN) : validF f = (shapedF f && rvalidB (fmW f)) := by
 unfold validF
 rw [valid_same hn]
 cases hs : shapedF f with
 | false =>
  have : (shapedM f 0 0).1 = false := by
   cases h : (shapedM f 0 0).1 with
   | false => rfl
   | true => rw [shapedM_F f 0 0 h] at hs; simp at hs
  simp only [this, Bool.false_and]
 | true =>
  cases hv : rvalidB (fmW f) with
  | false => simp
  | true =>
   have h1 := (svalid_iff (fmW f) 0 0 (by omega) (by omega)).1.1 (by rw [valid_same hn]; exact hv)
   rw [(shaped_of f hs 0 0 h1.2.1 h1.2.2).1]
end Go.Proofs.Ytjlkapgpjamnkaa
namespace Go.AM
open Go.ChangeShapes Go.WideShapes
def partsT (P : Program) (t : TypeId) : List (Nat × TypeId) := match P.underlying t with
  | some (.struct fs) => fs.toList.map fun f => (f.offset, f.type)
  | some (.array n e) => (List.range n).map fun i => (i * P.cellsOf e, e)
  | _ => []
def inRow (P : Program) (e : Nat) : Nat → List (Nat × TypeId) → Bool
  | o, [] => o == e
  | o, p :: l => p.1 == o && inRow P e (o + P.cellsOf p.2) l
def Arg (P : Program) : Nat → TypeId → List PV → Prop
  | 0, _, _ => False
  | f + 1, t, ps => match P.underlying t with
    | some .bool => ∃ b, ps = [.sc (.bool b)]
    | some (.int k) => ∃ n, (Lit.int k n).wf = true ∧ ps = [.sc (.int k n)]
    | some .string => ∃ s : ByteArray, s.size ≤ reachBytes ∧ ps = [.sc (.string s)]
    | some (.slice e) => ∃ rows, ps = [.imm (P.cellsOf e) rows] ∧ rows.length * P.bytesOf e ≤ reachBytes ∧ rows.length ≤ maxLen ∧ ∀ r ∈ rows, r.length = P.cellsOf e ∧ Arg P f e r
    | some (.struct _) => ps.length = P.cellsOf t ∧ ∀ p ∈ partsT P t, Arg P f p.2 ((ps.drop p.1).take (P.cellsOf p.2))
    | some (.array _ _) => ps.length = P.cellsOf t ∧ ∀ p ∈ partsT P t, Arg P f p.2 ((ps.drop p.1).take (P.cellsOf p.2))
    | _ => False
section
variable {H : Type} {enc : TypeId × Value → H} {P : Program} {w : World} {sp : Nat → Bool} {held : Bool}
def RA (w : World) (ps : List PV) (cs : List Value) : Prop := (∀ v ∈ cs, v.oneCell' = true) ∧ ∀ β n, RepL β n (fun b => b < w.heap.size) w ps cs
theorem RA.len {ps : List PV} {cs : List Value} (h : RA w ps cs) : ps.length = cs.length := (h.2 ⟨fun _ => ⟨none, 0, 0, 0⟩, fun _ => False⟩ 0).len
theorem RA.append {ps ps' : List PV} {cs cs' : List Value} (h : RA w ps cs) (k : RA w ps' cs') : RA w (ps ++ ps') (cs ++ cs') :=
  ⟨fun v hv => by exact (List.mem_append.1 hv).elim (h.1 v) (k.1 v), fun β n => (h.2 β n).append (k.2 β n)⟩
theorem inRow_le {e : Nat} : (l : List (Nat × TypeId)) → (o : Nat) → inRow P e o l = true → o ≤ e ∧ ∀ p ∈ l, o ≤ p.1 ∧ p.1 + P.cellsOf p.2 ≤ e
  | [], o, h => by simp [inRow] at h; simp [h]
  | p :: l, o, h => by
    simp only [inRow, Bool.and_eq_true, beq_iff_eq] at h
    obtain ⟨h1, h2⟩ := inRow_le l _ h.2
    refine ⟨by omega, fun q hq => ?_⟩
    rcases List.mem_cons.1 hq with rfl | hq
    · omega
    · have := h2 q hq; omega
theorem exists_list {α : Type} {R : Nat → α → Prop} : (n : Nat) → (∀ i, i < n → ∃ x, R i x) → ∃ l : List α, l.length = n ∧ ∀ i x, l[i]? = some x → R i x
  | 0, _ => ⟨[], rfl, by simp⟩
  | n + 1, h => by
    obtain ⟨l, h1, h2⟩ := exists_list n (fun i hi => h i (by omega))
    obtain ⟨x, hx⟩ := h n (by omega)
    refine ⟨l ++ [x], by simp [h1], fun i y hy => ?_⟩
    rw [List.getElem?_append] at hy
    split at hy
    · exact h2 i y hy
    · rename_i hi
      have : i = n := by
        have := (List.getElem?_eq_some_iff.1 hy).1
        simp at this; omega
      subst this
      rw [h1] at hy
      simp at hy
      subst hy; exact hx
theorem weightsAll_mem {e : TypeId} {n : Nat} : {ds : List (DataW H)} → {i : Nat} → {d : DataW H} → ds[i]? = some d → n ∈ d.weights P e → n ∈ DataW.weightsAll P e ds
  | [], _, _, h, _ => by simp at h
  | d0 :: ds, 0, d, h, hn => by
    simp at h; subst h
    simp only [DataW.weightsAll, List.mem_append]; exact .inl hn
  | d0 :: ds, i + 1, d, h, hn => by
    simp at h
    simp only [DataW.weightsAll, List.mem_append]; exact .inr (weightsAll_mem h hn)
theorem sc_RA {v : Value} (h : v.oneCell' = true) : RA w [.sc v] [v] :=
  ⟨fun u hu => by simp at hu; subst hu; exact h, fun β n => by simp only [RepL, Rep]; exact ⟨trivial, trivial⟩⟩
end
end Go.AM
namespace Go.AM
open Go.ChangeShapes Go.WideShapes
section
variable {H : Type} {enc : TypeId × Value → H} {P : Program} {w : World} {sp : Nat → Bool} {held : Bool}
def covC (P : Program) (Ts : List TypeId) : Bool := Ts.all fun t => match P.underlying t with
  | some .bool => true
  | some (.int _) => true
  | some .string => true
  | some (.slice e) => decide (0 < P.cellsOf e) && Ts.contains e
  | some (.struct _) => inRow P (P.cellsOf t) 0 (partsT P t) && (partsT P t).all fun p => Ts.contains p.2
  | some (.array _ _) => inRow P (P.cellsOf t) 0 (partsT P t) && (partsT P t).all fun p => Ts.contains p.2
  | _ => false
end
end Go.AM
namespace Go.AM
open Go.ChangeShapes Go.WideShapes
open Go.Proofs.Ytjlkapgpjamnkaa
mutual
def PV.bulk : PV → Nat
  | .sc (.string s) => s.size + 1
  | .imm _ rows => PV.bulkR rows + 1
  | _ => 1
def PV.bulkL : List PV → Nat
  | [] => 0
  | p :: ps => p.bulk + PV.bulkL ps
def PV.bulkR : List (List PV) → Nat
  | [] => 0
  | r :: rs => PV.bulkL r + PV.bulkR rs
end
theorem PV.bulkL_append : ∀ l m : List PV, PV.bulkL (l ++ m) = PV.bulkL l + PV.bulkL m
  | [], m => by simp [PV.bulkL]
  | p :: l, m => by simp only [List.cons_append, PV.bulkL, PV.bulkL_append l m]; omega
theorem List.getElem?_range_some {k i j : Nat} (h : (List.range k)[i]? = some j) : i < k ∧ i = j := by
  have h1 := (List.getElem?_eq_some_iff.1 h).1
  simp at h1
  rw [List.getElem?_range h1] at h
  simp at h
  exact ⟨h1, h⟩
section
variable {H : Type} {enc : TypeId × Value → H} {P : Program} {w : World} {sp : Nat → Bool} {held : Bool}
theorem bulkR_le : ∀ (rows : List (List PV)) (ds : List (DataW H)), rows.length = ds.length → (∀ (i : Nat) (r : List PV), rows[i]? = some r → ∃ d, ds[i]? = some d ∧ PV.bulkL r ≤ Rows.uptoBulk d) → PV.bulkR rows ≤ Rows.uptoBulkAll ds
  | [], _, _, _ => by simp [PV.bulkR]
  | r :: rows, [], h, _ => by simp at h
  | r :: rows, d :: ds, h, hb => by
    have h1 := bulkR_le rows ds (by simpa using h) fun i q hq => by simpa using hb (i + 1) q (by simpa using hq)
    obtain ⟨d', h2, h3⟩ := hb 0 r rfl
    simp at h2; subst h2
    simp only [PV.bulkR, Rows.uptoBulkAll]; omega
theorem parts_rep5 {c : Nat} {cs : List Value} : (l : List (Nat × TypeId)) → (ds : List (DataW H)) → (o : Nat) → inRow P cs.length o l = true →
    (∀ (i : Nat) (p : Nat × TypeId), l[i]? = some p → ∃ d, ds[i]? = some d ∧ ∃ ps, Arg P c p.2 ps ∧ RA w ps ((cs.drop p.1).take (P.cellsOf p.2)) ∧ PV.bulkL ps ≤ Rows.uptoBulk d) →
    ∃ ps, RA w ps (cs.drop o) ∧ (∀ p ∈ l, Arg P c p.2 ((ps.drop (p.1 - o)).take (P.cellsOf p.2))) ∧ PV.bulkL ps ≤ Rows.uptoBulkAll ds
  | [], ds, o, h, _ => by
    simp [inRow] at h
    refine ⟨[], ⟨?_, fun β n => ?_⟩, by simp, by simp [PV.bulkL]⟩
    · rw [List.drop_of_length_le (by omega)]; simp
    · rw [List.drop_of_length_le (by omega)]; simp [RepL]
  | p :: l, [], o, h, hp => by
    obtain ⟨d, hd, _⟩ := hp 0 p rfl
    simp at hd
  | p :: l, d :: ds, o, h, hp => by
    have hle := (inRow_le (p :: l) o h).2 p (by simp)
    simp only [inRow, Bool.and_eq_true, beq_iff_eq] at h
    obtain ⟨ps, h1, h2, h20⟩ := parts_rep5 l ds _ h.2 (fun i q hq => by simpa using hp (i + 1) q (by simpa using hq))
    obtain ⟨d', hd, ps0, h3, h4, h40⟩ := hp 0 p rfl
    simp at hd; subst hd
    have hl2 := (inRow_le l _ h.2).2
    have e0 : p.1 = o := h.1
    have l0 : ps0.length = P.cellsOf p.2 := by rw [h4.len, List.length_take, List.length_drop]; omega
    refine ⟨ps0 ++ ps, ?_, fun q hq => ?_, by rw [PV.bulkL_append]; simp only [Rows.uptoBulkAll]; omega⟩
    · have : cs.drop o = (cs.drop p.1).take (P.cellsOf p.2) ++ cs.drop (o + P.cellsOf p.2) := by
        rw [e0, ← List.drop_drop, List.take_append_drop]
      rw [this]
      exact h4.append h1
    · rcases List.mem_cons.1 hq with rfl | hq
      · rw [e0, Nat.sub_self, List.drop_zero, List.take_append_of_le_length (by omega), List.take_of_length_le (by omega)]
        exact h3
      · have h5 := hl2 q hq
        have : q.1 - o = ps0.length + (q.1 - (o + P.cellsOf p.2)) := by omega
        rw [this, ← List.drop_drop, List.drop_left]
        exact h2 q hq
theorem arg_rec5 {Ts : List TypeId} (hT : covC P Ts = true) : ∀ (fuel : Nat) (t : TypeId), Ts.contains t = true → ∀ (cs : List Value) (x : DataW H × List MemPlace), DataW.trod enc P w 0 sp held fuel t cs = some x → (∀ n ∈ x.1.weights P t, n ≤ reachBytes) →
    ∃ ps, Arg P fuel t ps ∧ RA w ps cs ∧ PV.bulkL ps ≤ Rows.uptoBulk x.1
  | 0, _, _, _, _, hx, _ => by simp [DataW.trod] at hx
  | c + 1, t, ht, cs, x, hx, hw => by
    have h := List.all_eq_true.1 hT t (by simpa using ht)
    split at h
    · rename_i hu
      obtain ⟨b, rfl, rfl⟩ := DataW.trod_bool hu hx
      refine ⟨[.sc (.bool b)], ?_, sc_RA rfl, by simp [PV.bulkL, PV.bulk, Rows.uptoBulk]⟩
      unfold Arg; rw [hu]; exact ⟨b, rfl⟩
    · rename_i k hu
      obtain ⟨n, rfl, rfl, hwf⟩ := DataW.trod_int hu hx
      refine ⟨[.sc (.int k n)], ?_, sc_RA rfl, by simp [PV.bulkL, PV.bulk, Rows.uptoBulk]⟩
      unfold Arg; rw [hu]; exact ⟨n, hwf, rfl⟩
    · rename_i hu
      obtain ⟨s, rfl, rfl, hs⟩ := DataW.trod_string hu hx
      refine ⟨[.sc (.string s)], ?_, sc_RA rfl, by have e : s.data.toList.length = s.size := by { rw [Array.length_toList]; try rfl }; simp only [PV.bulkL, PV.bulk, Rows.uptoBulk]; omega⟩
      unfold Arg; rw [hu]
      refine ⟨s, ?_, rfl⟩
      have := hw s.data.toList.length (by simp [DataW.weights])
      simpa using this
    · rename_i e hu
      simp only [Bool.and_eq_true, decide_eq_true_eq] at h
      obtain ⟨hpos, hcov⟩ := h
      rcases DataW.trod_slice hu hx with ⟨rfl, rfl⟩ | ⟨a, len, cap, elems, rest, n, hfu, rfl, rfl, hb, hl, hm, hlen, hel, hsp, hns⟩
      · refine ⟨[.imm (P.cellsOf e) []], ?_, ⟨fun v hv => ?_, fun β n => ?_⟩, by simp [PV.bulkL, PV.bulk, PV.bulkR, Rows.uptoBulk]⟩
        · unfold Arg; rw [hu]; exact ⟨[], rfl, by simp, by simp, by simp⟩
        · simp at hv; subst hv; rfl
        · simp only [RepL, Rep]
          exact ⟨⟨none, 0, rfl, Nat.le_refl _, Nat.zero_le _, .inl (by trivial)⟩, trivial⟩
      · obtain rfl : c = n := by omega
        have each : ∀ i, i < len → ∃ r : List PV, (r.length = P.cellsOf e ∧ Arg P c e r ∧ ∃ d, (elems.map (·.1))[i]? = some d ∧ PV.bulkL r ≤ Rows.uptoBulk d) ∧ ∃ ci, RA w r ci ∧ ci.length = P.cellsOf e ∧ ∀ j, j < P.cellsOf e → w.cell? ((a.add (i * P.cellsOf e)).add j) = ci[j]? := by
          intro i hi
          have h1 := hel i hi
          have h2 : elems[i]? = some (elems[i]'(by omega)) := List.getElem?_eq_getElem _
          rw [h2, Option.bind_eq_some_iff] at h1
          obtain ⟨ci, h3, h4⟩ := h1
          obtain ⟨_, h5, h6⟩ := World.cells?_some h3
          obtain ⟨r, h7, h8, h80⟩ := arg_rec5 hT c e hcov ci _ h4 (fun m hm => hw m (by
            simp only [DataW.weights, hu, List.mem_cons, List.mem_append]
            exact .inr (.inl (weightsAll_mem (i := i) (by rw [List.getElem?_map, h2]; try rfl) hm))))
          exact ⟨r, ⟨by rw [h8.len, h5], h7, _, by rw [List.getElem?_map, h2]; try rfl, h80⟩, ci, h8, h5, h6⟩
        obtain ⟨rows, hrl, hrows⟩ := exists_list len each
        refine ⟨[.imm (P.cellsOf e) rows], ?_, ⟨fun v hv => ?_, fun β m => ?_⟩, ?_⟩
        · unfold Arg; rw [hu]
          refine ⟨rows, rfl, ?_, by omega, fun r hr => ?_⟩
          · have := hw ((elems.map (·.1)).length * P.bytesOf e + (rest.map (·.1)).length * P.bytesOf e) (by
              simp only [DataW.weights, hu, List.mem_cons, Nat.add_mul, true_or])
            have h9 : rows.length = (elems.map (·.1)).length := by simp [hrl, hlen]
            rw [h9]
            exact Nat.le_trans (Nat.le_add_right _ _) this
          · obtain ⟨i, hi⟩ := List.getElem?_of_mem hr
            exact ⟨(hrows i r hi).1.1, (hrows i r hi).1.2.1⟩
        · simp at hv; subst hv; rfl
        · simp only [RepL, Rep]
          refine ⟨⟨some a, cap, by rw [hrl], by omega, hm, ?_⟩, trivial⟩
          by_cases h0 : len = 0
          · left; exact List.length_eq_zero_iff.1 (by omega)
          · right
            obtain ⟨_, _, c0, _, hc0, hcell0⟩ := each 0 (by omega)
            have h10 := hcell0 0 hpos
            rw [List.getElem?_eq_getElem (by omega)] at h10
            simp only [Nat.zero_mul, Addr.add, if_true] at h10
            have hs : a.spot = none := by
              unfold World.cell? at h10
              split at h10
              · split at h10
                · simp at h10
                · rename_i hsp; simpa using hsp
              · simp at h10
            have hblk : a.block < w.heap.size := by
              unfold World.cell? at h10
              split at h10
              · rename_i hh; exact (Array.getElem?_eq_some_iff.1 hh).1
              · simp at h10
            refine ⟨a.block, a.off, hblk, by cases a; simp only at hs; subst hs; rfl, ?_⟩
            rw [RepR_iff]
            intro i r hr
            obtain ⟨⟨g1, _⟩, ci, g2, g3, g4⟩ := hrows i r hr
            refine ⟨g1, ?_⟩
            rw [RepS_iff]
            intro j p hp
            obtain ⟨v, hv, hrep⟩ := (g2.2 β m).get hp
            have hj : j < P.cellsOf e := by rw [← g3]; exact (List.getElem?_eq_some_iff.1 hv).1
            refine ⟨v, ?_, g2.1 v (List.mem_of_getElem? hv), hrep⟩
            rw [← hv, ← g4 j hj]
            congr 1
            cases a
            simp only at hs; subst hs
            simp only [Addr.add]
            split <;> split <;> simp_all <;> omega
        · have hb5 := bulkR_le rows (elems.map (·.1)) (by simp [hrl, hlen]) fun i r hr => (hrows i r hr).1.2.2
          simp only [PV.bulkL, PV.bulk, Rows.uptoBulk]
          omega
    · rename_i fs hu
      simp only [Bool.and_eq_true, List.all_eq_true] at h
      obtain ⟨xs, n, hfu, rfl, hcl, hxl, hp⟩ := DataW.trod_struct hu hx
      obtain rfl : c = n := by omega
      have hpt : partsT P t = fs.toList.map fun f => (f.offset, f.type) := by unfold partsT; rw [hu]
      obtain ⟨ps, h1, h2, h30⟩ := parts_rep5 (w := w) (c := c) (cs := cs) (partsT P t) (xs.map (·.1)) 0 (by rw [hcl]; exact h.1) (fun i p hi => by
        have hcv := h.2 p (List.mem_of_getElem? hi)
        rw [hpt] at hi
        rw [List.getElem?_map, Option.map_eq_some_iff] at hi
        obtain ⟨f, hf, rfl⟩ := hi
        have hf' : fs[i]? = some f := by simpa using hf
        have hi' : i < xs.length := by
          rw [hxl]
          exact (Array.getElem?_eq_some_iff.1 hf').1
        have h3 := hp i f hf'
        rw [List.getElem?_eq_getElem hi'] at h3
        exact ⟨xs[i].1, by rw [List.getElem?_map, List.getElem?_eq_getElem hi']; try rfl, arg_rec5 hT c f.type hcv _ _ h3 (fun m hm => hw m (by
          simp only [DataW.weights, hu]
          exact DataW.weights_mem_each (j := i) (t := f.type) (d := xs[i].1) (by rw [List.getElem?_map, hf]; try rfl) (by rw [List.getElem?_map, List.getElem?_eq_getElem hi']; try rfl) m hm))⟩)
      refine ⟨ps, ?_, by simpa using h1, by simp only [Rows.uptoBulk]; omega⟩
      unfold Arg; rw [hu]
      exact ⟨by rw [h1.len, List.drop_zero, hcl], fun p hpm => by simpa using h2 p hpm⟩
    · rename_i k e hu
      simp only [Bool.and_eq_true, List.all_eq_true] at h
      obtain ⟨xs, n, hfu, rfl, hcl, hxl, hp⟩ := DataW.trod_array hu hx
      obtain rfl : c = n := by omega
      have hpt : partsT P t = (List.range k).map fun i => (i * P.cellsOf e, e) := by unfold partsT; rw [hu]
      obtain ⟨ps, h1, h2, h30⟩ := parts_rep5 (w := w) (c := c) (cs := cs) (partsT P t) (xs.map (·.1)) 0 (by rw [hcl]; exact h.1) (fun i p hi => by
        have hcv := h.2 p (List.mem_of_getElem? hi)
        rw [hpt, List.getElem?_map, Option.map_eq_some_iff] at hi
        obtain ⟨j, hj, rfl⟩ := hi
        obtain ⟨hjk, rfl⟩ := List.getElem?_range_some hj
        have hi' : i < xs.length := by rw [hxl]; exact hjk
        have h3 := hp i hjk
        rw [List.getElem?_eq_getElem hi'] at h3
        exact ⟨xs[i].1, by rw [List.getElem?_map, List.getElem?_eq_getElem hi']; try rfl, arg_rec5 hT c e hcv _ _ h3 (fun m hm => hw m (by
          simp only [DataW.weights, hu]
          exact weightsAll_mem (i := i) (d := xs[i].1) (by rw [List.getElem?_map, List.getElem?_eq_getElem hi']; try rfl) hm))⟩)
      refine ⟨ps, ?_, by simpa using h1, by simp only [Rows.uptoBulk]; omega⟩
      unfold Arg; rw [hu]
      exact ⟨by rw [h1.len, List.drop_zero, hcl], fun p hpm => by simpa using h2 p hpm⟩
    · simp at h
theorem arg_value5 {Ts : List TypeId} (hT : covC P Ts = true) {t : TypeId} (ht : Ts.contains t = true) {fs : Array Field} (hu : P.underlying t = some (.struct fs)) {v : Value} {d : DataW H} {pl : List MemPlace}
    (h : DataW.Trod enc P w 0 sp held t v d pl) (hv : ∃ base, Value.okWide P w .any base t v) (hw : ∀ n ∈ d.weights P t, n ≤ reachBytes) :
    ∃ c ps, Arg P c t ps ∧ (∀ β n, Rep β n (fun b => b < w.heap.size) w (.agg ps) v) ∧ PV.bulkL ps ≤ Rows.uptoBulk d := by
  obtain ⟨fuel, hf⟩ := h
  obtain ⟨ps, h1, h2, h3⟩ := arg_rec5 hT fuel t ht _ _ hf hw
  obtain ⟨base, hv⟩ := hv
  unfold Value.okWide at hv
  simp only [hu] at hv
  obtain ⟨cs, rfl, _⟩ := hv
  refine ⟨fuel, ps, h1, fun β n => ?_, h3⟩
  simp only [Rep]
  exact ⟨cs.toList, by simp, h2.1, h2.2 β n⟩
end
end Go.AM
namespace Go.AM
theorem bulkR_strs : ∀ l : List ByteArray, l.length ≤ PV.bulkR (strRows l)
 | [] => by simp
 | s :: l => by
  have := bulkR_strs l
  simp only [strRows, List.map_cons, PV.bulkR, PV.bulkL, PV.bulk, List.length_cons] at this ⊢
  omega
mutual
theorem Ex.small_bulk : ∀ (e : Ex), PV.bulkL e.cells ≤ 1048576 → e.small
 | .mk op name n args kids, h => by
  simp only [Ex.cells, PV.bulkL, PV.bulk] at h
  simp only [Ex.small]
  have := bulkR_strs args
  exact ⟨by omega, Ex.smalls_bulk kids (by omega)⟩
theorem Ex.smalls_bulk : ∀ (l : List Ex), PV.bulkR (Ex.rows l) ≤ 1048576 → Ex.smalls l
 | [], _ => by simp [Ex.smalls]
 | k :: ks, h => by
  simp only [Ex.rows, PV.bulkR] at h
  simp only [Ex.smalls]
  exact ⟨Ex.small_bulk k (by omega), Ex.smalls_bulk ks (by omega)⟩
end
mutual
theorem Sx.depth_nodes : ∀ (x : Sx), x.depth ≤ x.nodes
 | .mk kind _ _ _ _ kids => by
  have := Sx.depths_nodes kids 0
  simp only [Sx.depth, Sx.nodes]
  split <;> omega
theorem Sx.depths_nodes : ∀ (l : List Sx) (m : Nat), Sx.depths m l ≤ max m (Sx.nodess l)
 | [], m => by simp [Sx.depths, Sx.nodess]
 | k :: ks, m => by
  have h1 := Sx.depth_nodes k
  have h2 := Sx.depths_nodes ks (max m k.depth)
  simp only [Sx.depths, Sx.nodess]
  omega
end
end Go.AM
namespace Go.Proofs.Ytjlkapgpjamnkaa
open Go.AM
theorem nodess_words : ∀ l : List ByteArray, Sx.nodess (l.map wordM) = l.length
 | [] => rfl
 | s :: l => by simp only [List.map_cons, Sx.nodess, word_nodes, nodess_words l, List.length_cons]; omega
theorem words_nodes (first : ByteArray) (l : List ByteArray) : (wordsM first l).nodes = l.length + 2 := by
 simp only [wordsM, list_nodes, nodess_words, List.length_cons]
theorem exW_nodes : ∀ e : Ex, (exW e).nodes ≤ PV.bulkL e.cells := by
 refine Ex.ind ?_
 intro op name n args kids ih
 have h1 := bulkR_strs args
 simp only [Ex.cells, PV.bulkL, PV.bulk]
 unfold exW
 split
 ·simp only [Sx.nodes, Sx.nodess]; omega
 ·split
  ·rw [words_nodes]; omega
  ·split
   ·rename_i a b
    have ha := ih a (by simp)
    have hb := ih b (by simp)
    simp only [Ex.rows, PV.bulkR, list_nodes, Sx.nodess, word_nodes]
    omega
   ·simp only [list_nodes, Sx.nodess, word_nodes]; omega
end Go.Proofs.Ytjlkapgpjamnkaa
namespace Go.AM
theorem bulkR_pms : ∀ l : List Pm, 2 * l.length ≤ PV.bulkR (pmRows l)
 | [] => by simp
 | s :: l => by
  have := bulkR_pms l
  simp only [pmRows, pmRow, List.map_cons, PV.bulkR, PV.bulkL, PV.bulk, List.length_cons] at this ⊢
  omega
theorem bulkR_fms : ∀ l : List Fm, l.length ≤ PV.bulkR (Fm.rows l)
 | [] => by simp
 | s :: l => by
  have := bulkR_fms l
  cases s
  simp only [Fm.rows, Fm.cells, PV.bulkR, PV.bulkL, PV.bulk, List.length_cons] at this ⊢
  omega
mutual
theorem Fm.small_bulk : ∀ (f : Fm), PV.bulkL f.cells ≤ 1048576 → f.small
 | .mk op name args params exprs kids, h => by
  simp only [Fm.cells, PV.bulkL, PV.bulk] at h
  simp only [Fm.small]
  have := bulkR_strs args
  have := bulkR_pms params
  have := bulkR_fms kids
  exact ⟨by omega, by omega, Ex.smalls_bulk exprs (by omega), by omega, Fm.smalls_bulk kids (by omega)⟩
theorem Fm.smalls_bulk : ∀ (l : List Fm), PV.bulkR (Fm.rows l) ≤ 1048576 → Fm.smalls l
 | [], _ => by simp [Fm.smalls]
 | k :: ks, h => by
  simp only [Fm.rows, PV.bulkR] at h
  simp only [Fm.smalls]
  exact ⟨Fm.small_bulk k (by omega), Fm.smalls_bulk ks (by omega)⟩
end
end Go.AM
namespace Go.Proofs.Ytjlkapgpjamnkaa
open Go.AM
theorem nodess_params : ∀ l : List Pm, Sx.nodess (paramsW l) = 3 * l.length
 | [] => rfl
 | s :: l => by simp only [paramsW, Sx.nodess, word_nodes, nodess_params l, List.length_cons]; omega
theorem exWs_nodes : ∀ l : List Ex, Sx.nodess (l.map exW) ≤ PV.bulkR (Ex.rows l)
 | [] => by simp [Sx.nodess]
 | e :: l => by
  have h1 := exWs_nodes l
  have h2 := exW_nodes e
  simp only [List.map_cons, Sx.nodess, Ex.rows, PV.bulkR]
  omega
mutual
theorem fmW_nodes : ∀ f : Fm, (fmW f).nodes ≤ 2 * PV.bulkL f.cells
 | .mk op name args params exprs kids => by
  have h1 := bulkR_strs args
  have h2 := bulkR_pms params
  have h3 := exWs_nodes exprs
  have h4 := fmWs_nodes kids
  simp only [Fm.cells, PV.bulkL, PV.bulk]
  unfold fmW
  split
  ·rw [words_nodes]; omega
  ·split
   ·rw [words_nodes]; omega
   ·split
    ·simp only [list_nodes, Sx.nodess, word_nodes]; omega
    ·simp only [list_nodes, nodess_append]
     split <;> split <;> simp only [Sx.nodess, word_nodes, list_nodes, nodess_params] <;> omega
theorem fmWs_nodes : ∀ l : List Fm, Sx.nodess (fmWs l) ≤ 2 * PV.bulkR (Fm.rows l)
 | [] => by simp [fmWs, Sx.nodess]
 | k :: l => by
  have h1 := fmW_nodes k
  have h2 := fmWs_nodes l
  simp only [fmWs, Sx.nodess, Fm.rows, PV.bulkR]
  omega
end
theorem fmW_nodes_big {f : Fm} (h : PV.bulkL f.cells ≤ 1048576) : (fmW f).nodes ≤ bigN := by
 have := fmW_nodes f
 unfold bigN; omega
theorem fmW_depth_big {f : Fm} (h : PV.bulkL f.cells ≤ 1048576) : (fmW f).depth ≤ bigN := by
 have := fmW_nodes f
 have := Sx.depth_nodes (fmW f)
 unfold bigN; omega
end Go.Proofs.Ytjlkapgpjamnkaa
namespace Go.Proofs.Ytjlkapgpjamnkaa
open Go.AM
def opF (op name : ByteArray) (args : List ByteArray) (params : List Pm) (ne nk : Nat) : Bool :=
 if bEq op opAtom then nameB name && (args.all termB && ((((params.length : Int) + ne) + nk) == 0))
 else if bEq op opSame then bEq name ⟨#[]⟩ && (((args.length : Int) == 2) && (args.all termB && ((((params.length : Int) + ne) + nk) == 0)))
 else if (bEq op opLt || (bEq op opLe || bEq op opEq)) then bEq name ⟨#[]⟩ && (((((args.length : Int) + params.length) + nk) == 0) && ((ne : Int) == 2))
 else if (bEq op opAnd || bEq op opOr) then bEq name ⟨#[]⟩ && ((((args.length : Int) + params.length) + ne) == 0)
 else if bEq op opNot then bEq name ⟨#[]⟩ && (((((args.length : Int) + params.length) + ne) == 0) && ((nk : Int) == 1))
 else if bEq op opImp then bEq name ⟨#[]⟩ && (((((args.length : Int) + params.length) + ne) == 0) && ((nk : Int) == 2))
 else if (bEq op opAll || bEq op opSome) then bEq name ⟨#[]⟩ && ((((args.length : Int) + ne) == 0) && (((nk : Int) == 1) && params.all pmOk))
 else false
theorem partsOk_opF (op name : ByteArray) (args : List ByteArray) (params : List Pm) (ne nk : Nat) : partsOk op name args params ne nk = opF op name args params ne nk := by
 have ea : args.isEmpty = decide (args.length = 0) := by cases args <;> simp
 have ep : params.isEmpty = decide (params.length = 0) := by cases params <;> simp
 have ep2 : params.length = 0 → params.all pmOk = true := fun h => by rw [List.length_eq_zero_iff.1 h]; try rfl
 have en : emptyB name = bEq name ⟨#[]⟩ := rfl
 unfold partsOk shapeOf termsOk opF
 rw [ea, en, ep]
 generalize args.all termB = ta
 generalize params.all pmOk = pa at ep2
 generalize bEq name ⟨#[]⟩ = nm
 generalize nameB name = nn
 generalize args.length = la
 generalize params.length = lp at ep2
 cases k1 : bEq op opAtom
 ·cases k2 : bEq op opSame
  ·cases k3 : bEq op opLt
   ·cases k4 : bEq op opLe
    ·cases k5 : bEq op opEq
     ·cases k6 : bEq op opAnd
      ·cases k7 : bEq op opOr
       ·cases k8 : bEq op opNot
        ·cases k9 : bEq op opImp
         ·cases k10 : bEq op opAll
          ·cases k11 : bEq op opSome
           ·simp
           ·rw [Bool.eq_iff_iff]; simp; cases nm <;> cases pa <;> simp <;> omega
          ·rw [Bool.eq_iff_iff]; simp; cases nm <;> cases pa <;> simp <;> omega
         ·rw [Bool.eq_iff_iff]; simp; cases nm <;> cases pa <;> simp at ep2 ⊢ <;> omega
        ·rw [Bool.eq_iff_iff]; simp; cases nm <;> cases pa <;> simp at ep2 ⊢ <;> omega
       ·rw [Bool.eq_iff_iff]; simp; cases nm <;> cases pa <;> simp at ep2 ⊢ <;> omega
      ·rw [Bool.eq_iff_iff]; simp; cases nm <;> cases pa <;> simp at ep2 ⊢ <;> omega
     ·rw [Bool.eq_iff_iff]; simp; cases nm <;> cases pa <;> simp at ep2 ⊢ <;> omega
    ·rw [Bool.eq_iff_iff]; simp; cases nm <;> cases pa <;> simp at ep2 ⊢ <;> omega
   ·rw [Bool.eq_iff_iff]; simp; cases nm <;> cases pa <;> simp at ep2 ⊢ <;> omega
  ·rw [Bool.eq_iff_iff]; simp; cases nm <;> cases pa <;> cases ta <;> simp at ep2 ⊢ <;> omega
 ·rw [Bool.eq_iff_iff]; simp; cases nn <;> cases pa <;> cases ta <;> simp at ep2 ⊢ <;> omega
theorem shapedF_op {op name : ByteArray} {args : List ByteArray} {params : List Pm} {exprs : List Ex} {kids : List Fm} (hE : ∀ e ∈ exprs, shapedE e = true) (hK : ∀ k ∈ kids, shapedF k = true) :
  shapedF (.mk op name args params exprs kids) = opF op name args params exprs.length kids.length := by
 have h1 : exprs.all shapedE = true := List.all_eq_true.2 hE
 have h2 : shapedFs kids = true := shapedFs_iff.2 hK
 simp only [shapedF, h1, h2, Bool.and_true, partsOk_opF]
theorem shapedF_kid {op name : ByteArray} {args : List ByteArray} {params : List Pm} {exprs : List Ex} {kids : List Fm} (h : shapedF (.mk op name args params exprs kids) = true) : (∀ e ∈ exprs, shapedE e = true) ∧ ∀ k ∈ kids, shapedF k = true := by
 simp only [shapedF, Bool.and_eq_true] at h
 exact ⟨List.all_eq_true.1 h.1.2, shapedFs_iff.1 h.2⟩
end Go.Proofs.Ytjlkapgpjamnkaa
namespace Go.Proofs.Ytjlkapgpjamnkaa
open Go.AM
set_option maxHeartbeats 4000000
set_option maxRecDepth 20000
theorem bulk_memF : ∀ {l : List Fm} {k : Fm}, k ∈ l → PV.bulkL k.cells ≤ PV.bulkR (Fm.rows l)
 | [], _, h => by simp at h
 | x :: l, k, h => by
  simp only [Fm.rows, PV.bulkR]
  rcases List.mem_cons.1 h with rfl | h
  ·omega
  ·have := bulk_memF h; omega
theorem bulkR_exs : ∀ l : List Ex, l.length ≤ PV.bulkR (Ex.rows l)
 | [] => by simp
 | s :: l => by
  have := bulkR_exs l
  cases s
  simp only [Ex.rows, Ex.cells, PV.bulkR, PV.bulkL, PV.bulk, List.length_cons] at this ⊢
  omega
theorem fmRows_set (l : List Fm) (k : Nat) (e : Fm) : (Fm.rows l).set k e.cells = Fm.rows (l.set k e) := by simp [Fm.rows_map, List.map_set]
theorem bindF_c : ∀ f : Fm, f.small → shapedF f = true → ∀ {bound : List ByteArray} {T : PV} {to : ByteArray → Option ByteArray}, bound.length + PV.bulkL f.cells ≤ 1099511627776 → ∀ {h : Heap}, MapAt h T to →
  PCall Try.prog 82 [.agg f.cells, T, .imm 1 (strRows bound)] h fun r h' => r = .agg (bindFm to f bound).cells ∧ h' = h := by
 refine Fm.ind ?_
 intro op name args params exprs kids ih hsm hsh bound T to hb h hT
 simp only [Fm.small] at hsm
 obtain ⟨hal, hpl, hes, hkl, hks⟩ := hsm
 rw [Ex.smalls_iff] at hes
 rw [Fm.smalls_iff] at hks
 have hbk := hb
 simp only [Fm.cells, PV.bulkL, PV.bulk] at hbk
 obtain ⟨hse, hsk⟩ := shapedF_kid hsh
 have hkb : ∀ k ∈ kids, PV.bulkL k.cells ≤ PV.bulkR (Fm.rows kids) := fun k hk => bulk_memF hk
 have hel : exprs.length ≤ 1099511627776 := Nat.le_trans (bulkR_exs exprs) (by omega)
 have hpb := bulkR_pms params
 have hlE := Ex.rows_len exprs
 have hlP := pmRows_len params
 have hlK := Fm.rows_len kids
 have hbb : bound.length ≤ bigN := by unfold bigN; omega
 have hb2 : ∀ k ∈ kids, (bound ++ params.map Pm.name).length + PV.bulkL k.cells ≤ 1099511627776 := fun k hk => by
  have := hkb k hk
  simp only [List.length_append, List.length_map]; omega
 refine PCall.frz Ty.hb_82 ?_
 have hrp := fun {H : Heap} (hg : Grow h H) => replaced_c (l := args) (bound := bound) hal hbb (hT.grow hg)
 have hB : bindFm to (.mk op name args params exprs kids) bound = .mk op name (args.map (replS to bound)) params (exprs.map (bindEx to bound)) (kids.map (bindFm to · (bound ++ params.map Pm.name))) := by simp only [bindFm, bindExs_map, bindFms_map]
 rw [hB]
 clear hB
 generalize args.map (replS to bound) = args2 at hrp
 simp only [Fm.cells]
 refine pcall_body (ow := fun t => t == 3) (wf := fun f => f == 127 || f == 128) Ty.mixed Try.func82 rfl Ty.hb_82 (by rw [Try.ntmps82]; simp) ?_
 rw [Try.ntmps82, Try.results82]
 repeat' (first | refine a_seq fun K hK => ?_ | (refine a_regionS ?_; simp (maxSteps := 2000000) only [Ty.w, simprocAttr, nsucc]) | (refine hK _ _ ?_; clear hK; try simp only [pst0, simprocAttr]))
 refine owp_useQ (hrp (((Grow.refl h).new _).new _)) (by (try simp only [Ty.w, simprocAttr, nsucc]); try rfl) ?_; simp (maxSteps := 2000000) only [Ty.w, simprocAttr, nsucc]
 repeat' (first | (with_reducible refine a_hold 2 ?_) | refine a_seq fun K hK => ?_ | (refine hK _ _ ?_; clear hK; try simp only [pst0, simprocAttr]))
 refine a_gen (fun S H => S 1 = T ∧ S 2 = .imm 1 (strRows bound) ∧ S 3 = .ptr h.next 0 0 ∧ S 6 = .ptr (h.next + 1) 0 0 ∧ Grow h H ∧ h.next + 2 ≤ H.next ∧
  H.obj h.next = some (.arr 6 [[sPV op, sPV name, .imm 1 (strRows args2), .imm 2 (pmRows params), .imm 5 (Ex.rows exprs), .imm 6 (Fm.rows kids)]]) ∧
  H.obj (h.next + 1) = some (.arr 6 [[.sc (.string ⟨#[]⟩), .sc (.string ⟨#[]⟩), .sc (.slice none 0 0), .sc (.slice none 0 0), .sc (.slice none 0 0), .sc (.slice none 0 0)]])) ?_ ?_
 ·simp only [Ty.w, simprocAttr]
  refine ⟨(((Grow.refl h).new _).new _).set (Nat.le_refl _) _, ?_⟩
  simp [Heap.new, Heap.set]
 rintro S H ⟨g1, g2, g3, g6, gH, nH, k0, k1⟩
 obtain ⟨vE, HE, cE, gE, -, tE⟩ := cloneE_d hel H
 obtain ⟨vF, HF, cF, gF, -, tF⟩ := cloneF_d (l := kids) (by omega) HE
 have k0E : HE.obj h.next = some (.arr 6 [[sPV op, sPV name, .imm 1 (strRows args2), .imm 2 (pmRows params), .imm 5 (Ex.rows exprs), .imm 6 (Fm.rows kids)]]) := by rw [gE.old _ (by omega)]; exact k0
 have k0F : HF.obj h.next = some (.arr 6 [[sPV op, sPV name, .imm 1 (strRows args2), .imm 2 (pmRows params), .imm 5 (Ex.rows exprs), .imm 6 (Fm.rows kids)]]) := by rw [gF.old _ (by have := gE.le; omega)]; exact k0E
 have k1F : HF.obj (h.next + 1) = some (.arr 6 [[.sc (.string ⟨#[]⟩), .sc (.string ⟨#[]⟩), .sc (.slice none 0 0), .sc (.slice none 0 0), .sc (.slice none 0 0), .sc (.slice none 0 0)]]) := by rw [gF.old _ (by have := gE.le; omega), gE.old _ (by omega)]; exact k1
 have cP := fun H => cloneP_q (l := params) (by omega) H
 obtain ⟨pE1, pE2⟩ := tE.pc
 obtain ⟨pF1, pF2⟩ := tF.pc
 refine a_cutK (fun S h2 => S 1 = T ∧ S 2 = .imm 1 (strRows bound) ∧ S 3 = .ptr h.next 0 0 ∧ S 6 = .ptr (h.next + 1) 0 0 ∧ h2 = HF.set h.next (.arr 6 [[sPV op, sPV name, .imm 1 (strRows args2), .imm 2 (pmRows params), vE, vF]])) ?_ ?_
 ·repeat' (refine a_drawS (by decide +kernel) ?_; simp (maxSteps := 2000000) only [Ty.w, simprocAttr, g1, g2, g3, g6, k0])
  have W := And.intro g1 (And.intro g2 (And.intro g3 (And.intro g6 (And.intro k0 (And.intro k0E k0F)))))
  (first | refine a_dcall0 (cP _) (by (try simp only [Ty.w, simprocAttr, W]); try rfl) ?_ | refine a_dcallA (cP _) (by (try simp only [Ty.w, simprocAttr, W]); try rfl) (by simp only [Ty.w, simprocAttr, W]; try trivial) ?_); simp (maxSteps := 2000000) only [Ty.w, simprocAttr, W, Option.getD_some]
  refine a_dcallW (cE) (by (try simp only [Ty.w, simprocAttr, W]); try rfl) (by simp only [Ty.w, simprocAttr, pastC, List.map_cons, List.map_nil, List.forall_mem_cons]; (repeat' apply And.intro) <;> first | trivial | exact .inl (by decide +kernel) | skip) ?_; simp (maxSteps := 2000000) only [Ty.w, simprocAttr, W, Option.getD_some]
  refine ⟨fun x hx => .inr (by rw [List.mem_singleton.1 hx]; simp (maxSteps := 2000000) only [Ty.w, simprocAttr, W, Ty.all]), ?_⟩
  refine a_dcallW (cF) (by (try simp only [Ty.w, simprocAttr, W]); try rfl) (by simp only [Ty.w, simprocAttr, pastC, List.map_cons, List.map_nil, List.forall_mem_cons]; (repeat' apply And.intro) <;> first | trivial | exact .inl (by decide +kernel) | skip) ?_; simp (maxSteps := 2000000) only [Ty.w, simprocAttr, W, Option.getD_some]
  repeat' (with_reducible refine a_past2 (by simp only [List.forall_mem_cons, Ty.w, simprocAttr, g1, g2, g3, g6, k0, k0E, k0F, pE1, pE2, pF1, pF2, putC]; (repeat' apply And.intro) <;> first | trivial | exact .inl (by decide +kernel)) ?_; try simp (maxSteps := 2000000) only [Ty.w, simprocAttr, W, pE1, pE2, pF1, pF2, putC])
  simp only [set_set]
 ·rintro S' h2 ⟨g1, g2, g3, g6, rfl⟩
  have gX : Grow h (HF.set h.next (.arr 6 [[sPV op, sPV name, .imm 1 (strRows args2), .imm 2 (pmRows params), vE, vF]])) := ((gH.trans gE).trans gF).set (Nat.le_refl _) _
  have nX : HE.next ≤ (HF.set h.next (.arr 6 [[sPV op, sPV name, .imm 1 (strRows args2), .imm 2 (pmRows params), vE, vF]])).next := gF.le
  have o1 : (HF.set h.next (.arr 6 [[sPV op, sPV name, .imm 1 (strRows args2), .imm 2 (pmRows params), vE, vF]])).obj h.next = some (.arr 6 [[sPV op, sPV name, .imm 1 (strRows args2), .imm 2 (pmRows params), vE, vF]]) := by simp [Heap.set]
  have o2 : (HF.set h.next (.arr 6 [[sPV op, sPV name, .imm 1 (strRows args2), .imm 2 (pmRows params), vE, vF]])).obj (h.next + 1) = some (.arr 6 [[.sc (.string ⟨#[]⟩), .sc (.string ⟨#[]⟩), .sc (.slice none 0 0), .sc (.slice none 0 0), .sc (.slice none 0 0), .sc (.slice none 0 0)]]) := by
   simp only [Heap.set]; rw [if_neg (by omega)]; exact k1F
  have bE : ∀ id off len, vE = .own id off len → id < HE.next := by
   rintro id off len rfl
   rcases tE with ⟨_, q⟩ | ⟨_, _, q2, q3, _⟩
   ·simp at q
   ·simp only [PV.own.injEq] at q3; rw [q3.1]; exact q2
  have nE : h.next + 2 ≤ HE.next := by have := gE.le; omega
  have tE2 : Cl (HF.set h.next (.arr 6 [[sPV op, sPV name, .imm 1 (strRows args2), .imm 2 (pmRows params), vE, vF]])) (h.next + 2) 5 vE (Ex.rows exprs) := Cl.up (tE.low nH) gF.le fun j hj hj2 => by
   simp only [Heap.set]; rw [if_neg (by omega)]; exact gF.old _ hj2
  have tF2 : Cl (HF.set h.next (.arr 6 [[sPV op, sPV name, .imm 1 (strRows args2), .imm 2 (pmRows params), vE, vF]])) HE.next 6 vF (Fm.rows kids) := Cl.up tF (Nat.le_refl _) fun j hj hj2 => by
   simp only [Heap.set]; rw [if_neg (by omega)]
  generalize HF.set h.next (.arr 6 [[sPV op, sPV name, .imm 1 (strRows args2), .imm 2 (pmRows params), vE, vF]]) = h2 at gX nX o1 o2 tE2 tF2 ⊢
  generalize HE.next = M at nX bE nE tF2
  clear tE tF k0 k1 k0E k0F k1F cE cF gE gF gH nH cP hrp
  clear HE HF H
  have hslE := tE2.sl
  have hloE : ∀ H, lenP H vE = some exprs.length := fun H => by rw [lenP_sl hslE H, hlE]
  have hlkE := hslE.lk
  have hslF := tF2.sl
  have hloF : ∀ H, lenP H vF = some kids.length := fun H => by rw [lenP_sl hslF H, hlK]
  have hlkF := hslF.lk
  repeat' (first | refine a_seq fun K hK => ?_ | (refine a_block ?_) | (refine a_regionS ?_; simp (maxSteps := 2000000) only [Ty.w, simprocAttr, g1, g2, g3, g6, o1, pE1, pE2, pF1, pF2, hloE, hlkE]) | (refine hK _ _ ?_; clear hK; try simp only [pst0, simprocAttr]))
  refine a_loop (fun m S h' => S 1 = T ∧ S 2 = .imm 1 (strRows bound) ∧ S 3 = .ptr h.next 0 0 ∧ S 6 = .ptr (h.next + 1) 0 0 ∧ S 30 = vE ∧ S 31 = .sc (.int .i64 exprs.length) ∧ ∃ k : Nat, S 32 = .sc (.int .i64 k) ∧ k ≤ exprs.length ∧ m = exprs.length - k ∧ Grow h h' ∧ M ≤ h'.next ∧
   h'.obj h.next = some (.arr 6 [[sPV op, sPV name, .imm 1 (strRows args2), .imm 2 (pmRows params), vE, vF]]) ∧ h'.obj (h.next + 1) = some (.arr 6 [[.sc (.string ⟨#[]⟩), .sc (.string ⟨#[]⟩), .sc (.slice none 0 0), .sc (.slice none 0 0), .sc (.slice none 0 0), .sc (.slice none 0 0)]]) ∧
   Cl h' (h.next + 2) 5 vE (Ex.rows ((exprs.take k).map (bindEx to bound) ++ exprs.drop k)) ∧ Cl h' M 6 vF (Fm.rows kids)) exprs.length ?_ ?_
  ·simp only [Ty.w, simprocAttr]
   exact ⟨g1, g2, g3, g6, 0, rfl, by omega, rfl, gX, nX, o1, o2, by simpa using tE2, tF2⟩
  ·clear gX nX o1 o2 tE2 tF2 hslE hloE hlkE
   rintro m S h' ⟨g1, g2, g3, g6, g30, g31, k, g32, hk, rfl, hg, hn, o1, o2, tE, tF⟩
   by_cases hlt : k < exprs.length
   ·have hd : decide ((k : Int) < (exprs.length : Int)) = true := by simp; omega
    have w7 : IntKind.i64.wrap ((k : Int) + 1) = k + 1 := by rw [wrap64 (by omega) (by omega)]
    obtain ⟨x, hx⟩ : ∃ x, exprs[k]? = some x := ⟨_, List.getElem?_eq_getElem hlt⟩
    have hmem := List.mem_of_getElem? hx
    have hc := fun {H : Heap} (hgH : Grow h H) => bindE_c x (hes x hmem) (hse x hmem) hbb (hT.grow hgH)
    obtain ⟨m1, m2⟩ := mixG_get (g := bindEx to bound) hx
    have hlen : ((exprs.take k).map (bindEx to bound) ++ exprs.drop k).length = exprs.length := by simp; omega
    have hlen2 : ((exprs.take (k + 1)).map (bindEx to bound) ++ exprs.drop (k + 1)).length = exprs.length := by simp; omega
    have hr := Ex.rows_get m1
    obtain ⟨id, i1, i2, rfl, i4⟩ : ∃ id, h.next + 2 ≤ id ∧ id < h'.next ∧ vE = .own id 0 exprs.length ∧ h'.obj id = some (.arr 5 (Ex.rows ((exprs.take k).map (bindEx to bound) ++ exprs.drop k))) := by
     rcases tE with ⟨hn0, _⟩ | ⟨id, i1, i2, i3, i4⟩
     ·have := congrArg List.length hn0
      rw [Ex.rows_len, hlen] at this
      simp only [List.length_nil] at this; omega
     ·rw [Ex.rows_len, hlen] at i3; exact ⟨id, i1, i2, i3, i4⟩
    have i3 := bE id 0 exprs.length rfl
    clear tE
    have hset : (Ex.rows ((exprs.take k).map (bindEx to bound) ++ exprs.drop k)).set k (bindEx to bound x).cells = Ex.rows ((exprs.take (k + 1)).map (bindEx to bound) ++ exprs.drop (k + 1)) := by rw [exRows_set, m2]
    have hrl : (Ex.rows ((exprs.take (k + 1)).map (bindEx to bound) ++ exprs.drop (k + 1))).length = exprs.length := by rw [Ex.rows_len, hlen2]
    generalize Ex.rows ((exprs.take k).map (bindEx to bound) ++ exprs.drop k) = R at i4 hr hset
    generalize bindEx to bound x = y at hc hset
    obtain ⟨xo, xn, xv, xa, xk⟩ := x
    obtain ⟨yo, yn, yv, ya, yk⟩ := y
    simp only [Ex.cells] at hr hc hset
    have e1 : (h.next = h'.next) = False := by simp; omega
    have e2 : (id = h'.next) = False := by simp; omega
    have hgX : ∀ o o2, Grow h ((h'.new o).set h'.next o2) := fun o o2 => (hg.new _).set hg.le _
    have W := And.intro g1 (And.intro g2 (And.intro g3 (And.intro g6 (And.intro g30 (And.intro g31 (And.intro g32 (And.intro i4 (And.intro hr (And.intro hlt (And.intro o1 (And.intro e1 e2)))))))))))
    repeat' (first | refine a_seq fun K hK => ?_ | ((first | refine a_regionS ?_ | refine a_draw (by decide +kernel) (fun K hK => ?_)); simp (maxSteps := 2000000) only [Ty.w, simprocAttr, W, hd]) | (refine a_skip ?_; try simp only [pst0, simprocAttr]) | (refine a_cond _ (by (try simp (maxSteps := 2000000) only [Ty.w, simprocAttr, W, hd]); rfl) (fun hb => ?_) (fun hb => ?_) <;> (try simp only [hb0, decide_eq_true_eq, decide_eq_false_iff_not, simprocAttr] at hb) <;> (try (exfalso; omega))) | (refine hK _ _ ?_; clear hK; try simp only [pst0, simprocAttr]))
    (first | refine a_dcall0 (hc (hgX _ _)) (by (try simp only [Ty.w, simprocAttr, W]); try rfl) ?_ | refine a_dcallA (hc (hgX _ _)) (by (try simp only [Ty.w, simprocAttr, W]); try rfl) (by simp only [Ty.w, simprocAttr, W]; try trivial) ?_); simp (maxSteps := 2000000) only [Ty.w, simprocAttr, W, Option.getD_some]
    repeat' (first | (refine a_regionS ?_; simp (maxSteps := 2000000) only [Ty.w, simprocAttr, W, w7, putC, hset]) | (refine hK _ _ ?_; clear hK; try simp only [pst0, simprocAttr]) | (with_reducible refine a_past2 (by simp only [List.forall_mem_cons, Ty.w, simprocAttr, g1, g2, g3, g6, g30, g31, g32, i4, hr, hlt, o1, e1, e2, w7, putC, hset]; (repeat' apply And.intro) <;> first | trivial | exact .inl (by decide +kernel)) ?_; try simp (maxSteps := 2000000) only [Ty.w, simprocAttr, W, w7, putC, hset]))
    refine ⟨exprs.length - (k + 1), by omega, k + 1, by simp, by omega, rfl, (hgX _ _).set (by omega) _, by first | omega | (simp [Heap.new, Heap.set]; omega), ?_, ?_, ?_, ?_⟩
    ·rw [if_neg (by omega)]
    ·rw [if_neg (by omega), if_neg (by omega), if_neg (by omega)]; exact o2
    ·exact .inr ⟨id, i1, by first | omega | (simp [Heap.new, Heap.set]; omega), by rw [hrl], by simp [Heap.set]⟩
    ·refine tF.up (by simp [Heap.new, Heap.set]) fun j hj hj2 => ?_
     simp only [Heap.new, Heap.set]; rw [if_neg (by omega), if_neg (by omega), if_neg (by omega)]
   ·have hd : decide ((k : Int) < (exprs.length : Int)) = false := by simp; omega
    have hke2 : k = exprs.length := by omega
    subst hke2
    rw [List.take_length, List.drop_length, List.append_nil] at tE
    have hin := fun H => inner_g (a := op) (b := name) (c := .imm 1 (strRows args2)) (e := vE) (f := vF) (params := params) (bound := bound) ⟨rfl, rfl⟩ ⟨pE1, pE2⟩ ⟨pF1, pF2⟩ (by omega) H
    repeat' (first | refine a_seq fun K hK => ?_ | (refine a_regionS ?_; simp (maxSteps := 2000000) only [Ty.w, simprocAttr, g1, g2, g3, g6, g30, g31, g32, hd, o1, pE1, pE2, pF1, pF2]) | (refine a_exit ?_; try simp only [pst0, simprocAttr]) | (refine a_cond _ (by (try simp (maxSteps := 2000000) only [Ty.w, simprocAttr, g1, g2, g3, g6, g30, g31, g32, hd, o1, pE1, pE2, pF1, pF2]); rfl) (fun hb => ?_) (fun hb => ?_) <;> (try simp only [hb0, decide_eq_true_eq, decide_eq_false_iff_not, simprocAttr] at hb) <;> (try (exfalso; omega))) | ((first | refine hK _ _ ?_ | (clear hK; refine hK _ _ ?_)); clear hK; try simp only [pst0, simprocAttr]))
    refine owp_useQ (hin _) (by (try simp only [Ty.w, simprocAttr, g1, g2, g3, g6]); try rfl) ?_; simp (maxSteps := 2000000) only [Ty.w, simprocAttr, g1, g2, g3, g6]
    repeat' (first | refine a_seq fun K hK => ?_ | (refine a_block ?_) | (refine a_regionS ?_; simp (maxSteps := 2000000) only [Ty.w, simprocAttr, g1, g2, g3, g6, o1, pF1, pF2, hloF, hlkF]) | (refine hK _ _ ?_; clear hK; try simp only [pst0, simprocAttr]))
    clear hd hlt
    refine a_loop (fun m S h' => S 1 = T ∧ S 2 = .imm 1 (strRows (bound ++ params.map Pm.name)) ∧ S 3 = .ptr h.next 0 0 ∧ S 6 = .ptr (h.next + 1) 0 0 ∧ S 50 = vF ∧ S 51 = .sc (.int .i64 kids.length) ∧ ∃ k : Nat, S 52 = .sc (.int .i64 k) ∧ k ≤ kids.length ∧ m = kids.length - k ∧ Grow h h' ∧ M ≤ h'.next ∧
     h'.obj h.next = some (.arr 6 [[sPV op, sPV name, .imm 1 (strRows args2), .imm 2 (pmRows params), vE, vF]]) ∧ h'.obj (h.next + 1) = some (.arr 6 [[.sc (.string ⟨#[]⟩), .sc (.string ⟨#[]⟩), .sc (.slice none 0 0), .sc (.slice none 0 0), .sc (.slice none 0 0), .sc (.slice none 0 0)]]) ∧
     Cl h' (h.next + 2) 5 vE (Ex.rows (exprs.map (bindEx to bound))) ∧ Cl h' M 6 vF (Fm.rows ((kids.take k).map (bindFm to · (bound ++ params.map Pm.name)) ++ kids.drop k))) kids.length ?_ ?_
    ·simp only [Ty.w, simprocAttr]
     exact ⟨g1, g3, g6, 0, rfl, by omega, rfl, hg, hn, o1, o2, tE, by simpa using tF⟩
    ·clear hg hn o1 o2 tE tF hslF hloF hlkF hin g1 g2 g3 g6 g30 g31 g32
     clear hk
     rintro m S h' ⟨g1, g2, g3, g6, g50, g51, k, g52, hk, rfl, hg, hn, o1, o2, tE, tF⟩
     by_cases hlt : k < kids.length
     ·have hd : decide ((k : Int) < (kids.length : Int)) = true := by simp; omega
      have w7 : IntKind.i64.wrap ((k : Int) + 1) = k + 1 := by rw [wrap64 (by omega) (by omega)]
      obtain ⟨x, hx⟩ : ∃ x, kids[k]? = some x := ⟨_, List.getElem?_eq_getElem hlt⟩
      have hmem := List.mem_of_getElem? hx
      have hc := fun {H : Heap} (hgH : Grow h H) => ih x hmem (hks x hmem) (hsk x hmem) (hb2 x hmem) (hT.grow hgH)
      obtain ⟨m1, m2⟩ := mixG_get (g := (bindFm to · (bound ++ params.map Pm.name))) hx
      have hlen : ((kids.take k).map (bindFm to · (bound ++ params.map Pm.name)) ++ kids.drop k).length = kids.length := by simp; omega
      have hlen2 : ((kids.take (k + 1)).map (bindFm to · (bound ++ params.map Pm.name)) ++ kids.drop (k + 1)).length = kids.length := by simp; omega
      have hr := Fm.rows_get m1
      obtain ⟨id, i1, i2, rfl, i4⟩ : ∃ id, M ≤ id ∧ id < h'.next ∧ vF = .own id 0 kids.length ∧ h'.obj id = some (.arr 6 (Fm.rows ((kids.take k).map (bindFm to · (bound ++ params.map Pm.name)) ++ kids.drop k))) := by
       rcases tF with ⟨hn0, _⟩ | ⟨id, i1, i2, i3, i4⟩
       ·have := congrArg List.length hn0
        rw [Fm.rows_len, hlen] at this
        simp only [List.length_nil] at this; omega
       ·rw [Fm.rows_len, hlen] at i3; exact ⟨id, i1, i2, i3, i4⟩
      clear tF
      have hset : (Fm.rows ((kids.take k).map (bindFm to · (bound ++ params.map Pm.name)) ++ kids.drop k)).set k (bindFm to x (bound ++ params.map Pm.name)).cells = Fm.rows ((kids.take (k + 1)).map (bindFm to · (bound ++ params.map Pm.name)) ++ kids.drop (k + 1)) := by rw [fmRows_set, m2]
      have hrl : (Fm.rows ((kids.take (k + 1)).map (bindFm to · (bound ++ params.map Pm.name)) ++ kids.drop (k + 1))).length = kids.length := by rw [Fm.rows_len, hlen2]
      generalize Fm.rows ((kids.take k).map (bindFm to · (bound ++ params.map Pm.name)) ++ kids.drop k) = R at i4 hr hset
      generalize bindFm to x (bound ++ params.map Pm.name) = y at hc hset
      obtain ⟨xo, xn, xa, xp, xe, xk⟩ := x
      obtain ⟨yo, yn, ya, yp, ye, yk⟩ := y
      simp only [Fm.cells] at hr hc hset
      have e1 : (h.next = h'.next) = False := by simp; omega
      have e2 : (id = h'.next) = False := by simp; omega
      have hgX : ∀ o o2, Grow h ((h'.new o).set h'.next o2) := fun o o2 => (hg.new _).set hg.le _
      have W := And.intro g1 (And.intro g2 (And.intro g3 (And.intro g6 (And.intro g50 (And.intro g51 (And.intro g52 (And.intro i4 (And.intro hr (And.intro hlt (And.intro o1 (And.intro e1 e2)))))))))))
      repeat' (first | refine a_seq fun K hK => ?_ | ((first | refine a_regionS ?_ | refine a_draw (by decide +kernel) (fun K hK => ?_)); simp (maxSteps := 2000000) only [Ty.w, simprocAttr, W, hd]) | (refine a_skip ?_; try simp only [pst0, simprocAttr]) | (refine a_cond _ (by (try simp (maxSteps := 2000000) only [Ty.w, simprocAttr, W, hd]); rfl) (fun hb => ?_) (fun hb => ?_) <;> (try simp only [hb0, decide_eq_true_eq, decide_eq_false_iff_not, simprocAttr] at hb) <;> (try (exfalso; omega))) | (refine hK _ _ ?_; clear hK; try simp only [pst0, simprocAttr]))
      (first | refine a_dcall0 (hc (hgX _ _)) (by (try simp only [Ty.w, simprocAttr, W]); try rfl) ?_ | refine a_dcallA (hc (hgX _ _)) (by (try simp only [Ty.w, simprocAttr, W]); try rfl) (by simp only [Ty.w, simprocAttr, W]; try trivial) ?_); simp (maxSteps := 2000000) only [Ty.w, simprocAttr, W, Option.getD_some]
      repeat' (first | (refine a_regionS ?_; simp (maxSteps := 2000000) only [Ty.w, simprocAttr, W, w7, putC, hset]) | (refine hK _ _ ?_; clear hK; try simp only [pst0, simprocAttr]) | (with_reducible refine a_past2 (by simp only [List.forall_mem_cons, Ty.w, simprocAttr, g1, g2, g3, g6, g50, g51, g52, i4, hr, hlt, o1, e1, e2, w7, putC, hset]; (repeat' apply And.intro) <;> first | trivial | exact .inl (by decide +kernel)) ?_; try simp (maxSteps := 2000000) only [Ty.w, simprocAttr, W, w7, putC, hset]))
      refine ⟨kids.length - (k + 1), by omega, k + 1, by simp, by omega, rfl, (hgX _ _).set (by omega) _, by first | omega | (simp [Heap.new, Heap.set]; omega), ?_, ?_, ?_, ?_⟩
      ·rw [if_neg (by omega)]
      ·rw [if_neg (by omega), if_neg (by omega), if_neg (by omega)]; exact o2
      ·refine Cl.keep tE (by simp [Heap.new, Heap.set]) fun j hj hj2 => ?_
       have := bE _ _ _ hj
       simp only [Heap.new, Heap.set]; rw [if_neg (by omega), if_neg (by omega), if_neg (by omega)]
      ·exact .inr ⟨id, i1, by first | omega | (simp [Heap.new, Heap.set]; omega), by rw [hrl], by simp [Heap.set]⟩
     ·have hd : decide ((k : Int) < (kids.length : Int)) = false := by simp; omega
      have hke2 : k = kids.length := by omega
      subst hke2
      rw [List.take_length, List.drop_length, List.append_nil] at tF
      repeat' (first | refine a_seq fun K hK => ?_ | ((first | refine a_regionS ?_ | refine a_ret ?_); simp (maxSteps := 2000000) only [Ty.w, simprocAttr, g1, g2, g3, g6, g50, g51, g52, hd, o1, o2, pE1, pE2, pF1, pF2]) | (refine a_exit ?_; try simp only [pst0, simprocAttr]) | (refine a_cond _ (by (try simp (maxSteps := 2000000) only [Ty.w, simprocAttr, g1, g2, g3, g6, g50, g51, g52, hd, o1, o2, pE1, pE2, pF1, pF2]); rfl) (fun hb => ?_) (fun hb => ?_) <;> (try simp only [hb0, decide_eq_true_eq, decide_eq_false_iff_not, simprocAttr] at hb) <;> (try (exfalso; omega))) | ((first | refine hK _ _ ?_ | (clear hK; refine hK _ _ ?_)); clear hK; try simp only [pst0, simprocAttr]))
      refine ⟨frz_agg ?_, hg.set (by omega) _⟩
      have tE3 : Cl (h'.set (h.next + 1) (.arr 6 [[sPV op, sPV name, .imm 1 (strRows args2), .imm 2 (pmRows params), vE, vF]])) (h.next + 2) 5 vE (Ex.rows (exprs.map (bindEx to bound))) := tE.up (Nat.le_refl _) fun j hj _ => by simp only [Heap.set]; rw [if_neg (by omega)]
      have tF3 : Cl (h'.set (h.next + 1) (.arr 6 [[sPV op, sPV name, .imm 1 (strRows args2), .imm 2 (pmRows params), vE, vF]])) M 6 vF (Fm.rows (kids.map (bindFm to · (bound ++ params.map Pm.name)))) := tF.up (Nat.le_refl _) fun j hj _ => by simp only [Heap.set]; rw [if_neg (by omega)]
      have h1 := tE3.frz (n := h.next) fun t => tl_frzE (by omega) t
      have h2 := tF3.frz (n := h.next) fun t => tl_frzF (by omega) t
      unfold FrzL; refine ⟨by simp only [FrzTo], ?_⟩
      unfold FrzL; refine ⟨by simp only [FrzTo], ?_⟩
      unfold FrzL; refine ⟨by simp only [FrzTo]; exact .inl ⟨trivial, strs_in _ _⟩, ?_⟩
      unfold FrzL; refine ⟨by simp only [FrzTo]; exact .inl ⟨trivial, pms_in _ _⟩, ?_⟩
      unfold FrzL; refine ⟨h1, ?_⟩
      unfold FrzL; refine ⟨h2, ?_⟩
      simp only [FrzL]
end Go.Proofs.Ytjlkapgpjamnkaa
namespace Go.Proofs.Ytjlkapgpjamnkaa
open Go.AM
set_option maxHeartbeats 4000000
set_option maxRecDepth 20000
theorem frz_fm {n : Nat} {H : Heap} {op : ByteArray} {p p' e e' k k' : PV} (hp : FrzTo n H p p') (he : FrzTo n H e e') (hk : FrzTo n H k k') :
  FrzTo n H (.agg [sPV op, sPV ⟨#[]⟩, .imm 1 [], p, e, k]) (.agg [sPV op, .sc (.string ⟨#[]⟩), .sc (.slice none 0 0), p', e', k']) := by
 refine frz_agg ?_
 unfold FrzL; refine ⟨by simp only [FrzTo], ?_⟩
 unfold FrzL; refine ⟨by simp only [FrzTo], ?_⟩
 unfold FrzL; refine ⟨frz_nilslice, ?_⟩
 unfold FrzL; refine ⟨hp, ?_⟩
 unfold FrzL; refine ⟨he, ?_⟩
 unfold FrzL; refine ⟨hk, ?_⟩
 simp only [FrzL]
theorem bindE_nil {x : Ex} (hsm : x.small) (hsh : shapedE x = true) {H : Heap} {id : Nat} (ho : H.obj id = some (.map [])) (hid : id < H.next) :
  PCall Try.prog 83 [.agg x.cells, .mp id, .sc (.slice none 0 0)] H fun r h' => r = .agg x.cells ∧ h' = H := by
 refine PCall.nil_imm (z := 1) (pre := [.agg x.cells, .mp id]) (post := []) ?_
 have hm : MapAt H (.mp id) (fun _ => none) := ⟨⟨[], by simp only [mview, ho]; rfl, fun _ => rfl⟩, fun j e => by simp only [PV.mp.injEq] at e; subst e; exact hid⟩
 have := bindE_c x hsm hsh (bound := []) (by simp [bigN]) hm
 rw [bindEx_none (fun _ => rfl)] at this
 exact this
theorem less_c {op : ByteArray} {a b : Ex} (ha : a.small) (hsa : shapedE a = true) (hb : b.small) (hsb : shapedE b = true) (h : Heap) :
  PCall Try.prog 101 [sPV op, .agg a.cells, .agg b.cells] h fun r h' => r = .agg (cmpM op a b).cells ∧ h' = h := by
 refine PCall.frz Ty.hb_101 ?_
 have hg2 : Grow h ((h.new (.arr 6 [[.sc (.string ⟨#[]⟩), .sc (.string ⟨#[]⟩), .sc (.slice none 0 0), .sc (.slice none 0 0), .sc (.slice none 0 0), .sc (.slice none 0 0)]])).new (.map [])) := ((Grow.refl h).new _).new _
 have hA := bindE_nil ha hsa (H := (h.new (.arr 6 [[.sc (.string ⟨#[]⟩), .sc (.string ⟨#[]⟩), .sc (.slice none 0 0), .sc (.slice none 0 0), .sc (.slice none 0 0), .sc (.slice none 0 0)]])).new (.map [])) (id := h.next + 1) (by simp [Heap.new]) (by simp [Heap.new])
 have hB := bindE_nil hb hsb (H := (h.new (.arr 6 [[.sc (.string ⟨#[]⟩), .sc (.string ⟨#[]⟩), .sc (.slice none 0 0), .sc (.slice none 0 0), .sc (.slice none 0 0), .sc (.slice none 0 0)]])).new (.map [])) (id := h.next + 1) (by simp [Heap.new]) (by simp [Heap.new])
 have hia := exs_in h.next [a, b]
 obtain ⟨ao, an, av, aa, ak⟩ := a
 obtain ⟨bo, bn, bv, ba, bk⟩ := b
 simp only [cmpM, Fm.cells, Ex.rows, Ex.cells, strRows, pmRows, Fm.rows, List.map_nil] at hA hB hia ⊢
 refine pcall_body (ow := fun _ => false) (wf := fun _ => false) Ty.mixed Try.func101 rfl Ty.hb_101 (by rw [Try.ntmps101]; simp) ?_
 rw [Try.ntmps101, Try.results101]
 repeat' (first | refine a_seq fun K hK => ?_ | ((first | refine a_regionS ?_ | refine a_drawS (by decide +kernel) ?_); simp (maxSteps := 2000000) only [Ty.w, simprocAttr, nsucc]) | (refine hK _ _ ?_; clear hK; try simp only [pst0, simprocAttr]))
 (first | refine a_dcall0 (hA) (by (try simp only [Ty.w, simprocAttr, nsucc]); try rfl) ?_ | refine a_dcallA (hA) (by (try simp only [Ty.w, simprocAttr, nsucc]); try rfl) (by simp only [Ty.w, simprocAttr, nsucc]; try trivial) ?_); simp (maxSteps := 2000000) only [Ty.w, simprocAttr, Option.getD_some, nsucc]
 skip
 (first | refine a_dcall0 (hB) (by (try simp only [Ty.w, simprocAttr, nsucc]); try rfl) ?_ | refine a_dcallA (hB) (by (try simp only [Ty.w, simprocAttr, nsucc]); try rfl) (by simp only [Ty.w, simprocAttr, nsucc]; try trivial) ?_); simp (maxSteps := 2000000) only [Ty.w, simprocAttr, Option.getD_some, nsucc]
 repeat' (first | (refine a_ret ?_; simp (maxSteps := 2000000) only [Ty.w, simprocAttr, nsucc, putC]) | (refine hK _ _ ?_; clear hK; try simp only [pst0, simprocAttr]) | (with_reducible refine a_past2 (by simp only [List.forall_mem_cons, Ty.w, simprocAttr, nsucc, putC]; (repeat' apply And.intro) <;> first | trivial | exact .inl (by decide +kernel)) ?_; try simp (maxSteps := 2000000) only [Ty.w, simprocAttr, nsucc, putC]))
 exact ⟨frz_fm frz_nilslice (frz_imm hia) frz_nilslice, hg2.set (Nat.le_refl _) _⟩
theorem dual_c (op other : ByteArray) (s : Bool) (h : Heap) : PCall Try.prog 99 [sPV op, sPV other, .sc (.bool s)] h fun r h' => r = sPV (dualM op other s) ∧ h' = h := by
 cases s with
 | true =>
  refine pcall_body (ow := fun _ => false) (wf := fun _ => false) Ty.mixed Try.func99 rfl Ty.hb_99 (by rw [Try.ntmps99]; simp) ?_
  rw [Try.ntmps99, Try.results99]
  repeat' (first | refine a_seq fun K hK => ?_ | ((first | refine a_regionS ?_ | refine a_ret ?_); simp (maxSteps := 2000000) only [Ty.w, simprocAttr]) | (refine hK _ _ ?_; clear hK; try simp only [pst0, simprocAttr]))
  all_goals first | done | rfl | exact ⟨rfl, rfl⟩
 | false =>
  refine pcall_body (ow := fun _ => false) (wf := fun _ => false) Ty.mixed Try.func99 rfl Ty.hb_99 (by rw [Try.ntmps99]; simp) ?_
  rw [Try.ntmps99, Try.results99]
  repeat' (first | refine a_seq fun K hK => ?_ | ((first | refine a_regionS ?_ | refine a_ret ?_); simp (maxSteps := 2000000) only [Ty.w, simprocAttr]) | (refine a_skip ?_; try simp only [pst0, simprocAttr]) | (refine a_cond _ (by (try simp (maxSteps := 2000000) only [Ty.w, simprocAttr]); rfl) (fun hb => ?_) (fun hb => ?_) <;> (try simp only [hb0, decide_eq_true_eq, decide_eq_false_iff_not, simprocAttr] at hb) <;> (try (exfalso; omega))) | (refine hK _ _ ?_; clear hK; try simp only [pst0, simprocAttr]))
  all_goals first | done | rfl | exact ⟨rfl, rfl⟩
end Go.Proofs.Ytjlkapgpjamnkaa
namespace Go.AM
mutual
def Nz : PV → PV → Prop
  | .imm z rows, p => (∃ rows', p = .imm z rows' ∧ NzR rows rows') ∨ (rows = [] ∧ (p = .emp ∨ p = .sc (.slice none 0 0)))
  | .agg l, p => ∃ l', p = .agg l' ∧ NzL l l'
  | q, p => p = q
def NzL : List PV → List PV → Prop
  | [], [] => True
  | p :: ps, q :: qs => Nz p q ∧ NzL ps qs
  | _, _ => False
def NzR : List (List PV) → List (List PV) → Prop
  | [], [] => True
  | p :: ps, q :: qs => NzL p q ∧ NzR ps qs
  | _, _ => False
end
theorem NzL.len : (l l' : List PV) → NzL l l' → l.length = l'.length
  | [], [], _ => rfl
  | [], _ :: _, h => by simp [NzL] at h
  | _ :: _, [], h => by simp [NzL] at h
  | p :: l, q :: l', h => by
    unfold NzL at h
    simp only [List.length_cons, NzL.len l l' h.2]
theorem NzR.len : (l l' : List (List PV)) → NzR l l' → l.length = l'.length
  | [], [], _ => rfl
  | [], _ :: _, h => by simp [NzR] at h
  | _ :: _, [], h => by simp [NzR] at h
  | p :: l, q :: l', h => by
    unfold NzR at h
    simp only [List.length_cons, NzR.len l l' h.2]
mutual
theorem Nz.refl : (p : PV) → Nz p p
  | .imm z rows => by unfold Nz; exact .inl ⟨rows, rfl, NzR.refl rows⟩
  | .agg l => by unfold Nz; exact ⟨l, rfl, NzL.refl l⟩
  | .sc v => by unfold Nz; rfl
  | .ptr _ _ _ => by unfold Nz; rfl
  | .cptr _ => by unfold Nz; rfl
  | .own _ _ _ => by unfold Nz; rfl
  | .emp => by unfold Nz; rfl
  | .mp _ => by unfold Nz; rfl
  | .tup _ => by unfold Nz; rfl
  | .fn _ _ _ => by unfold Nz; rfl
  | .ab _ _ _ _ _ => by unfold Nz; rfl
theorem NzL.refl : (l : List PV) → NzL l l
  | [] => by unfold NzL; trivial
  | p :: l => by unfold NzL; exact ⟨Nz.refl p, NzL.refl l⟩
theorem NzR.refl : (l : List (List PV)) → NzR l l
  | [] => by unfold NzR; trivial
  | p :: l => by unfold NzR; exact ⟨NzL.refl p, NzR.refl l⟩
end
section
variable {β : Env} {n : Nat} {F : Nat → Prop} {w : World}
mutual
theorem Nz.rep : (q p : PV) → (x : Value) → Nz q p → Rep β n F w p x → Rep β n F w q x
  | .imm z rows, p, x, h, hr => by
    unfold Nz at h
    rcases h with ⟨rows', rfl, hR⟩ | ⟨rfl, rfl | rfl⟩
    · simp only [Rep] at hr ⊢
      have hl := NzR.len rows rows' hR
      obtain ⟨a, cap, rfl, g1, g2, g3⟩ := hr
      refine ⟨a, cap, by rw [hl], by omega, g2, ?_⟩
      rcases g3 with g3 | ⟨b, o, hF, ha, hRR⟩
      · left
        rw [g3] at hl
        exact List.length_eq_zero_iff.1 hl
      · exact .inr ⟨b, o, hF, ha, NzR.rep z rows rows' b o hR hRR⟩
    · simp only [Rep] at hr ⊢
      obtain ⟨a, rfl⟩ := hr
      exact ⟨a, 0, rfl, Nat.le_refl _, Nat.zero_le _, .inl trivial⟩
    · simp only [Rep] at hr ⊢
      exact ⟨none, 0, hr, Nat.le_refl _, Nat.zero_le _, .inl trivial⟩
  | .agg l, p, x, h, hr => by
    unfold Nz at h
    obtain ⟨l', rfl, hl⟩ := h
    simp only [Rep] at hr ⊢
    obtain ⟨xs, rfl, h1, h2⟩ := hr
    exact ⟨xs, rfl, h1, NzL.rep l l' xs hl h2⟩
  | .sc _, p, x, h, hr => by unfold Nz at h; subst h; exact hr
  | .ptr _ _ _, p, x, h, hr => by unfold Nz at h; subst h; exact hr
  | .cptr _, p, x, h, hr => by unfold Nz at h; subst h; exact hr
  | .own _ _ _, p, x, h, hr => by unfold Nz at h; subst h; exact hr
  | .emp, p, x, h, hr => by unfold Nz at h; subst h; exact hr
  | .mp _, p, x, h, hr => by unfold Nz at h; subst h; exact hr
  | .tup _, p, x, h, hr => by unfold Nz at h; subst h; exact hr
  | .fn _ _ _, p, x, h, hr => by unfold Nz at h; subst h; exact hr
  | .ab _ _ _ _ _, p, x, h, hr => by unfold Nz at h; subst h; exact hr
theorem NzL.rep : (l l' : List PV) → (xs : List Value) → NzL l l' → RepL β n F w l' xs → RepL β n F w l xs
  | [], [], xs, _, hr => hr
  | [], _ :: _, _, h, _ => by simp [NzL] at h
  | _ :: _, [], _, h, _ => by simp [NzL] at h
  | p :: l, q :: l', [], _, hr => by simp [RepL] at hr
  | p :: l, q :: l', v :: xs, h, hr => by
    unfold NzL at h
    unfold RepL at hr ⊢
    exact ⟨Nz.rep p q v h.1 hr.1, NzL.rep l l' xs h.2 hr.2⟩
theorem NzS.rep : (l l' : List PV) → (b o : Nat) → NzL l l' → RepS β n F w l' b o → RepS β n F w l b o
  | [], [], _, _, _, _ => by unfold RepS; trivial
  | [], _ :: _, _, _, h, _ => by simp [NzL] at h
  | _ :: _, [], _, _, h, _ => by simp [NzL] at h
  | p :: l, q :: l', b, o, h, hr => by
    unfold NzL at h
    unfold RepS at hr ⊢
    obtain ⟨⟨v, h1, h2, h3⟩, h4⟩ := hr
    exact ⟨⟨v, h1, h2, Nz.rep p q v h.1 h3⟩, NzS.rep l l' b (o + 1) h.2 h4⟩
theorem NzR.rep (z : Nat) : (l l' : List (List PV)) → (b o : Nat) → NzR l l' → RepR β n F w z l' b o → RepR β n F w z l b o
  | [], [], _, _, _, _ => by unfold RepR; trivial
  | [], _ :: _, _, _, h, _ => by simp [NzR] at h
  | _ :: _, [], _, _, h, _ => by simp [NzR] at h
  | p :: l, q :: l', b, o, h, hr => by
    unfold NzR at h
    unfold RepR at hr ⊢
    exact ⟨⟨by rw [NzL.len p q h.1]; exact hr.1.1, NzS.rep p q b o h.1 hr.1.2⟩, NzR.rep z l l' b (o + z) h.2 hr.2⟩
end
end
theorem PCall.nz {P : Program} {f : FuncId} {ys xs : List PV} {h : Heap} {K : PV → Heap → Prop} (hc : PCall P f ys h K) (hz : NzL ys xs) : PCall P f xs h K :=
  fun β w vals sm hr => hc β w vals sm (NzL.rep ys xs vals hz hr)
theorem PCall.nzRes {P : Program} {f : FuncId} {args : List PV} {h : Heap} {v q : PV} (hz : Nz v q) (hc : PCall P f args h fun r h' => r = q ∧ h' = h) : PCall P f args h fun r h' => r = v ∧ h' = h := by
  refine fun β w vals sm hr => (hc β w vals sm hr).mono ?_
  rintro e w' ⟨r, h', β', x, rfl, ⟨rfl, rfl⟩, sm', hrep, ex⟩
  exact ⟨v, h', β', x, rfl, ⟨rfl, rfl⟩, sm', Nz.rep _ _ _ hz hrep, ex⟩
theorem nz_nil {z : Nat} : Nz (.imm z []) (.sc (.slice none 0 0)) := by unfold Nz; exact .inr ⟨rfl, .inr rfl⟩
theorem nz_imm {z : Nat} {r r' : List (List PV)} (h : NzR r r') : Nz (.imm z r) (.imm z r') := by unfold Nz; exact .inl ⟨_, rfl, h⟩
theorem nz_agg {r r' : List PV} (h : NzL r r') : Nz (.agg r) (.agg r') := by unfold Nz; exact ⟨_, rfl, h⟩
theorem nz_cons {p q : PV} {l m : List PV} (h : Nz p q) (h2 : NzL l m) : NzL (p :: l) (q :: m) := by unfold NzL; exact ⟨h, h2⟩
theorem nzr_cons {p q : List PV} {l m : List (List PV)} (h : NzL p q) (h2 : NzR l m) : NzR (p :: l) (q :: m) := by unfold NzR; exact ⟨h, h2⟩
end Go.AM
namespace Go.Proofs.Ytjlkapgpjamnkaa
open Go.AM
set_option maxHeartbeats 4000000
set_option maxRecDepth 20000
theorem sr_nil : strRows [] = [] := rfl
theorem pr_nil : pmRows [] = [] := rfl
def NormC (f : Fm) : Prop := ∀ (s : Bool) (h : Heap), PCall Try.prog 61 [.agg f.cells, .sc (.bool s)] h fun r h' => r = .agg (normalM f s).cells ∧ h' = h
theorem norm_not {k : Fm} (ih : NormC k) : NormC (.mk opNot ⟨#[]⟩ [] [] [] [k]) := by
 intro s h
 show PCall _ _ _ _ fun r h' => r = .agg (normalM k (!s)).cells ∧ h' = h
 refine PCall.frz Ty.hb_61 ?_
 have hc := ih (!s)
 have hfz := fun (n : Nat) (H : Heap) => fm_frz n H (normalM k (!s))
 generalize normalM k (!s) = y at hc hfz ⊢
 obtain ⟨yo, yn, ya, yp, ye, yk⟩ := y
 obtain ⟨ko, kn, ka, kp, ke, kk⟩ := k
 simp only [Fm.cells, Fm.rows, Ex.rows, sr_nil, pr_nil] at hc hfz ⊢
 have k1 : (opNot.data.toList == (#[110, 111, 116] : Array UInt8).toList) = true := rfl
 refine pcall_body (ow := fun _ => false) (wf := fun _ => false) Ty.mixed Try.func61 rfl Ty.hb_61 (by rw [Try.ntmps61]; simp) ?_
 rw [Try.ntmps61, Try.results61]
 repeat' (first | refine a_seq fun K hK => ?_ | (refine a_regionS ?_; simp (maxSteps := 2000000) only [Ty.w, simprocAttr, k1, nsucc]) | (refine hK _ _ ?_; clear hK; try simp only [pst0, simprocAttr]))
 refine owp_useQ (hc _) (by (try simp only [Ty.w, simprocAttr, k1, nsucc]); try rfl) ?_; simp (maxSteps := 2000000) only [Ty.w, simprocAttr, k1, nsucc]
 repeat' (first | (refine a_ret ?_; simp (maxSteps := 2000000) only [Ty.w, simprocAttr, nsucc, putC]) | (refine hK _ _ ?_; clear hK; try simp only [pst0, simprocAttr]))
 exact ⟨frz_agg (hfz _ _), ((Grow.refl h).new _).set (Nat.le_refl _) _⟩
theorem norm_atom {name : ByteArray} {args : List ByteArray} {params : List Pm} {exprs : List Ex} {kids : List Fm} (hbi : ∀ H : Heap, PCall Try.prog 82 [.agg (Fm.mk opAtom name args params exprs kids).cells, .sc (.map none), .sc (.slice none 0 0)] H fun r h' => r = .agg (Fm.mk opAtom name args params exprs kids).cells ∧ h' = H) : NormC (.mk opAtom name args params exprs kids) := by
 intro s h
 refine PCall.frz Ty.hb_61 ?_
 have k1 : (opAtom.data.toList == (#[110, 111, 116] : Array UInt8).toList) = false := rfl
 have k2 : (opAtom.data.toList == (#[105, 109, 112, 108, 121] : Array UInt8).toList) = false := rfl
 have k3 : (opAtom.data.toList == (#[97, 110, 100] : Array UInt8).toList) = false := rfl
 have k4 : (opAtom.data.toList == (#[111, 114] : Array UInt8).toList) = false := rfl
 have k5 : (opAtom.data.toList == (#[102, 111, 114, 97, 108, 108] : Array UInt8).toList) = false := rfl
 have k6 : (opAtom.data.toList == (#[101, 120, 105, 115, 116, 115] : Array UInt8).toList) = false := rfl
 have k7 : (opAtom.data.toList == (#[60] : Array UInt8).toList) = false := rfl
 have k8 : (opAtom.data.toList == (#[60, 61] : Array UInt8).toList) = false := rfl
 have k9 : (opAtom.data.toList == (#[61] : Array UInt8).toList) = false := rfl
 have g2 : Grow h ((h.new (.arr 6 [[.sc (.string ⟨#[]⟩), .sc (.string ⟨#[]⟩), .sc (.slice none 0 0), .sc (.slice none 0 0), .sc (.slice none 0 0), .sc (.slice none 0 0)]])).new (.arr 6 [[.sc (.string ⟨#[]⟩), .sc (.string ⟨#[]⟩), .sc (.slice none 0 0), .sc (.slice none 0 0), .sc (.slice none 0 0), .sc (.slice none 0 0)]])) := ((Grow.refl h).new _).new _
 cases s with
 | true =>
  have hN : normalM (.mk opAtom name args params exprs kids) true = .mk opAtom name args params exprs kids := rfl
  rw [hN]
  have hfz := fun (n : Nat) (H : Heap) => fm_frz n H (.mk opAtom name args params exprs kids)
  simp only [Fm.cells] at hbi hfz ⊢
  refine pcall_body (ow := fun _ => false) (wf := fun _ => false) Ty.mixed Try.func61 rfl Ty.hb_61 (by rw [Try.ntmps61]; simp) ?_
  rw [Try.ntmps61, Try.results61]
  repeat' (first | refine a_seq fun K hK => ?_ | (refine a_regionS ?_; simp (maxSteps := 2000000) only [Ty.w, simprocAttr, k1, k2, k3, k4, k5, k6, k7, k8, k9, nsucc]) | (refine a_cond _ (by (try simp (maxSteps := 2000000) only [Ty.w, simprocAttr, k1, k2, k3, k4, k5, k6, k7, k8, k9, nsucc]); rfl) (fun hb => ?_) (fun hb => ?_) <;> (try simp only [hb0, decide_eq_true_eq, decide_eq_false_iff_not, simprocAttr] at hb) <;> (try (exfalso; omega))) | (refine hK _ _ ?_; clear hK; try simp only [pst0, simprocAttr]))
  refine owp_useQ (hbi _) (by (try simp only [Ty.w, simprocAttr, k1, k2, k3, k4, k5, k6, k7, k8, k9, nsucc]); try rfl) ?_; simp (maxSteps := 2000000) only [Ty.w, simprocAttr, k1, k2, k3, k4, k5, k6, k7, k8, k9, nsucc]
  repeat' (first | refine a_seq fun K hK => ?_ | ((first | refine a_regionS ?_ | refine a_ret ?_); simp (maxSteps := 2000000) only [Ty.w, simprocAttr, nsucc, putC]) | (refine hK _ _ ?_; clear hK; try simp only [pst0, simprocAttr]))
  exact ⟨frz_agg (hfz _ _), (g2.set (Nat.le_succ _) _).set (Nat.le_refl _) _⟩
 | false =>
  have hN : normalM (.mk opAtom name args params exprs kids) false = .mk opNot ⟨#[]⟩ [] [] [] [.mk opAtom name args params exprs kids] := rfl
  rw [hN]
  have hfz := fun (n : Nat) => fms_in n [.mk opAtom name args params exprs kids]
  simp only [Fm.cells, Fm.rows, Ex.rows, sr_nil, pr_nil] at hbi hfz ⊢
  refine pcall_body (ow := fun _ => false) (wf := fun _ => false) Ty.mixed Try.func61 rfl Ty.hb_61 (by rw [Try.ntmps61]; simp) ?_
  rw [Try.ntmps61, Try.results61]
  repeat' (first | refine a_seq fun K hK => ?_ | (refine a_regionS ?_; simp (maxSteps := 2000000) only [Ty.w, simprocAttr, k1, k2, k3, k4, k5, k6, k7, k8, k9, nsucc, Bool.not_false]) | (refine a_cond _ (by (try simp (maxSteps := 2000000) only [Ty.w, simprocAttr, k1, k2, k3, k4, k5, k6, k7, k8, k9, nsucc, Bool.not_false]); rfl) (fun hb => ?_) (fun hb => ?_) <;> (try simp only [hb0, decide_eq_true_eq, decide_eq_false_iff_not, simprocAttr] at hb) <;> (try (exfalso; omega))) | (refine hK _ _ ?_; clear hK; try simp only [pst0, simprocAttr]))
  refine owp_useQ (hbi _) (by (try simp only [Ty.w, simprocAttr, k1, k2, k3, k4, k5, k6, k7, k8, k9, nsucc]); try rfl) ?_; simp (maxSteps := 2000000) only [Ty.w, simprocAttr, k1, k2, k3, k4, k5, k6, k7, k8, k9, nsucc]
  repeat' (first | refine a_seq fun K hK => ?_ | ((first | refine a_regionS ?_ | refine a_ret ?_); simp (maxSteps := 2000000) only [Ty.w, simprocAttr, nsucc, putC]) | (refine a_skip ?_; try simp only [pst0, simprocAttr]) | (refine a_cond _ (by (try simp (maxSteps := 2000000) only [Ty.w, simprocAttr, nsucc, putC]); rfl) (fun hb => ?_) (fun hb => ?_) <;> (try simp only [hb0, decide_eq_true_eq, decide_eq_false_iff_not, simprocAttr] at hb) <;> (try (exfalso; omega))) | (refine hK _ _ ?_; clear hK; try simp only [pst0, simprocAttr]))
  exact ⟨frz_fm frz_nilslice frz_nilslice (frz_imm (hfz _)), (g2.set (Nat.le_succ _) _).set (Nat.le_refl _) _⟩
theorem norm_same {name : ByteArray} {args : List ByteArray} {params : List Pm} {exprs : List Ex} {kids : List Fm} (hbi : ∀ H : Heap, PCall Try.prog 82 [.agg (Fm.mk opSame name args params exprs kids).cells, .sc (.map none), .sc (.slice none 0 0)] H fun r h' => r = .agg (Fm.mk opSame name args params exprs kids).cells ∧ h' = H) : NormC (.mk opSame name args params exprs kids) := by
 intro s h
 refine PCall.frz Ty.hb_61 ?_
 have k1 : (opSame.data.toList == (#[110, 111, 116] : Array UInt8).toList) = false := rfl
 have k2 : (opSame.data.toList == (#[105, 109, 112, 108, 121] : Array UInt8).toList) = false := rfl
 have k3 : (opSame.data.toList == (#[97, 110, 100] : Array UInt8).toList) = false := rfl
 have k4 : (opSame.data.toList == (#[111, 114] : Array UInt8).toList) = false := rfl
 have k5 : (opSame.data.toList == (#[102, 111, 114, 97, 108, 108] : Array UInt8).toList) = false := rfl
 have k6 : (opSame.data.toList == (#[101, 120, 105, 115, 116, 115] : Array UInt8).toList) = false := rfl
 have k7 : (opSame.data.toList == (#[60] : Array UInt8).toList) = false := rfl
 have k8 : (opSame.data.toList == (#[60, 61] : Array UInt8).toList) = false := rfl
 have k9 : (opSame.data.toList == (#[61] : Array UInt8).toList) = false := rfl
 have g2 : Grow h ((h.new (.arr 6 [[.sc (.string ⟨#[]⟩), .sc (.string ⟨#[]⟩), .sc (.slice none 0 0), .sc (.slice none 0 0), .sc (.slice none 0 0), .sc (.slice none 0 0)]])).new (.arr 6 [[.sc (.string ⟨#[]⟩), .sc (.string ⟨#[]⟩), .sc (.slice none 0 0), .sc (.slice none 0 0), .sc (.slice none 0 0), .sc (.slice none 0 0)]])) := ((Grow.refl h).new _).new _
 cases s with
 | true =>
  have hN : normalM (.mk opSame name args params exprs kids) true = .mk opSame name args params exprs kids := rfl
  rw [hN]
  have hfz := fun (n : Nat) (H : Heap) => fm_frz n H (.mk opSame name args params exprs kids)
  simp only [Fm.cells] at hbi hfz ⊢
  refine pcall_body (ow := fun _ => false) (wf := fun _ => false) Ty.mixed Try.func61 rfl Ty.hb_61 (by rw [Try.ntmps61]; simp) ?_
  rw [Try.ntmps61, Try.results61]
  repeat' (first | refine a_seq fun K hK => ?_ | (refine a_regionS ?_; simp (maxSteps := 2000000) only [Ty.w, simprocAttr, k1, k2, k3, k4, k5, k6, k7, k8, k9, nsucc]) | (refine a_cond _ (by (try simp (maxSteps := 2000000) only [Ty.w, simprocAttr, k1, k2, k3, k4, k5, k6, k7, k8, k9, nsucc]); rfl) (fun hb => ?_) (fun hb => ?_) <;> (try simp only [hb0, decide_eq_true_eq, decide_eq_false_iff_not, simprocAttr] at hb) <;> (try (exfalso; omega))) | (refine hK _ _ ?_; clear hK; try simp only [pst0, simprocAttr]))
  refine owp_useQ (hbi _) (by (try simp only [Ty.w, simprocAttr, k1, k2, k3, k4, k5, k6, k7, k8, k9, nsucc]); try rfl) ?_; simp (maxSteps := 2000000) only [Ty.w, simprocAttr, k1, k2, k3, k4, k5, k6, k7, k8, k9, nsucc]
  repeat' (first | refine a_seq fun K hK => ?_ | ((first | refine a_regionS ?_ | refine a_ret ?_); simp (maxSteps := 2000000) only [Ty.w, simprocAttr, nsucc, putC]) | (refine hK _ _ ?_; clear hK; try simp only [pst0, simprocAttr]))
  exact ⟨frz_agg (hfz _ _), (g2.set (Nat.le_succ _) _).set (Nat.le_refl _) _⟩
 | false =>
  have hN : normalM (.mk opSame name args params exprs kids) false = .mk opNot ⟨#[]⟩ [] [] [] [.mk opSame name args params exprs kids] := rfl
  rw [hN]
  have hfz := fun (n : Nat) => fms_in n [.mk opSame name args params exprs kids]
  simp only [Fm.cells, Fm.rows, Ex.rows, sr_nil, pr_nil] at hbi hfz ⊢
  refine pcall_body (ow := fun _ => false) (wf := fun _ => false) Ty.mixed Try.func61 rfl Ty.hb_61 (by rw [Try.ntmps61]; simp) ?_
  rw [Try.ntmps61, Try.results61]
  repeat' (first | refine a_seq fun K hK => ?_ | (refine a_regionS ?_; simp (maxSteps := 2000000) only [Ty.w, simprocAttr, k1, k2, k3, k4, k5, k6, k7, k8, k9, nsucc, Bool.not_false]) | (refine a_cond _ (by (try simp (maxSteps := 2000000) only [Ty.w, simprocAttr, k1, k2, k3, k4, k5, k6, k7, k8, k9, nsucc, Bool.not_false]); rfl) (fun hb => ?_) (fun hb => ?_) <;> (try simp only [hb0, decide_eq_true_eq, decide_eq_false_iff_not, simprocAttr] at hb) <;> (try (exfalso; omega))) | (refine hK _ _ ?_; clear hK; try simp only [pst0, simprocAttr]))
  refine owp_useQ (hbi _) (by (try simp only [Ty.w, simprocAttr, k1, k2, k3, k4, k5, k6, k7, k8, k9, nsucc]); try rfl) ?_; simp (maxSteps := 2000000) only [Ty.w, simprocAttr, k1, k2, k3, k4, k5, k6, k7, k8, k9, nsucc]
  repeat' (first | refine a_seq fun K hK => ?_ | ((first | refine a_regionS ?_ | refine a_ret ?_); simp (maxSteps := 2000000) only [Ty.w, simprocAttr, nsucc, putC]) | (refine a_skip ?_; try simp only [pst0, simprocAttr]) | (refine a_cond _ (by (try simp (maxSteps := 2000000) only [Ty.w, simprocAttr, nsucc, putC]); rfl) (fun hb => ?_) (fun hb => ?_) <;> (try simp only [hb0, decide_eq_true_eq, decide_eq_false_iff_not, simprocAttr] at hb) <;> (try (exfalso; omega))) | (refine hK _ _ ?_; clear hK; try simp only [pst0, simprocAttr]))
  exact ⟨frz_fm frz_nilslice frz_nilslice (frz_imm (hfz _)), (g2.set (Nat.le_succ _) _).set (Nat.le_refl _) _⟩
theorem norm_lt {a b : Ex} (ha : a.small) (hsa : shapedE a = true) (hb : b.small) (hsb : shapedE b = true) : NormC (cmpM opLt a b) := by
 intro s h
 refine PCall.frz Ty.hb_61 ?_
 have k1 : (opLt.data.toList == (#[110, 111, 116] : Array UInt8).toList) = false := rfl
 have k2 : (opLt.data.toList == (#[105, 109, 112, 108, 121] : Array UInt8).toList) = false := rfl
 have k3 : (opLt.data.toList == (#[97, 110, 100] : Array UInt8).toList) = false := rfl
 have k4 : (opLt.data.toList == (#[111, 114] : Array UInt8).toList) = false := rfl
 have k5 : (opLt.data.toList == (#[102, 111, 114, 97, 108, 108] : Array UInt8).toList) = false := rfl
 have k6 : (opLt.data.toList == (#[101, 120, 105, 115, 116, 115] : Array UInt8).toList) = false := rfl
 have k7 : (opLt.data.toList == (#[60] : Array UInt8).toList) = true := rfl
 have g1 : Grow h (h.new (.arr 6 [[.sc (.string ⟨#[]⟩), .sc (.string ⟨#[]⟩), .sc (.slice none 0 0), .sc (.slice none 0 0), .sc (.slice none 0 0), .sc (.slice none 0 0)]])) := (Grow.refl h).new _
 cases s with
 | true =>
  show PCall _ _ _ _ fun r h' => FrzTo h.next h' (.agg (cmpM opLt a b).cells) r ∧ Grow h h'
  have hc := fun H => less_c (op := opLt) (a := a) (b := b) ha hsa hb hsb H
  have hfz := fun (n : Nat) (H : Heap) => fm_frz n H (cmpM opLt a b)
  obtain ⟨ao, an, av, aa, ak⟩ := a
  obtain ⟨bo, bn, bv, ba, bk⟩ := b
  simp only [cmpM, Fm.cells, Fm.rows, Ex.rows, Ex.cells, sr_nil, pr_nil] at hc hfz ⊢
  refine pcall_body (ow := fun _ => false) (wf := fun _ => false) Ty.mixed Try.func61 rfl Ty.hb_61 (by rw [Try.ntmps61]; simp) ?_
  rw [Try.ntmps61, Try.results61]
  have W := And.intro k1 (And.intro k2 (And.intro k3 (And.intro k4 (And.intro k5 (And.intro k6 k7)))))
  repeat' (first | refine a_seq fun K hK => ?_ | ((first | refine a_regionS ?_ | refine a_drawS (by decide +kernel) ?_); simp (maxSteps := 2000000) only [Ty.w, simprocAttr, W, nsucc]) | (refine a_skip ?_; try simp only [pst0, simprocAttr]) | (refine a_cond _ (by (try simp (maxSteps := 2000000) only [Ty.w, simprocAttr, W, nsucc]); rfl) (fun hb => ?_) (fun hb => ?_) <;> (try simp only [hb0, decide_eq_true_eq, decide_eq_false_iff_not, simprocAttr] at hb) <;> (try (exfalso; omega))) | (refine hK _ _ ?_; clear hK; try simp only [pst0, simprocAttr]))
  (first | refine a_dcall0 (hc _) (by (try simp only [Ty.w, simprocAttr, W, nsucc]); try rfl) ?_ | refine a_dcallA (hc _) (by (try simp only [Ty.w, simprocAttr, W, nsucc]); try rfl) (by simp only [Ty.w, simprocAttr, W, nsucc]; try trivial) ?_); simp (maxSteps := 2000000) only [Ty.w, simprocAttr, W, Option.getD_some, nsucc]
  repeat' (first | (refine a_ret ?_; simp (maxSteps := 2000000) only [Ty.w, simprocAttr, nsucc, putC]) | (refine hK _ _ ?_; clear hK; try simp only [pst0, simprocAttr]) | (with_reducible refine a_past2 (by simp only [List.forall_mem_cons, Ty.w, simprocAttr, nsucc, putC]; (repeat' apply And.intro) <;> first | trivial | exact .inl (by decide +kernel)) ?_; try simp (maxSteps := 2000000) only [Ty.w, simprocAttr, nsucc, putC]))
  exact ⟨frz_agg (hfz _ _), g1.set (Nat.le_refl _) _⟩
 | false =>
  show PCall _ _ _ _ fun r h' => FrzTo h.next h' (.agg (cmpM opLe b a).cells) r ∧ Grow h h'
  have hc := fun H => less_c (op := opLe) (a := b) (b := a) hb hsb ha hsa H
  have hfz := fun (n : Nat) (H : Heap) => fm_frz n H (cmpM opLe b a)
  obtain ⟨ao, an, av, aa, ak⟩ := a
  obtain ⟨bo, bn, bv, ba, bk⟩ := b
  simp only [cmpM, Fm.cells, Fm.rows, Ex.rows, Ex.cells, sr_nil, pr_nil] at hc hfz ⊢
  refine pcall_body (ow := fun _ => false) (wf := fun _ => false) Ty.mixed Try.func61 rfl Ty.hb_61 (by rw [Try.ntmps61]; simp) ?_
  rw [Try.ntmps61, Try.results61]
  have W := And.intro k1 (And.intro k2 (And.intro k3 (And.intro k4 (And.intro k5 (And.intro k6 k7)))))
  repeat' (first | refine a_seq fun K hK => ?_ | ((first | refine a_regionS ?_ | refine a_drawS (by decide +kernel) ?_); simp (maxSteps := 2000000) only [Ty.w, simprocAttr, W, nsucc]) | (refine a_cond _ (by (try simp (maxSteps := 2000000) only [Ty.w, simprocAttr, W, nsucc]); rfl) (fun hb => ?_) (fun hb => ?_) <;> (try simp only [hb0, decide_eq_true_eq, decide_eq_false_iff_not, simprocAttr] at hb) <;> (try (exfalso; omega))) | (refine hK _ _ ?_; clear hK; try simp only [pst0, simprocAttr]))
  (first | refine a_dcall0 (hc _) (by (try simp only [Ty.w, simprocAttr, W, nsucc]); try rfl) ?_ | refine a_dcallA (hc _) (by (try simp only [Ty.w, simprocAttr, W, nsucc]); try rfl) (by simp only [Ty.w, simprocAttr, W, nsucc]; try trivial) ?_); simp (maxSteps := 2000000) only [Ty.w, simprocAttr, W, Option.getD_some, nsucc]
  repeat' (first | (refine a_ret ?_; simp (maxSteps := 2000000) only [Ty.w, simprocAttr, nsucc, putC]) | (refine hK _ _ ?_; clear hK; try simp only [pst0, simprocAttr]) | (with_reducible refine a_past2 (by simp only [List.forall_mem_cons, Ty.w, simprocAttr, nsucc, putC]; (repeat' apply And.intro) <;> first | trivial | exact .inl (by decide +kernel)) ?_; try simp (maxSteps := 2000000) only [Ty.w, simprocAttr, nsucc, putC]))
  exact ⟨frz_agg (hfz _ _), g1.set (Nat.le_refl _) _⟩
theorem norm_le {a b : Ex} (ha : a.small) (hsa : shapedE a = true) (hb : b.small) (hsb : shapedE b = true) : NormC (cmpM opLe a b) := by
 intro s h
 refine PCall.frz Ty.hb_61 ?_
 have k1 : (opLe.data.toList == (#[110, 111, 116] : Array UInt8).toList) = false := rfl
 have k2 : (opLe.data.toList == (#[105, 109, 112, 108, 121] : Array UInt8).toList) = false := rfl
 have k3 : (opLe.data.toList == (#[97, 110, 100] : Array UInt8).toList) = false := rfl
 have k4 : (opLe.data.toList == (#[111, 114] : Array UInt8).toList) = false := rfl
 have k5 : (opLe.data.toList == (#[102, 111, 114, 97, 108, 108] : Array UInt8).toList) = false := rfl
 have k6 : (opLe.data.toList == (#[101, 120, 105, 115, 116, 115] : Array UInt8).toList) = false := rfl
 have k7 : (opLe.data.toList == (#[60] : Array UInt8).toList) = false := rfl
 have k8 : (opLe.data.toList == (#[60, 61] : Array UInt8).toList) = true := rfl
 have g1 : Grow h (h.new (.arr 6 [[.sc (.string ⟨#[]⟩), .sc (.string ⟨#[]⟩), .sc (.slice none 0 0), .sc (.slice none 0 0), .sc (.slice none 0 0), .sc (.slice none 0 0)]])) := (Grow.refl h).new _
 cases s with
 | true =>
  show PCall _ _ _ _ fun r h' => FrzTo h.next h' (.agg (cmpM opLe a b).cells) r ∧ Grow h h'
  have hc := fun H => less_c (op := opLe) (a := a) (b := b) ha hsa hb hsb H
  have hfz := fun (n : Nat) (H : Heap) => fm_frz n H (cmpM opLe a b)
  obtain ⟨ao, an, av, aa, ak⟩ := a
  obtain ⟨bo, bn, bv, ba, bk⟩ := b
  simp only [cmpM, Fm.cells, Fm.rows, Ex.rows, Ex.cells, sr_nil, pr_nil] at hc hfz ⊢
  refine pcall_body (ow := fun _ => false) (wf := fun _ => false) Ty.mixed Try.func61 rfl Ty.hb_61 (by rw [Try.ntmps61]; simp) ?_
  rw [Try.ntmps61, Try.results61]
  have W := And.intro k1 (And.intro k2 (And.intro k3 (And.intro k4 (And.intro k5 (And.intro k6 (And.intro k7 k8))))))
  repeat' (first | refine a_seq fun K hK => ?_ | ((first | refine a_regionS ?_ | refine a_drawS (by decide +kernel) ?_); simp (maxSteps := 2000000) only [Ty.w, simprocAttr, W, nsucc]) | (refine a_skip ?_; try simp only [pst0, simprocAttr]) | (refine a_cond _ (by (try simp (maxSteps := 2000000) only [Ty.w, simprocAttr, W, nsucc]); rfl) (fun hb => ?_) (fun hb => ?_) <;> (try simp only [hb0, decide_eq_true_eq, decide_eq_false_iff_not, simprocAttr] at hb) <;> (try (exfalso; omega))) | (refine hK _ _ ?_; clear hK; try simp only [pst0, simprocAttr]))
  (first | refine a_dcall0 (hc _) (by (try simp only [Ty.w, simprocAttr, W, nsucc]); try rfl) ?_ | refine a_dcallA (hc _) (by (try simp only [Ty.w, simprocAttr, W, nsucc]); try rfl) (by simp only [Ty.w, simprocAttr, W, nsucc]; try trivial) ?_); simp (maxSteps := 2000000) only [Ty.w, simprocAttr, W, Option.getD_some, nsucc]
  repeat' (first | (refine a_ret ?_; simp (maxSteps := 2000000) only [Ty.w, simprocAttr, nsucc, putC]) | (refine hK _ _ ?_; clear hK; try simp only [pst0, simprocAttr]) | (with_reducible refine a_past2 (by simp only [List.forall_mem_cons, Ty.w, simprocAttr, nsucc, putC]; (repeat' apply And.intro) <;> first | trivial | exact .inl (by decide +kernel)) ?_; try simp (maxSteps := 2000000) only [Ty.w, simprocAttr, nsucc, putC]))
  exact ⟨frz_agg (hfz _ _), g1.set (Nat.le_refl _) _⟩
 | false =>
  show PCall _ _ _ _ fun r h' => FrzTo h.next h' (.agg (cmpM opLt b a).cells) r ∧ Grow h h'
  have hc := fun H => less_c (op := opLt) (a := b) (b := a) hb hsb ha hsa H
  have hfz := fun (n : Nat) (H : Heap) => fm_frz n H (cmpM opLt b a)
  obtain ⟨ao, an, av, aa, ak⟩ := a
  obtain ⟨bo, bn, bv, ba, bk⟩ := b
  simp only [cmpM, Fm.cells, Fm.rows, Ex.rows, Ex.cells, sr_nil, pr_nil] at hc hfz ⊢
  refine pcall_body (ow := fun _ => false) (wf := fun _ => false) Ty.mixed Try.func61 rfl Ty.hb_61 (by rw [Try.ntmps61]; simp) ?_
  rw [Try.ntmps61, Try.results61]
  have W := And.intro k1 (And.intro k2 (And.intro k3 (And.intro k4 (And.intro k5 (And.intro k6 (And.intro k7 k8))))))
  repeat' (first | refine a_seq fun K hK => ?_ | ((first | refine a_regionS ?_ | refine a_drawS (by decide +kernel) ?_); simp (maxSteps := 2000000) only [Ty.w, simprocAttr, W, nsucc]) | (refine a_cond _ (by (try simp (maxSteps := 2000000) only [Ty.w, simprocAttr, W, nsucc]); rfl) (fun hb => ?_) (fun hb => ?_) <;> (try simp only [hb0, decide_eq_true_eq, decide_eq_false_iff_not, simprocAttr] at hb) <;> (try (exfalso; omega))) | (refine hK _ _ ?_; clear hK; try simp only [pst0, simprocAttr]))
  (first | refine a_dcall0 (hc _) (by (try simp only [Ty.w, simprocAttr, W, nsucc]); try rfl) ?_ | refine a_dcallA (hc _) (by (try simp only [Ty.w, simprocAttr, W, nsucc]); try rfl) (by simp only [Ty.w, simprocAttr, W, nsucc]; try trivial) ?_); simp (maxSteps := 2000000) only [Ty.w, simprocAttr, W, Option.getD_some, nsucc]
  repeat' (first | (refine a_ret ?_; simp (maxSteps := 2000000) only [Ty.w, simprocAttr, nsucc, putC]) | (refine hK _ _ ?_; clear hK; try simp only [pst0, simprocAttr]) | (with_reducible refine a_past2 (by simp only [List.forall_mem_cons, Ty.w, simprocAttr, nsucc, putC]; (repeat' apply And.intro) <;> first | trivial | exact .inl (by decide +kernel)) ?_; try simp (maxSteps := 2000000) only [Ty.w, simprocAttr, nsucc, putC]))
  exact ⟨frz_agg (hfz _ _), g1.set (Nat.le_refl _) _⟩
theorem norm_eq {a b : Ex} (ha : a.small) (hsa : shapedE a = true) (hb : b.small) (hsb : shapedE b = true) : NormC (cmpM opEq a b) := by
 intro s h
 refine PCall.frz Ty.hb_61 ?_
 have k1 : (opEq.data.toList == (#[110, 111, 116] : Array UInt8).toList) = false := rfl
 have k2 : (opEq.data.toList == (#[105, 109, 112, 108, 121] : Array UInt8).toList) = false := rfl
 have k3 : (opEq.data.toList == (#[97, 110, 100] : Array UInt8).toList) = false := rfl
 have k4 : (opEq.data.toList == (#[111, 114] : Array UInt8).toList) = false := rfl
 have k5 : (opEq.data.toList == (#[102, 111, 114, 97, 108, 108] : Array UInt8).toList) = false := rfl
 have k6 : (opEq.data.toList == (#[101, 120, 105, 115, 116, 115] : Array UInt8).toList) = false := rfl
 have k7 : (opEq.data.toList == (#[60] : Array UInt8).toList) = false := rfl
 have k8 : (opEq.data.toList == (#[60, 61] : Array UInt8).toList) = false := rfl
 have k9 : (opEq.data.toList == (#[61] : Array UInt8).toList) = true := rfl
 have g1 : Grow h (h.new (.arr 6 [[.sc (.string ⟨#[]⟩), .sc (.string ⟨#[]⟩), .sc (.slice none 0 0), .sc (.slice none 0 0), .sc (.slice none 0 0), .sc (.slice none 0 0)]])) := (Grow.refl h).new _
 cases s with
 | true =>
  show PCall _ _ _ _ fun r h' => FrzTo h.next h' (.agg (cmpM opEq a b).cells) r ∧ Grow h h'
  have hc := fun H => less_c (op := opEq) (a := a) (b := b) ha hsa hb hsb H
  have hfz := fun (n : Nat) (H : Heap) => fm_frz n H (cmpM opEq a b)
  obtain ⟨ao, an, av, aa, ak⟩ := a
  obtain ⟨bo, bn, bv, ba, bk⟩ := b
  simp only [cmpM, Fm.cells, Fm.rows, Ex.rows, Ex.cells, sr_nil, pr_nil] at hc hfz ⊢
  refine pcall_body (ow := fun _ => false) (wf := fun _ => false) Ty.mixed Try.func61 rfl Ty.hb_61 (by rw [Try.ntmps61]; simp) ?_
  rw [Try.ntmps61, Try.results61]
  have W := And.intro k1 (And.intro k2 (And.intro k3 (And.intro k4 (And.intro k5 (And.intro k6 (And.intro k7 (And.intro k8 k9)))))))
  repeat' (first | refine a_seq fun K hK => ?_ | ((first | refine a_regionS ?_ | refine a_drawS (by decide +kernel) ?_); simp (maxSteps := 2000000) only [Ty.w, simprocAttr, W, nsucc]) | (refine a_skip ?_; try simp only [pst0, simprocAttr]) | (refine a_cond _ (by (try simp (maxSteps := 2000000) only [Ty.w, simprocAttr, W, nsucc]); rfl) (fun hb => ?_) (fun hb => ?_) <;> (try simp only [hb0, decide_eq_true_eq, decide_eq_false_iff_not, simprocAttr] at hb) <;> (try (exfalso; omega))) | (refine hK _ _ ?_; clear hK; try simp only [pst0, simprocAttr]))
  (first | refine a_dcall0 (hc _) (by (try simp only [Ty.w, simprocAttr, W, nsucc]); try rfl) ?_ | refine a_dcallA (hc _) (by (try simp only [Ty.w, simprocAttr, W, nsucc]); try rfl) (by simp only [Ty.w, simprocAttr, W, nsucc]; try trivial) ?_); simp (maxSteps := 2000000) only [Ty.w, simprocAttr, W, Option.getD_some, nsucc]
  repeat' (first | (refine a_ret ?_; simp (maxSteps := 2000000) only [Ty.w, simprocAttr, nsucc, putC]) | (refine hK _ _ ?_; clear hK; try simp only [pst0, simprocAttr]) | (with_reducible refine a_past2 (by simp only [List.forall_mem_cons, Ty.w, simprocAttr, nsucc, putC]; (repeat' apply And.intro) <;> first | trivial | exact .inl (by decide +kernel)) ?_; try simp (maxSteps := 2000000) only [Ty.w, simprocAttr, nsucc, putC]))
  exact ⟨frz_agg (hfz _ _), g1.set (Nat.le_refl _) _⟩
 | false =>
  show PCall _ _ _ _ fun r h' => FrzTo h.next h' (.agg (Fm.mk opOr ⟨#[]⟩ [] [] [] [cmpM opLt a b, cmpM opLt b a]).cells) r ∧ Grow h h'
  have hc := fun H => less_c (op := opLt) (a := a) (b := b) ha hsa hb hsb H
  have hd := fun H => less_c (op := opLt) (a := b) (b := a) hb hsb ha hsa H
  have hfz := fun (n : Nat) => fms_in n [cmpM opLt a b, cmpM opLt b a]
  obtain ⟨ao, an, av, aa, ak⟩ := a
  obtain ⟨bo, bn, bv, ba, bk⟩ := b
  simp only [cmpM, Fm.cells, Fm.rows, Ex.rows, Ex.cells, sr_nil, pr_nil] at hc hd hfz ⊢
  refine pcall_body (ow := fun _ => false) (wf := fun _ => false) Ty.mixed Try.func61 rfl Ty.hb_61 (by rw [Try.ntmps61]; simp) ?_
  rw [Try.ntmps61, Try.results61]
  have W := And.intro k1 (And.intro k2 (And.intro k3 (And.intro k4 (And.intro k5 (And.intro k6 (And.intro k7 (And.intro k8 k9)))))))
  repeat' (first | refine a_seq fun K hK => ?_ | ((first | refine a_regionS ?_ | refine a_drawS (by decide +kernel) ?_); simp (maxSteps := 2000000) only [Ty.w, simprocAttr, W, nsucc]) | (refine a_cond _ (by (try simp (maxSteps := 2000000) only [Ty.w, simprocAttr, W, nsucc]); rfl) (fun hb => ?_) (fun hb => ?_) <;> (try simp only [hb0, decide_eq_true_eq, decide_eq_false_iff_not, simprocAttr] at hb) <;> (try (exfalso; omega))) | (refine hK _ _ ?_; clear hK; try simp only [pst0, simprocAttr]))
  (first | refine a_dcall0 (hc _) (by (try simp only [Ty.w, simprocAttr, W, nsucc]); try rfl) ?_ | refine a_dcallA (hc _) (by (try simp only [Ty.w, simprocAttr, W, nsucc]); try rfl) (by simp only [Ty.w, simprocAttr, W, nsucc]; try trivial) ?_); simp (maxSteps := 2000000) only [Ty.w, simprocAttr, W, Option.getD_some, nsucc]
  skip
  (first | refine a_dcall0 (hd _) (by (try simp only [Ty.w, simprocAttr, nsucc]); try rfl) ?_ | refine a_dcallA (hd _) (by (try simp only [Ty.w, simprocAttr, nsucc]); try rfl) (by simp only [Ty.w, simprocAttr, nsucc]; try trivial) ?_); simp (maxSteps := 2000000) only [Ty.w, simprocAttr, Option.getD_some, nsucc]
  repeat' (first | (refine a_ret ?_; simp (maxSteps := 2000000) only [Ty.w, simprocAttr, nsucc, putC]) | (refine hK _ _ ?_; clear hK; try simp only [pst0, simprocAttr]) | (with_reducible refine a_past2 (by simp only [List.forall_mem_cons, Ty.w, simprocAttr, nsucc, putC]; (repeat' apply And.intro) <;> first | trivial | exact .inl (by decide +kernel)) ?_; try simp (maxSteps := 2000000) only [Ty.w, simprocAttr, nsucc, putC]))
  exact ⟨frz_fm frz_nilslice frz_nilslice (frz_imm (hfz _)), g1.set (Nat.le_refl _) _⟩
theorem norm_all {params : List Pm} {k : Fm} (hpl : params.length ≤ 1048576) (ih : NormC k) : NormC (.mk opAll ⟨#[]⟩ [] params [] [k]) := by
 intro s h
 show PCall _ _ _ _ fun r h' => r = .agg (Fm.mk (dualM opAll opSome s) ⟨#[]⟩ [] params [] [normalM k s]).cells ∧ h' = h
 refine PCall.frz Ty.hb_61 ?_
 have k1 : (opAll.data.toList == (#[110, 111, 116] : Array UInt8).toList) = false := rfl
 have k2 : (opAll.data.toList == (#[105, 109, 112, 108, 121] : Array UInt8).toList) = false := rfl
 have k3 : (opAll.data.toList == (#[97, 110, 100] : Array UInt8).toList) = false := rfl
 have k4 : (opAll.data.toList == (#[111, 114] : Array UInt8).toList) = false := rfl
 have k5 : (opAll.data.toList == (#[102, 111, 114, 97, 108, 108] : Array UInt8).toList) = true := rfl
 have e5 : (opAll.data.toList == (#[102, 111, 114, 97, 108, 108] : Array UInt8).toList) = true := rfl
 have g1 : Grow h (h.new (.arr 6 [[.sc (.string ⟨#[]⟩), .sc (.string ⟨#[]⟩), .sc (.slice none 0 0), .sc (.slice none 0 0), .sc (.slice none 0 0), .sc (.slice none 0 0)]])) := (Grow.refl h).new _
 have d1 : ∀ H : Heap, PCall Try.prog 99 [sPV opSome, sPV opAll, .sc (.bool true)] H fun r h' => r = sPV opSome ∧ h' = H := fun H => dual_c _ _ true H
 have d2 := fun H => dual_c opAll opSome s H
 have hP := fun H => cloneP_q (l := params) (by omega) H
 have hc := ih s
 have hfk := fun (n : Nat) => fms_in n [normalM k s]
 have hfp := fun (n : Nat) => pms_in n params
 generalize dualM opAll opSome s = o at d2 ⊢
 generalize normalM k s = y at hc hfk ⊢
 obtain ⟨yo, yn, ya, yp, ye, yk⟩ := y
 obtain ⟨ko, kn, ka, kp, ke, kk⟩ := k
 simp only [Fm.cells, Fm.rows, Ex.rows, sr_nil, pr_nil] at hc hfk ⊢
 refine pcall_body (ow := fun _ => false) (wf := fun _ => false) Ty.mixed Try.func61 rfl Ty.hb_61 (by rw [Try.ntmps61]; simp) ?_
 rw [Try.ntmps61, Try.results61]
 repeat' (first | refine a_seq fun K hK => ?_ | ((first | refine a_regionS ?_ | refine a_drawS (by decide +kernel) ?_); simp (maxSteps := 2000000) only [Ty.w, simprocAttr, k1, k2, k3, k4, k5, e5, nsucc]) | (refine a_skip ?_; try simp only [pst0, simprocAttr]) | (refine a_cond _ (by (try simp (maxSteps := 2000000) only [Ty.w, simprocAttr, k1, k2, k3, k4, k5, e5, nsucc]); rfl) (fun hb => ?_) (fun hb => ?_) <;> (try simp only [hb0, decide_eq_true_eq, decide_eq_false_iff_not, simprocAttr] at hb) <;> (try (exfalso; omega))) | (refine hK _ _ ?_; clear hK; try simp only [pst0, simprocAttr]))
 (first | refine a_dcall0 (d1 _) (by (try simp only [Ty.w, simprocAttr, k1, k2, k3, k4, k5, e5, nsucc]); try rfl) ?_ | refine a_dcallA (d1 _) (by (try simp only [Ty.w, simprocAttr, k1, k2, k3, k4, k5, e5, nsucc]); try rfl) (by simp only [Ty.w, simprocAttr, k1, k2, k3, k4, k5, e5, nsucc]; try trivial) ?_); simp (maxSteps := 2000000) only [Ty.w, simprocAttr, Option.getD_some, k1, k2, k3, k4, k5, e5, nsucc]
 skip
 (first | refine a_dcall0 (d2 _) (by (try simp only [Ty.w, simprocAttr, nsucc]); try rfl) ?_ | refine a_dcallA (d2 _) (by (try simp only [Ty.w, simprocAttr, nsucc]); try rfl) (by simp only [Ty.w, simprocAttr, nsucc]; try trivial) ?_); simp (maxSteps := 2000000) only [Ty.w, simprocAttr, Option.getD_some, nsucc]
 repeat' (first | refine a_seq fun K hK => ?_ | (refine a_drawS (by decide +kernel) ?_; simp (maxSteps := 2000000) only [Ty.w, simprocAttr, nsucc]) | (refine hK _ _ ?_; clear hK; try simp only [pst0, simprocAttr]))
 (first | refine a_dcall0 (hP _) (by (try simp only [Ty.w, simprocAttr, nsucc]); try rfl) ?_ | refine a_dcallA (hP _) (by (try simp only [Ty.w, simprocAttr, nsucc]); try rfl) (by simp only [Ty.w, simprocAttr, nsucc]; try trivial) ?_); simp (maxSteps := 2000000) only [Ty.w, simprocAttr, Option.getD_some, nsucc]
 skip
 (first | refine a_dcall0 (hc _) (by (try simp only [Ty.w, simprocAttr, nsucc]); try rfl) ?_ | refine a_dcallA (hc _) (by (try simp only [Ty.w, simprocAttr, nsucc]); try rfl) (by simp only [Ty.w, simprocAttr, nsucc]; try trivial) ?_); simp (maxSteps := 2000000) only [Ty.w, simprocAttr, Option.getD_some, nsucc]
 repeat' (first | (refine a_ret ?_; simp (maxSteps := 2000000) only [Ty.w, simprocAttr, nsucc, putC]) | (refine hK _ _ ?_; clear hK; try simp only [pst0, simprocAttr]) | (with_reducible refine a_past2 (by simp only [List.forall_mem_cons, Ty.w, simprocAttr, nsucc, putC]; (repeat' apply And.intro) <;> first | trivial | exact .inl (by decide +kernel)) ?_; try simp (maxSteps := 2000000) only [Ty.w, simprocAttr, nsucc, putC]))
 exact ⟨frz_fm (frz_imm (hfp _)) frz_nilslice (frz_imm (hfk _)), g1.set (Nat.le_refl _) _⟩
theorem norm_some {params : List Pm} {k : Fm} (hpl : params.length ≤ 1048576) (ih : NormC k) : NormC (.mk opSome ⟨#[]⟩ [] params [] [k]) := by
 intro s h
 show PCall _ _ _ _ fun r h' => r = .agg (Fm.mk (dualM opSome opAll s) ⟨#[]⟩ [] params [] [normalM k s]).cells ∧ h' = h
 refine PCall.frz Ty.hb_61 ?_
 have k1 : (opSome.data.toList == (#[110, 111, 116] : Array UInt8).toList) = false := rfl
 have k2 : (opSome.data.toList == (#[105, 109, 112, 108, 121] : Array UInt8).toList) = false := rfl
 have k3 : (opSome.data.toList == (#[97, 110, 100] : Array UInt8).toList) = false := rfl
 have k4 : (opSome.data.toList == (#[111, 114] : Array UInt8).toList) = false := rfl
 have k5 : (opSome.data.toList == (#[102, 111, 114, 97, 108, 108] : Array UInt8).toList) = false := rfl
 have k6 : (opSome.data.toList == (#[101, 120, 105, 115, 116, 115] : Array UInt8).toList) = true := rfl
 have e5 : (opSome.data.toList == (#[102, 111, 114, 97, 108, 108] : Array UInt8).toList) = false := rfl
 have g1 : Grow h (h.new (.arr 6 [[.sc (.string ⟨#[]⟩), .sc (.string ⟨#[]⟩), .sc (.slice none 0 0), .sc (.slice none 0 0), .sc (.slice none 0 0), .sc (.slice none 0 0)]])) := (Grow.refl h).new _
 have d1 : ∀ H : Heap, PCall Try.prog 99 [sPV opSome, sPV opAll, .sc (.bool false)] H fun r h' => r = sPV opAll ∧ h' = H := fun H => dual_c _ _ false H
 have d2 := fun H => dual_c opSome opAll s H
 have hP := fun H => cloneP_q (l := params) (by omega) H
 have hc := ih s
 have hfk := fun (n : Nat) => fms_in n [normalM k s]
 have hfp := fun (n : Nat) => pms_in n params
 generalize dualM opSome opAll s = o at d2 ⊢
 generalize normalM k s = y at hc hfk ⊢
 obtain ⟨yo, yn, ya, yp, ye, yk⟩ := y
 obtain ⟨ko, kn, ka, kp, ke, kk⟩ := k
 simp only [Fm.cells, Fm.rows, Ex.rows, sr_nil, pr_nil] at hc hfk ⊢
 refine pcall_body (ow := fun _ => false) (wf := fun _ => false) Ty.mixed Try.func61 rfl Ty.hb_61 (by rw [Try.ntmps61]; simp) ?_
 rw [Try.ntmps61, Try.results61]
 repeat' (first | refine a_seq fun K hK => ?_ | ((first | refine a_regionS ?_ | refine a_drawS (by decide +kernel) ?_); simp (maxSteps := 2000000) only [Ty.w, simprocAttr, k1, k2, k3, k4, k5, k6, e5, nsucc]) | (refine a_cond _ (by (try simp (maxSteps := 2000000) only [Ty.w, simprocAttr, k1, k2, k3, k4, k5, k6, e5, nsucc]); rfl) (fun hb => ?_) (fun hb => ?_) <;> (try simp only [hb0, decide_eq_true_eq, decide_eq_false_iff_not, simprocAttr] at hb) <;> (try (exfalso; omega))) | (refine hK _ _ ?_; clear hK; try simp only [pst0, simprocAttr]))
 (first | refine a_dcall0 (d1 _) (by (try simp only [Ty.w, simprocAttr, k1, k2, k3, k4, k5, k6, e5, nsucc]); try rfl) ?_ | refine a_dcallA (d1 _) (by (try simp only [Ty.w, simprocAttr, k1, k2, k3, k4, k5, k6, e5, nsucc]); try rfl) (by simp only [Ty.w, simprocAttr, k1, k2, k3, k4, k5, k6, e5, nsucc]; try trivial) ?_); simp (maxSteps := 2000000) only [Ty.w, simprocAttr, Option.getD_some, k1, k2, k3, k4, k5, k6, e5, nsucc]
 skip
 (first | refine a_dcall0 (d2 _) (by (try simp only [Ty.w, simprocAttr, nsucc]); try rfl) ?_ | refine a_dcallA (d2 _) (by (try simp only [Ty.w, simprocAttr, nsucc]); try rfl) (by simp only [Ty.w, simprocAttr, nsucc]; try trivial) ?_); simp (maxSteps := 2000000) only [Ty.w, simprocAttr, Option.getD_some, nsucc]
 repeat' (first | refine a_seq fun K hK => ?_ | (refine a_drawS (by decide +kernel) ?_; simp (maxSteps := 2000000) only [Ty.w, simprocAttr, nsucc]) | (refine hK _ _ ?_; clear hK; try simp only [pst0, simprocAttr]))
 (first | refine a_dcall0 (hP _) (by (try simp only [Ty.w, simprocAttr, nsucc]); try rfl) ?_ | refine a_dcallA (hP _) (by (try simp only [Ty.w, simprocAttr, nsucc]); try rfl) (by simp only [Ty.w, simprocAttr, nsucc]; try trivial) ?_); simp (maxSteps := 2000000) only [Ty.w, simprocAttr, Option.getD_some, nsucc]
 skip
 (first | refine a_dcall0 (hc _) (by (try simp only [Ty.w, simprocAttr, nsucc]); try rfl) ?_ | refine a_dcallA (hc _) (by (try simp only [Ty.w, simprocAttr, nsucc]); try rfl) (by simp only [Ty.w, simprocAttr, nsucc]; try trivial) ?_); simp (maxSteps := 2000000) only [Ty.w, simprocAttr, Option.getD_some, nsucc]
 repeat' (first | (refine a_ret ?_; simp (maxSteps := 2000000) only [Ty.w, simprocAttr, nsucc, putC]) | (refine hK _ _ ?_; clear hK; try simp only [pst0, simprocAttr]) | (with_reducible refine a_past2 (by simp only [List.forall_mem_cons, Ty.w, simprocAttr, nsucc, putC]; (repeat' apply And.intro) <;> first | trivial | exact .inl (by decide +kernel)) ?_; try simp (maxSteps := 2000000) only [Ty.w, simprocAttr, nsucc, putC]))
 exact ⟨frz_fm (frz_imm (hfp _)) frz_nilslice (frz_imm (hfk _)), g1.set (Nat.le_refl _) _⟩
end Go.Proofs.Ytjlkapgpjamnkaa
namespace Go.Proofs.Ytjlkapgpjamnkaa
open Go.AM
set_option maxHeartbeats 4000000
set_option maxRecDepth 20000
theorem a_hold1 {P : Program} {ow : Nat → Bool} {wf : FuncId → Bool} {n : Nat} {Q : Post} {s : Slots} {h : Heap} (id : Nat) {ops : Array Oper} {d : Bool} {y : Code} (hh : Hold (awp P ow wf n (.seq (.region id ops d) y) Q s h)) : awp P ow wf n (.seq (.region id ops d) y) Q s h := hh.out
theorem flatM_take {o : ByteArray} {N : List Fm} {k : Nat} {n : Fm} (h : N[k]? = some n) : flatM o (N.take (k + 1)) = flatM o (N.take k) ++ (if bEq (opOf n) o = true then fkids n else [n]) := by
 rw [List.take_add_one, h]; simp [flatM]
theorem flatM_le (o : ByteArray) (N : List Fm) (k : Nat) : (flatM o (N.take k)).length ≤ (flatM o N).length := by
 have h : flatM o N = flatM o (N.take k) ++ flatM o (N.drop k) := by
  conv => lhs; rw [← List.take_append_drop k N]
  simp only [flatM, List.flatMap_append]
 rw [h, List.length_append]; omega
structure NrI (h : Heap) (o : ByteArray) (L : List Fm) (p : PV) (h' : Heap) : Prop where
 grow : Grow h h'
 lt : h.next + 1 < h'.next
 o1 : h'.obj h.next = some (.arr 6 [[.sc (.string ⟨#[]⟩), .sc (.string ⟨#[]⟩), .sc (.slice none 0 0), .sc (.slice none 0 0), .sc (.slice none 0 0), .sc (.slice none 0 0)]])
 o2 : h'.obj (h.next + 1) = some (.arr 6 [[sPV o, .sc (.string ⟨#[]⟩), .sc (.slice none 0 0), .sc (.slice none 0 0), .sc (.slice none 0 0), p]])
 tl : Tl h' (h.next + 2) 6 p (Fm.rows L)
theorem NrI.up {h h' H : Heap} {o : ByteArray} {L : List Fm} {p : PV} (i : NrI h o L p h') (hn : h'.next ≤ H.next) (ho : ∀ j, j < h'.next → H.obj j = h'.obj j) : NrI h o L p H :=
 ⟨i.grow.trans ⟨hn, ho⟩, Nat.lt_of_lt_of_le i.lt hn, (ho _ (by have := i.lt; omega)).trans i.o1, (ho _ i.lt).trans i.o2, i.tl.up hn fun j _ hj => ho j hj⟩
theorem NrI.pc {h h' : Heap} {o : ByteArray} {L : List Fm} {p : PV} (i : NrI h o L p h') : p.cells = [p] ∧ oneC p = true := by
 rcases i.tl with ⟨_, rfl | rfl⟩ | ⟨_, _, _, rfl, _⟩ <;> exact ⟨rfl, rfl⟩
theorem NrI.push {h h' HT : Heap} {o : ByteArray} {L M : List Fm} {p : PV} {m : Nat} {R : List (List PV)} (i : NrI h o L p h') (t3 : HT.next = h'.next) (t4 : ∀ j, j < h.next + 2 → HT.obj j = h'.obj j) (hk : Keep h HT) (hR : R = Fm.rows (L ++ M)) (hm : m = (L ++ M).length) :
  NrI h o (L ++ M) (.own HT.next 0 m) ((HT.new (.arr 6 R)).set (h.next + 1) (.arr 6 [[sPV o, .sc (.string ⟨#[]⟩), .sc (.slice none 0 0), .sc (.slice none 0 0), .sc (.slice none 0 0), .own HT.next 0 m]])) := by
 have hl := i.lt
 subst hR
 refine ⟨((show Grow h HT from ⟨hk.1, hk.2⟩).new _).set (Nat.le_succ _) _, by simp only [Heap.set, Heap.new]; omega, ?_, by simp only [Heap.set, if_true], ?_⟩
 ·have n1 : ¬ h.next = h.next + 1 := by omega
  have n2 : ¬ h.next = HT.next := by omega
  simp only [Heap.set, Heap.new, n1, n2, if_false]
  rw [t4 _ (by omega)]; exact i.o1
 ·have : Tl (HT.new (.arr 6 (Fm.rows (L ++ M)))) (h.next + 2) 6 (.own HT.next 0 m) (Fm.rows (L ++ M)) := Tl.grow (by omega) (by rw [hm, Fm.rows_len])
  exact this.up (Nat.le_refl _) (fun j hj _ => by simp only [Heap.set]; rw [if_neg (by omega)])
theorem norm_and {kids : List Fm} (hkl : kids.length ≤ 1048576) (hB : ∀ o s, (flatM o (normalMs kids s)).length ≤ 1073741824) (ih : ∀ k ∈ kids, NormC k) : NormC (.mk opAnd ⟨#[]⟩ [] [] [] kids) := by
 intro s h
 show PCall _ _ _ _ fun r h' => r = .agg (combM (dualM opAnd opOr s) (normalMs kids s)).cells ∧ h' = h
 refine PCall.frz Ty.hb_61 ?_
 have hD := fun H => dual_c opAnd opOr s H
 have hB := hB (dualM opAnd opOr s) s
 generalize dualM opAnd opOr s = o at hD hB ⊢
 have hcs : ∀ k ∈ kids, ∀ h : Heap, PCall Try.prog 61 [.agg k.cells, .sc (.bool s)] h fun r h' => r = .agg (normalM k s).cells ∧ h' = h := fun k hk => ih k hk s
 clear ih
 rw [normalMs_map] at hB ⊢
 have hlK := Fm.rows_len kids
 simp only [combM, Fm.cells, Ex.rows, sr_nil, pr_nil]
 have k1 : (opAnd.data.toList == (#[110, 111, 116] : Array UInt8).toList) = false := rfl
 have k2 : (opAnd.data.toList == (#[105, 109, 112, 108, 121] : Array UInt8).toList) = false := rfl
 have k3 : (opAnd.data.toList == (#[97, 110, 100] : Array UInt8).toList) = true := rfl
 refine pcall_body (ow := fun _ => false) (wf := fun _ => false) Ty.mixed Try.func61 rfl Ty.hb_61 (by rw [Try.ntmps61]; simp) ?_
 rw [Try.ntmps61, Try.results61]
 repeat' (first | refine a_seq fun K hK => ?_ | (refine a_block ?_) | ((first | refine a_regionS ?_ | refine a_region (fun K hK => ?_)); simp (maxSteps := 2000000) only [Ty.w, simprocAttr, k1, k2, k3, nsucc]) | (refine hK _ _ ?_; clear hK; try simp only [pst0, simprocAttr]))
 refine owp_useQ (hD _) (by (try simp only [Ty.w, simprocAttr, k1, k2, k3, nsucc]); try rfl) ?_; simp (maxSteps := 2000000) only [Ty.w, simprocAttr, k1, k2, k3, nsucc]
 repeat' (first | refine a_seq fun K hK => ?_ | (refine a_block ?_) | (refine a_regionS ?_; simp (maxSteps := 2000000) only [Ty.w, simprocAttr, nsucc, hlK]) | (refine hK _ _ ?_; clear hK; try simp only [pst0, simprocAttr]))
 clear hD
 refine a_loop (fun m S h' => S 1 = .sc (.bool s) ∧ S 4 = .ptr h.next 0 0 ∧ S 5 = sPV o ∧ S 7 = .ptr (h.next + 1) 0 0 ∧ S 154 = .imm 6 (Fm.rows kids) ∧ S 155 = .sc (.int .i64 kids.length) ∧ ∃ (k : Nat) (p : PV), S 156 = .sc (.int .i64 k) ∧ k ≤ kids.length ∧ m = kids.length - k ∧ NrI h o (flatM o ((kids.take k).map (normalM · s))) p h') kids.length ?_ ?_
 ·simp only [Ty.w, simprocAttr]
  refine ⟨0, _, rfl, by omega, rfl, (((Grow.refl h).new _).new _).set (Nat.le_succ _) _, ?_, ?_, ?_, Tl.nil⟩
  ·simp only [Heap.set, Heap.new]; omega
  ·simp [Heap.set, Heap.new]
  ·simp [Heap.set, Heap.new]
 ·clear k1 k2 k3
  rintro m S h' ⟨g1, g4, g5, g7, g154, g155, k, p, g156, hk, rfl, hI⟩
  by_cases hlt : k < kids.length
  ·have hd : decide ((k : Int) < (kids.length : Int)) = true := by simp; omega
   have w7 : IntKind.i64.wrap ((k : Int) + 1) = k + 1 := by rw [wrap64 (by omega) (by omega)]
   obtain ⟨x, hx⟩ : ∃ x, kids[k]? = some x := ⟨_, List.getElem?_eq_getElem hlt⟩
   have hr := Fm.rows_get hx
   have hc := hcs x (List.mem_of_getElem? hx)
   have hF := flatM_take (o := o) (N := kids.map (normalM · s)) (k := k) (n := normalM x s) (by simp [hx])
   have hl1 := Nat.le_trans (flatM_le o (kids.map (normalM · s)) (k + 1)) hB
   rw [← List.map_take, ← List.map_take] at hF
   rw [← List.map_take, hF, List.length_append] at hl1
   generalize flatM o ((kids.take k).map (normalM · s)) = L at hI hF hl1
   generalize normalM x s = y at hc hF hl1
   obtain ⟨yo, yn, ya, yp, ye, yk⟩ := y
   obtain ⟨xo, xn, xa, xp, xe, xk⟩ := x
   simp only [Fm.cells, opOf, fkids] at hr hc hF hl1
   clear hcs
   repeat' (first | refine a_seq fun K hK => ?_ | (refine a_regionS ?_; simp (maxSteps := 2000000) only [Ty.w, simprocAttr, g1, g4, g5, g7, g154, g155, g156, hd, hr, nsucc]) | (refine a_skip ?_; try simp only [pst0, simprocAttr]) | (refine a_cond _ (by (try simp (maxSteps := 2000000) only [Ty.w, simprocAttr, g1, g4, g5, g7, g154, g155, g156, hd, hr, nsucc]); rfl) (fun hb => ?_) (fun hb => ?_) <;> (try simp only [hb0, decide_eq_true_eq, decide_eq_false_iff_not, simprocAttr] at hb) <;> (try (exfalso; omega))) | (refine hK _ _ ?_; clear hK; try simp only [pst0, simprocAttr]))
   refine owp_useQ (hc _) (by (try simp only [Ty.w, simprocAttr, g1, g4, g5, g7, g154, g155, g156, nsucc]); try rfl) ?_; simp (maxSteps := 2000000) only [Ty.w, simprocAttr, g1, g4, g5, g7, g154, g155, g156, nsucc]
   repeat' (first | (with_reducible refine a_hold1 36 ?_) | (first | (refine hK _ _ ?_; clear hK; try simp only [pst0, simprocAttr])))
   refine ⟨?_⟩
   refine a_gen (fun S H => S 1 = .sc (.bool s) ∧ S 4 = .ptr h.next 0 0 ∧ S 5 = sPV o ∧ S 7 = .ptr (h.next + 1) 0 0 ∧ S 10 = .ptr (h'.next + 1) 0 0 ∧ S 154 = .imm 6 (Fm.rows kids) ∧ S 155 = .sc (.int .i64 kids.length) ∧ S 156 = .sc (.int .i64 k) ∧ H.obj (h'.next + 1) = some (.arr 6 [[sPV yo, sPV yn, .imm 1 (strRows ya), .imm 2 (pmRows yp), .imm 5 (Ex.rows ye), .imm 6 (Fm.rows yk)]]) ∧ H.next = h'.next + 2 ∧ ∀ j, j < h'.next → H.obj j = h'.obj j) ?_ ?_
   ·simp only [Ty.w, simprocAttr, g1, g4, g5, g7, g154, g155, g156]
    intro j hj
    have a1 : ¬ j = h'.next := by omega
    have a2 : ¬ j = h'.next + 1 := by omega
    simp only [a1, a2, if_false]
   clear g1 g4 g5 g7 g154 g155 g156 hr hd
   rintro S H ⟨g1, g4, g5, g7, g10, g154, g155, g156, hob, hnn, hold⟩
   have hI := hI.up (by omega) hold
   obtain ⟨hp1, hp2⟩ := hI.pc
   obtain ⟨HT, t1, t2, t3, t4, t5⟩ := hI.tl.tail
   have hkp := t5 h ⟨hI.grow.le, hI.grow.old⟩ (Nat.le_add_right _ _)
   have o2 := hI.o2
   have o2T := (t4 _ (by omega)).trans o2
   have hlt2 := hI.lt
   have n2 : (h.next + 1 = HT.next) = False := by simp; omega
   have hpr := Fm.rows_len L
   have hyr := Fm.rows_len yk
   cases q : (yo.data.toList == o.data.toList) with
   | true =>
    have qe : bEq yo o = true := q
    simp only [qe, if_true] at hF hl1
    have hb : (L.length + yk.length) * 128 ≤ 140737488355328 := by omega
    have hpush := hI.push (M := yk) (m := L.length + yk.length) (R := Fm.rows L ++ Fm.rows yk) t3 t4 hkp (by simp only [Fm.rows_map, List.map_append]) (by simp)
    rw [← hF, t3] at hpush
    repeat' (first | refine a_seq fun K hK => ?_ | (refine a_block ?_) | ((first | refine a_regionS ?_ | refine a_region (fun K hK => ?_)); simp (maxSteps := 2000000) only [Ty.w, simprocAttr, g1, g4, g5, g7, g10, g154, g155, g156, hob, q, o2, o2T, n2, t1, t2, hpr, hyr, hp1, hp2, hb, w7, putC]) | (refine hK _ _ ?_; clear hK; try simp only [pst0, simprocAttr]))
    exact ⟨kids.length - (k + 1), by omega, k + 1, _, by simp, by omega, rfl, hpush⟩
   | false =>
    have qe : bEq yo o = false := q
    simp only [qe, Bool.false_eq_true, if_false, List.length_cons, List.length_nil] at hF hl1
    have hb : (L.length + 1) * 128 ≤ 140737488355328 := by omega
    have hpush := hI.push (M := [.mk yo yn ya yp ye yk]) (m := L.length + 1) (R := Fm.rows L ++ Fm.rows [.mk yo yn ya yp ye yk]) t3 t4 hkp (by simp only [Fm.rows_map, List.map_append]) (by simp)
    rw [← hF, t3] at hpush
    simp only [Fm.rows, Fm.cells] at hpush
    repeat' (first | refine a_seq fun K hK => ?_ | (refine a_block ?_) | ((first | refine a_regionS ?_ | refine a_region (fun K hK => ?_)); simp (maxSteps := 2000000) only [Ty.w, simprocAttr, g1, g4, g5, g7, g10, g154, g155, g156, hob, q, o2, o2T, n2, t1, t2, hpr, hp1, hp2, hb, w7, putC]) | (refine hK _ _ ?_; clear hK; try simp only [pst0, simprocAttr]))
    exact ⟨kids.length - (k + 1), by omega, k + 1, _, by simp, by omega, rfl, hpush⟩
  ·have hd : decide ((k : Int) < (kids.length : Int)) = false := by simp; omega
   have hke : k = kids.length := by omega
   subst hke
   rw [List.take_length] at hI
   have o1 := hI.o1
   have o2 := hI.o2
   obtain ⟨hp1, hp2⟩ := hI.pc
   repeat' (first | refine a_seq fun K hK => ?_ | ((first | refine a_regionS ?_ | refine a_ret ?_); simp (maxSteps := 2000000) only [Ty.w, simprocAttr, g1, g4, g5, g7, g154, g155, g156, hd, o1, o2, hp1, hp2, putC]) | (refine a_exit ?_; try simp only [pst0, simprocAttr]) | (refine a_cond _ (by (try simp (maxSteps := 2000000) only [Ty.w, simprocAttr, g1, g4, g5, g7, g154, g155, g156, hd, o1, o2, hp1, hp2, putC]); rfl) (fun hb => ?_) (fun hb => ?_) <;> (try simp only [hb0, decide_eq_true_eq, decide_eq_false_iff_not, simprocAttr] at hb) <;> (try (exfalso; omega))) | ((first | refine hK _ _ ?_ | (clear hK; refine hK _ _ ?_)); clear hK; try simp only [pst0, simprocAttr]))
   refine ⟨frz_fm frz_nilslice frz_nilslice ?_, hI.grow.set (Nat.le_refl _) _⟩
   exact tl_frzF (by omega) (hI.tl.up (Nat.le_refl _) fun j hj _ => by simp only [Heap.set]; rw [if_neg (by omega)])
theorem norm_or {kids : List Fm} (hkl : kids.length ≤ 1048576) (hB : ∀ o s, (flatM o (normalMs kids s)).length ≤ 1073741824) (ih : ∀ k ∈ kids, NormC k) : NormC (.mk opOr ⟨#[]⟩ [] [] [] kids) := by
 intro s h
 show PCall _ _ _ _ fun r h' => r = .agg (combM (dualM opOr opAnd s) (normalMs kids s)).cells ∧ h' = h
 refine PCall.frz Ty.hb_61 ?_
 have hD := fun H => dual_c opOr opAnd s H
 have hB := hB (dualM opOr opAnd s) s
 generalize dualM opOr opAnd s = o at hD hB ⊢
 have hcs : ∀ k ∈ kids, ∀ h : Heap, PCall Try.prog 61 [.agg k.cells, .sc (.bool s)] h fun r h' => r = .agg (normalM k s).cells ∧ h' = h := fun k hk => ih k hk s
 clear ih
 rw [normalMs_map] at hB ⊢
 have hlK := Fm.rows_len kids
 simp only [combM, Fm.cells, Ex.rows, sr_nil, pr_nil]
 have k1 : (opOr.data.toList == (#[110, 111, 116] : Array UInt8).toList) = false := rfl
 have k2 : (opOr.data.toList == (#[105, 109, 112, 108, 121] : Array UInt8).toList) = false := rfl
 have k3 : (opOr.data.toList == (#[97, 110, 100] : Array UInt8).toList) = false := rfl
 have k4 : (opOr.data.toList == (#[111, 114] : Array UInt8).toList) = true := rfl
 refine pcall_body (ow := fun _ => false) (wf := fun _ => false) Ty.mixed Try.func61 rfl Ty.hb_61 (by rw [Try.ntmps61]; simp) ?_
 rw [Try.ntmps61, Try.results61]
 repeat' (first | refine a_seq fun K hK => ?_ | (refine a_block ?_) | ((first | refine a_regionS ?_ | refine a_region (fun K hK => ?_)); simp (maxSteps := 2000000) only [Ty.w, simprocAttr, k1, k2, k3, k4, nsucc]) | (refine hK _ _ ?_; clear hK; try simp only [pst0, simprocAttr]))
 refine owp_useQ (hD _) (by (try simp only [Ty.w, simprocAttr, k1, k2, k3, k4, nsucc]); try rfl) ?_; simp (maxSteps := 2000000) only [Ty.w, simprocAttr, k1, k2, k3, k4, nsucc]
 repeat' (first | refine a_seq fun K hK => ?_ | (refine a_block ?_) | (refine a_regionS ?_; simp (maxSteps := 2000000) only [Ty.w, simprocAttr, nsucc, hlK]) | (refine hK _ _ ?_; clear hK; try simp only [pst0, simprocAttr]))
 clear hD
 refine a_loop (fun m S h' => S 1 = .sc (.bool s) ∧ S 4 = .ptr h.next 0 0 ∧ S 5 = sPV o ∧ S 7 = .ptr (h.next + 1) 0 0 ∧ S 154 = .imm 6 (Fm.rows kids) ∧ S 155 = .sc (.int .i64 kids.length) ∧ ∃ (k : Nat) (p : PV), S 156 = .sc (.int .i64 k) ∧ k ≤ kids.length ∧ m = kids.length - k ∧ NrI h o (flatM o ((kids.take k).map (normalM · s))) p h') kids.length ?_ ?_
 ·simp only [Ty.w, simprocAttr]
  refine ⟨0, _, rfl, by omega, rfl, (((Grow.refl h).new _).new _).set (Nat.le_succ _) _, ?_, ?_, ?_, Tl.nil⟩
  ·simp only [Heap.set, Heap.new]; omega
  ·simp [Heap.set, Heap.new]
  ·simp [Heap.set, Heap.new]
 ·clear k1 k2 k3 k4
  rintro m S h' ⟨g1, g4, g5, g7, g154, g155, k, p, g156, hk, rfl, hI⟩
  by_cases hlt : k < kids.length
  ·have hd : decide ((k : Int) < (kids.length : Int)) = true := by simp; omega
   have w7 : IntKind.i64.wrap ((k : Int) + 1) = k + 1 := by rw [wrap64 (by omega) (by omega)]
   obtain ⟨x, hx⟩ : ∃ x, kids[k]? = some x := ⟨_, List.getElem?_eq_getElem hlt⟩
   have hr := Fm.rows_get hx
   have hc := hcs x (List.mem_of_getElem? hx)
   have hF := flatM_take (o := o) (N := kids.map (normalM · s)) (k := k) (n := normalM x s) (by simp [hx])
   have hl1 := Nat.le_trans (flatM_le o (kids.map (normalM · s)) (k + 1)) hB
   rw [← List.map_take, ← List.map_take] at hF
   rw [← List.map_take, hF, List.length_append] at hl1
   generalize flatM o ((kids.take k).map (normalM · s)) = L at hI hF hl1
   generalize normalM x s = y at hc hF hl1
   obtain ⟨yo, yn, ya, yp, ye, yk⟩ := y
   obtain ⟨xo, xn, xa, xp, xe, xk⟩ := x
   simp only [Fm.cells, opOf, fkids] at hr hc hF hl1
   clear hcs
   repeat' (first | refine a_seq fun K hK => ?_ | (refine a_regionS ?_; simp (maxSteps := 2000000) only [Ty.w, simprocAttr, g1, g4, g5, g7, g154, g155, g156, hd, hr, nsucc]) | (refine a_skip ?_; try simp only [pst0, simprocAttr]) | (refine a_cond _ (by (try simp (maxSteps := 2000000) only [Ty.w, simprocAttr, g1, g4, g5, g7, g154, g155, g156, hd, hr, nsucc]); rfl) (fun hb => ?_) (fun hb => ?_) <;> (try simp only [hb0, decide_eq_true_eq, decide_eq_false_iff_not, simprocAttr] at hb) <;> (try (exfalso; omega))) | (refine hK _ _ ?_; clear hK; try simp only [pst0, simprocAttr]))
   refine owp_useQ (hc _) (by (try simp only [Ty.w, simprocAttr, g1, g4, g5, g7, g154, g155, g156, nsucc]); try rfl) ?_; simp (maxSteps := 2000000) only [Ty.w, simprocAttr, g1, g4, g5, g7, g154, g155, g156, nsucc]
   repeat' (first | (with_reducible refine a_hold1 36 ?_) | (first | (refine hK _ _ ?_; clear hK; try simp only [pst0, simprocAttr])))
   refine ⟨?_⟩
   refine a_gen (fun S H => S 1 = .sc (.bool s) ∧ S 4 = .ptr h.next 0 0 ∧ S 5 = sPV o ∧ S 7 = .ptr (h.next + 1) 0 0 ∧ S 10 = .ptr (h'.next + 1) 0 0 ∧ S 154 = .imm 6 (Fm.rows kids) ∧ S 155 = .sc (.int .i64 kids.length) ∧ S 156 = .sc (.int .i64 k) ∧ H.obj (h'.next + 1) = some (.arr 6 [[sPV yo, sPV yn, .imm 1 (strRows ya), .imm 2 (pmRows yp), .imm 5 (Ex.rows ye), .imm 6 (Fm.rows yk)]]) ∧ H.next = h'.next + 2 ∧ ∀ j, j < h'.next → H.obj j = h'.obj j) ?_ ?_
   ·simp only [Ty.w, simprocAttr, g1, g4, g5, g7, g154, g155, g156]
    intro j hj
    have a1 : ¬ j = h'.next := by omega
    have a2 : ¬ j = h'.next + 1 := by omega
    simp only [a1, a2, if_false]
   clear g1 g4 g5 g7 g154 g155 g156 hr hd
   rintro S H ⟨g1, g4, g5, g7, g10, g154, g155, g156, hob, hnn, hold⟩
   have hI := hI.up (by omega) hold
   obtain ⟨hp1, hp2⟩ := hI.pc
   obtain ⟨HT, t1, t2, t3, t4, t5⟩ := hI.tl.tail
   have hkp := t5 h ⟨hI.grow.le, hI.grow.old⟩ (Nat.le_add_right _ _)
   have o2 := hI.o2
   have o2T := (t4 _ (by omega)).trans o2
   have hlt2 := hI.lt
   have n2 : (h.next + 1 = HT.next) = False := by simp; omega
   have hpr := Fm.rows_len L
   have hyr := Fm.rows_len yk
   cases q : (yo.data.toList == o.data.toList) with
   | true =>
    have qe : bEq yo o = true := q
    simp only [qe, if_true] at hF hl1
    have hb : (L.length + yk.length) * 128 ≤ 140737488355328 := by omega
    have hpush := hI.push (M := yk) (m := L.length + yk.length) (R := Fm.rows L ++ Fm.rows yk) t3 t4 hkp (by simp only [Fm.rows_map, List.map_append]) (by simp)
    rw [← hF, t3] at hpush
    repeat' (first | refine a_seq fun K hK => ?_ | (refine a_block ?_) | ((first | refine a_regionS ?_ | refine a_region (fun K hK => ?_)); simp (maxSteps := 2000000) only [Ty.w, simprocAttr, g1, g4, g5, g7, g10, g154, g155, g156, hob, q, o2, o2T, n2, t1, t2, hpr, hyr, hp1, hp2, hb, w7, putC]) | (refine hK _ _ ?_; clear hK; try simp only [pst0, simprocAttr]))
    exact ⟨kids.length - (k + 1), by omega, k + 1, _, by simp, by omega, rfl, hpush⟩
   | false =>
    have qe : bEq yo o = false := q
    simp only [qe, Bool.false_eq_true, if_false, List.length_cons, List.length_nil] at hF hl1
    have hb : (L.length + 1) * 128 ≤ 140737488355328 := by omega
    have hpush := hI.push (M := [.mk yo yn ya yp ye yk]) (m := L.length + 1) (R := Fm.rows L ++ Fm.rows [.mk yo yn ya yp ye yk]) t3 t4 hkp (by simp only [Fm.rows_map, List.map_append]) (by simp)
    rw [← hF, t3] at hpush
    simp only [Fm.rows, Fm.cells] at hpush
    repeat' (first | refine a_seq fun K hK => ?_ | (refine a_block ?_) | ((first | refine a_regionS ?_ | refine a_region (fun K hK => ?_)); simp (maxSteps := 2000000) only [Ty.w, simprocAttr, g1, g4, g5, g7, g10, g154, g155, g156, hob, q, o2, o2T, n2, t1, t2, hpr, hp1, hp2, hb, w7, putC]) | (refine hK _ _ ?_; clear hK; try simp only [pst0, simprocAttr]))
    exact ⟨kids.length - (k + 1), by omega, k + 1, _, by simp, by omega, rfl, hpush⟩
  ·have hd : decide ((k : Int) < (kids.length : Int)) = false := by simp; omega
   have hke : k = kids.length := by omega
   subst hke
   rw [List.take_length] at hI
   have o1 := hI.o1
   have o2 := hI.o2
   obtain ⟨hp1, hp2⟩ := hI.pc
   repeat' (first | refine a_seq fun K hK => ?_ | ((first | refine a_regionS ?_ | refine a_ret ?_); simp (maxSteps := 2000000) only [Ty.w, simprocAttr, g1, g4, g5, g7, g154, g155, g156, hd, o1, o2, hp1, hp2, putC]) | (refine a_exit ?_; try simp only [pst0, simprocAttr]) | (refine a_cond _ (by (try simp (maxSteps := 2000000) only [Ty.w, simprocAttr, g1, g4, g5, g7, g154, g155, g156, hd, o1, o2, hp1, hp2, putC]); rfl) (fun hb => ?_) (fun hb => ?_) <;> (try simp only [hb0, decide_eq_true_eq, decide_eq_false_iff_not, simprocAttr] at hb) <;> (try (exfalso; omega))) | ((first | refine hK _ _ ?_ | (clear hK; refine hK _ _ ?_)); clear hK; try simp only [pst0, simprocAttr]))
   refine ⟨frz_fm frz_nilslice frz_nilslice ?_, hI.grow.set (Nat.le_refl _) _⟩
   exact tl_frzF (by omega) (hI.tl.up (Nat.le_refl _) fun j hj _ => by simp only [Heap.set]; rw [if_neg (by omega)])
theorem norm_imp {a b : Fm} (hB : ∀ o s, (flatM o (normalMs [.mk opNot ⟨#[]⟩ [] [] [] [a], b] s)).length ≤ 1073741824) (ia : NormC a) (ib : NormC b) : NormC (.mk opImp ⟨#[]⟩ [] [] [] [a, b]) := by
 intro s h
 have hc0 := fun H => norm_or (kids := [.mk opNot ⟨#[]⟩ [] [] [] [a], b]) (by simp) hB (fun k hk => by
  simp only [List.mem_cons, List.not_mem_nil, or_false] at hk
  rcases hk with rfl | rfl
  ·exact norm_not ia
  ·exact ib) s H
 have hN : normalM (.mk opImp ⟨#[]⟩ [] [] [] [a, b]) s = normalM (.mk opOr ⟨#[]⟩ [] [] [] [.mk opNot ⟨#[]⟩ [] [] [] [a], b]) s := by
  simp only [normalM, nt_imp, nt_or, nt_not, normalMs, List.headD_cons, List.drop_succ_cons, List.drop_zero]
 rw [hN]
 refine PCall.frz Ty.hb_61 ?_
 have hfz := fun (n : Nat) (H : Heap) => fm_frz n H (normalM (.mk opOr ⟨#[]⟩ [] [] [] [.mk opNot ⟨#[]⟩ [] [] [] [a], b]) s)
 generalize normalM (.mk opOr ⟨#[]⟩ [] [] [] [.mk opNot ⟨#[]⟩ [] [] [] [a], b]) s = y at hc0 hfz ⊢
 have hc : ∀ H : Heap, PCall Try.prog 61 [.agg [sPV opOr, .sc (.string ⟨#[]⟩), .sc (.slice none 0 0), .sc (.slice none 0 0), .sc (.slice none 0 0), .imm 6 [[sPV opNot, .sc (.string ⟨#[]⟩), .sc (.slice none 0 0), .sc (.slice none 0 0), .sc (.slice none 0 0), .imm 6 [a.cells]], b.cells]], .sc (.bool s)] H fun r h' => r = .agg y.cells ∧ h' = H := fun H => by
  refine PCall.nz (hc0 H) ?_
  simp only [Fm.cells, Fm.rows, Ex.rows, sr_nil, pr_nil]
  refine nz_cons (nz_agg ?_) (NzL.refl _)
  refine nz_cons (Nz.refl _) (nz_cons (Nz.refl _) (nz_cons nz_nil (nz_cons nz_nil (nz_cons nz_nil (nz_cons (nz_imm ?_) (NzL.refl _))))))
  refine nzr_cons ?_ (NzR.refl _)
  exact nz_cons (Nz.refl _) (nz_cons (Nz.refl _) (nz_cons nz_nil (nz_cons nz_nil (nz_cons nz_nil (NzL.refl _)))))
 clear hc0 hN
 have g1 : Grow h (h.new (.arr 6 [[.sc (.string ⟨#[]⟩), .sc (.string ⟨#[]⟩), .sc (.slice none 0 0), .sc (.slice none 0 0), .sc (.slice none 0 0), .sc (.slice none 0 0)]])) := (Grow.refl h).new _
 obtain ⟨yo, yn, ya, yp, ye, yk⟩ := y
 obtain ⟨ao, an, aa, ap, ae, ak⟩ := a
 obtain ⟨bo, bn, ba, bp, be, bk⟩ := b
 simp only [Fm.cells, Fm.rows, Ex.rows, sr_nil, pr_nil] at hc hfz ⊢
 have k1 : (opImp.data.toList == (#[110, 111, 116] : Array UInt8).toList) = false := rfl
 have k2 : (opImp.data.toList == (#[105, 109, 112, 108, 121] : Array UInt8).toList) = true := rfl
 refine pcall_body (ow := fun _ => false) (wf := fun _ => false) Ty.mixed Try.func61 rfl Ty.hb_61 (by rw [Try.ntmps61]; simp) ?_
 rw [Try.ntmps61, Try.results61]
 have u1 : (0 : Int) ≤ 1 := by decide
 have u2 : (1 : Int) ≤ ((2 : Nat) : Int) := by decide
 repeat' (first | refine a_seq fun K hK => ?_ | ((first | refine a_regionS ?_ | refine a_drawS (by decide +kernel) ?_); simp (maxSteps := 2000000) only [Ty.w, simprocAttr, k1, k2, nsucc, u1, u2, Option.getD_some, Option.getD_none, Int.le_refl, Int.sub_zero, Int.toNat_one]) | (refine hK _ _ ?_; clear hK; try simp only [pst0, simprocAttr]))
 (first | refine a_dcall0 (hc _) (by (try simp only [Ty.w, simprocAttr, k1, k2, nsucc, u1, u2, Option.getD_none, Int.le_refl, Int.sub_zero, Int.toNat_one]); try rfl) ?_ | refine a_dcallA (hc _) (by (try simp only [Ty.w, simprocAttr, k1, k2, nsucc, u1, u2, Option.getD_none, Int.le_refl, Int.sub_zero, Int.toNat_one]); try rfl) (by simp only [Ty.w, simprocAttr, k1, k2, nsucc, u1, u2, Option.getD_none, Int.le_refl, Int.sub_zero, Int.toNat_one]; try trivial) ?_); simp (maxSteps := 2000000) only [Ty.w, simprocAttr, Option.getD_some, k1, k2, nsucc, u1, u2, Option.getD_none, Int.le_refl, Int.sub_zero, Int.toNat_one]
 repeat' (first | (refine a_ret ?_; simp (maxSteps := 2000000) only [Ty.w, simprocAttr, nsucc, putC]) | (refine hK _ _ ?_; clear hK; try simp only [pst0, simprocAttr]) | (with_reducible refine a_past2 (by simp only [List.forall_mem_cons, Ty.w, simprocAttr, nsucc, putC]; (repeat' apply And.intro) <;> first | trivial | exact .inl (by decide +kernel)) ?_; try simp (maxSteps := 2000000) only [Ty.w, simprocAttr, nsucc, putC]))
 exact ⟨frz_agg (hfz _ _), g1.set (Nat.le_refl _) _⟩
end Go.Proofs.Ytjlkapgpjamnkaa
namespace Go.Proofs.Ytjlkapgpjamnkaa
open Go.AM
theorem nameW {s : ByteArray} (h : nameB s = true) : wordR s = true := by rw [← word_same]; exact name_word h
theorem varW {s : ByteArray} (h : varB s = true) : wordR s = true := by rw [← word_same]; exact (var_word h).1
theorem term_word {s : ByteArray} (h : termB s = true) : wordR s = true := by
 simp only [termB, Bool.or_eq_true] at h
 exact h.elim nameW varW
theorem ss_word {s : ByteArray} (h : wordR s = true) : shapedS (wordM s) = true := by simp [wordM, shapedS, h]
theorem shapedSs_iff : ∀ {l : List Sx}, (shapedSs l = true ↔ ∀ k ∈ l, shapedS k = true)
 | [] => by simp [shapedSs]
 | k :: l => by simp [shapedSs, shapedSs_iff (l := l)]
theorem ss_list {l : List Sx} (h : ∀ k ∈ l, shapedS k = true) : shapedS (listM l) = true := by
 unfold listM shapedS
 rw [if_neg (by decide), if_neg (by decide), if_pos rfl, shapedSs_iff.2 h]; try rfl
theorem ss_words {first : ByteArray} {l : List ByteArray} (h0 : wordR first = true) (h : l.all termB = true) : shapedS (wordsM first l) = true := by
 refine ss_list fun k hk => ?_
 simp only [List.map_cons, List.mem_cons, List.mem_map] at hk
 rcases hk with rfl | ⟨s, hs, rfl⟩
 ·exact ss_word h0
 ·exact ss_word (term_word (List.all_eq_true.1 h s hs))
theorem exW_ss : ∀ e : Ex, shapedE e = true → shapedS (exW e) = true := by
 refine Ex.ind ?_
 intro op name n args kids ih h
 unfold shapedE at h
 unfold exW
 split at h
 ·rename_i c
  rw [if_pos c]
  simp only [Bool.and_eq_true] at h
  have := h.2
  simp only [inNum, Bool.and_eq_true, decide_eq_true_eq] at this
  simp [shapedS, this.1, this.2]
 ·rename_i c
  rw [if_neg c]
  split at h
  ·rename_i c2
   rw [if_pos c2]
   simp only [Bool.and_eq_true] at h
   exact ss_words (nameW h.1.2) h.2
  ·rename_i c2
   rw [if_neg c2]
   split at h
   case isFalse => simp at h
   rename_i c3
   simp only [Bool.and_eq_true] at h
   obtain ⟨_, h4⟩ := h
   split at h4
   case h_2 => simp at h4
   rename_i a b
   simp only [Bool.and_eq_true] at h4
   have hop : wordR op = true := by
    simp only [Bool.or_eq_true] at c3
    rcases c3 with (h | h) | h <;> rw [bEq_eq h] <;> decide
   refine ss_list fun k hk => ?_
   simp only [List.mem_cons, List.not_mem_nil, or_false] at hk
   rcases hk with rfl | rfl | rfl
   ·exact ss_word hop
   ·exact ih a (by simp) h4.1
   ·exact ih b (by simp) h4.2
theorem params_ss : ∀ l : List Pm, l.all pmOk = true → ∀ k ∈ paramsW l, shapedS k = true
 | [], _ => by simp [paramsW]
 | p :: l, h => by
  simp only [List.all_cons, Bool.and_eq_true, pmOk] at h
  obtain ⟨⟨h1, h2⟩, h3⟩ := h
  have ht : wordR p.type = true := by
   simp only [typedB, Bool.or_eq_true] at h2
   rcases h2 with h2 | h2
   ·exact nameW h2
   ·rw [bEq_eq h2]; decide
  intro k hk
  simp only [paramsW, List.mem_cons] at hk
  rcases hk with rfl | rfl | rfl | hk
  ·exact ss_word (varW h1)
  ·exact ss_word (by decide)
  ·exact ss_word ht
  ·exact params_ss l h3 k hk
theorem fmW_ss : ∀ f : Fm, shapedF f = true → shapedS (fmW f) = true := by
 refine sf_ind ?_ ?_ ?_ ?_ ?_ ?_ ?_
 ·intro name args h1 h2
  exact ss_words (nameW h1) h2
 ·intro args _ h2
  exact ss_words (by decide) h2
 ·intro op a b ho ha hb
  have e : fmW (.mk op ⟨#[]⟩ [] [] [a, b] []) = listM [wordM op, exW a, exW b] := by rcases ho with rfl | rfl | rfl <;> rfl
  have hop : wordR op = true := by rcases ho with rfl | rfl | rfl <;> decide
  rw [e]
  refine ss_list fun k hk => ?_
  simp only [List.mem_cons, List.not_mem_nil, or_false] at hk
  rcases hk with rfl | rfl | rfl
  ·exact ss_word hop
  ·exact exW_ss a ha
  ·exact exW_ss b hb
 ·intro op kids ho _ ih
  have e : ∃ pre, (∀ k ∈ pre, shapedS k = true) ∧ fmW (.mk op ⟨#[]⟩ [] [] [] kids) = listM (pre ++ kids.map fmW) := by
   have hop : wordR op = true := by rcases ho with rfl | rfl <;> decide
   have hx : fmW (.mk op ⟨#[]⟩ [] [] [] kids) = listM ((if (bEq op opAnd && kids.isEmpty) = true then [] else [wordM op]) ++ kids.map fmW) := by
    unfold fmW
    rw [fmWs_map]
    rcases ho with rfl | rfl
    ·rw [if_neg (by decide), if_neg (by decide), if_neg (by decide), if_neg (show ¬ isQ opAnd = true by decide), List.append_nil]
    ·rw [if_neg (by decide), if_neg (by decide), if_neg (by decide), if_neg (show ¬ isQ opOr = true by decide), List.append_nil]
   refine ⟨_, ?_, hx⟩
   intro k hk
   split at hk
   ·simp at hk
   ·simp only [List.mem_singleton] at hk; subst hk; exact ss_word hop
  obtain ⟨pre, hp, e⟩ := e
  rw [e]
  refine ss_list fun k hk => ?_
  rcases List.mem_append.1 hk with hk | hk
  ·exact hp k hk
  ·obtain ⟨y, hy, rfl⟩ := List.mem_map.1 hk; exact ih y hy
 ·intro k _ ih
  exact ss_list (l := [wordM opNot, fmW k]) fun y hy => by
   simp only [List.mem_cons, List.not_mem_nil, or_false] at hy
   rcases hy with rfl | rfl
   ·exact ss_word (by decide)
   ·exact ih
 ·intro a b _ _ iha ihb
  exact ss_list (l := [wordM opImp, fmW a, fmW b]) fun y hy => by
   simp only [List.mem_cons, List.not_mem_nil, or_false] at hy
   rcases hy with rfl | rfl | rfl
   ·exact ss_word (by decide)
   ·exact iha
   ·exact ihb
 ·intro op params k ho hp _ ih
  have e : fmW (.mk op ⟨#[]⟩ [] params [] [k]) = listM [wordM op, listM (paramsW params), fmW k] := by rcases ho with rfl | rfl <;> rfl
  have hop : wordR op = true := by rcases ho with rfl | rfl <;> decide
  rw [e]
  refine ss_list fun y hy => ?_
  simp only [List.mem_cons, List.not_mem_nil, or_false] at hy
  rcases hy with rfl | rfl | rfl
  ·exact ss_word hop
  ·exact ss_list (params_ss params hp)
  ·exact ih
theorem validF_iff {f : Fm} : validF f = true ↔ shapedF f = true ∧ (fmW f).depth ≤ 32 ∧ (fmW f).nodes ≤ 4096 := by
 constructor
 ·intro h
  have hs : shapedF f = true := by
   unfold validF at h
   simp only [Bool.and_eq_true] at h
   exact shapedM_F f 0 0 h.1
  unfold validF at h
  simp only [Bool.and_eq_true] at h
  have := (svalid_iff (fmW f) 0 0 (by omega) (by omega)).1.1 h.2
  exact ⟨hs, by omega, by omega⟩
 ·rintro ⟨hs, hd, hn⟩
  unfold validF
  rw [(shaped_of f hs 0 0 (by omega) (by omega)).1, (svalid_iff (fmW f) 0 0 (by omega) (by omega)).1.2 ⟨fmW_ss f hs, by omega, by omega⟩]; try rfl
end Go.Proofs.Ytjlkapgpjamnkaa
namespace Go.Proofs.Ytjlkapgpjamnkaa
open Go.AM
set_option maxHeartbeats 4000000
set_option maxRecDepth 20000
mutual
def cntF : Fm → Nat
 | .mk _ _ _ _ _ kids => cntFs kids + 1
def cntFs : List Fm → Nat
 | [] => 0
 | k :: l => cntF k + cntFs l
end
theorem cntF_pos (f : Fm) : 1 ≤ cntF f := by cases f; simp [cntF]
theorem cntFs_map : ∀ l : List Fm, ∀ k ∈ l, cntF k ≤ cntFs l
 | [], _, h => by simp at h
 | x :: l, k, h => by
  simp only [cntFs]
  rcases List.mem_cons.1 h with rfl | h
  ·omega
  ·have := cntFs_map l k h; omega
mutual
theorem cntF_bulk : ∀ f : Fm, cntF f ≤ PV.bulkL f.cells
 | .mk op name args params exprs kids => by
  have := cntFs_bulk kids
  simp only [cntF, Fm.cells, PV.bulkL, PV.bulk]
  omega
theorem cntFs_bulk : ∀ l : List Fm, cntFs l ≤ PV.bulkR (Fm.rows l)
 | [] => by simp [cntFs]
 | k :: l => by
  have h1 := cntF_bulk k
  have h2 := cntFs_bulk l
  simp only [cntFs, Fm.rows, PV.bulkR]
  omega
end
theorem flatM_len (o : ByteArray) (s : Bool) : ∀ l : List Fm, (∀ k ∈ l, (fkids (normalM k s)).length ≤ 2 * cntF k) → (flatM o (normalMs l s)).length ≤ 2 * cntFs l
 | [], _ => by simp [normalMs, flatM]
 | k :: l, h => by
  have h1 := h k (by simp)
  have h2 := flatM_len o s l fun x hx => h x (by simp [hx])
  have h3 := cntF_pos k
  simp only [normalMs, flatM, List.flatMap_cons, List.length_append, cntFs] at h2 ⊢
  split <;> (try simp only [List.length_cons, List.length_nil]) <;> omega
theorem norm_len : ∀ f, shapedF f = true → ∀ s, (fkids (normalM f s)).length ≤ 2 * cntF f := by
 refine sf_ind ?_ ?_ ?_ ?_ ?_ ?_ ?_
 ·intro name args _ _ s
  simp only [normalM, nt_atom]
  split <;> simp [fkids, cntF, cntFs]
 ·intro args _ _ s
  simp only [normalM, nt_same]
  split <;> simp [fkids, cntF, cntFs]
 ·intro op a b ho _ _ s
  rcases ho with rfl | rfl | rfl
  ·simp only [normalM, nt_lt, cmpN]; split <;> simp [cmpM, fkids]
  ·simp only [normalM, nt_le, cmpN]; split <;> simp [cmpM, fkids]
  ·simp only [normalM, nt_eq, eqN]; split <;> simp [cmpM, fkids, cntF, cntFs]
 ·intro op kids ho _ ih s
  have h := flatM_len (dualM opAnd opOr s) s kids fun k hk => ih k hk s
  have h2 := flatM_len (dualM opOr opAnd s) s kids fun k hk => ih k hk s
  rcases ho with rfl | rfl
  ·simp only [normalM, nt_and, combM, fkids, cntF]; omega
  ·simp only [normalM, nt_or, combM, fkids, cntF]; omega
 ·intro k _ ih s
  have := ih (!s)
  simp only [normalM, nt_not, normalMs, List.headD_cons, cntF, cntFs]; omega
 ·intro a b _ _ ia ib s
  have h1 := ia (!s)
  have h2 := ib s
  have h3 := cntF_pos a
  have h4 := cntF_pos b
  simp only [normalM, nt_imp, normalMs, List.headD_cons, List.drop_succ_cons, List.drop_zero, cntF, cntFs]
  generalize normalM a (!s) = x at h1 ⊢
  generalize normalM b s = y at h2 ⊢
  show (flatM _ [x, y]).length ≤ _
  simp only [flatM, List.flatMap_cons, List.flatMap_nil, List.append_nil, List.length_append]
  split <;> split <;> (try simp only [List.length_cons, List.length_nil]) <;> omega
 ·intro op params k ho _ _ _ s
  rcases ho with rfl | rfl
  ·simp [normalM, nt_all, fkids, cntF]; omega
  ·simp [normalM, nt_some, fkids, cntF]; omega
theorem bindNil_c {f : Fm} (hsm : f.small) (hsh : shapedF f = true) (hb : PV.bulkL f.cells ≤ 16777216) (H : Heap) :
  PCall Try.prog 82 [.agg f.cells, .sc (.map none), .sc (.slice none 0 0)] H fun r h' => r = .agg f.cells ∧ h' = H := by
 refine PCall.nil_imm (z := 1) (pre := [.agg f.cells, .sc (.map none)]) (post := []) ?_
 have := bindF_c f hsm hsh (bound := []) (by simp only [List.length_nil]; omega) (MapAt.nil H)
 rw [bindFm_none (fun _ => rfl)] at this
 exact this
theorem normal_c : ∀ f, shapedF f = true → f.small → PV.bulkL f.cells ≤ 16777216 → NormC f := by
 refine sf_ind ?_ ?_ ?_ ?_ ?_ ?_ ?_
 ·intro name args h1 h2 hsm hb
  have hs : shapedF (.mk opAtom name args [] [] []) = true := sf_mk (by simp [partsOk, show shapeOf opAtom 0 = some (0, 0, false) from rfl, show termsOk opAtom name args = (nameB name && args.all termB) from rfl, h1, h2]) (by simp) (by simp)
  exact norm_atom fun H => bindNil_c hsm hs hb H
 ·intro args h1 h2 hsm hb
  have hs : shapedF (.mk opSame ⟨#[]⟩ args [] [] []) = true := sf_mk (by simp [partsOk, show shapeOf opSame 0 = some (0, 0, false) from rfl, show termsOk opSame ⟨#[]⟩ args = (emptyB ⟨#[]⟩ && decide (args.length = 2) && args.all termB) from rfl, h1, h2, show emptyB ⟨#[]⟩ = true from rfl]) (by simp) (by simp)
  exact norm_same fun H => bindNil_c hsm hs hb H
 ·intro op a b ho ha hb hsm _
  simp only [Fm.small, Ex.smalls] at hsm
  obtain ⟨_, _, ⟨sa, sb, _⟩, _⟩ := hsm
  rcases ho with rfl | rfl | rfl
  ·exact norm_lt sa ha sb hb
  ·exact norm_le sa ha sb hb
  ·exact norm_eq sa ha sb hb
 ·intro op kids ho hk ih hsm hb
  simp only [Fm.small] at hsm
  obtain ⟨_, _, _, hkl, hks⟩ := hsm
  rw [Fm.smalls_iff] at hks
  simp only [Fm.cells, PV.bulkL, PV.bulk] at hb
  have hB : ∀ o s, (flatM o (normalMs kids s)).length ≤ 1073741824 := fun o s => by
   have h1 := flatM_len o s kids fun k hkk => norm_len k (hk k hkk) s
   have h2 := cntFs_bulk kids
   omega
  have ihk : ∀ k ∈ kids, NormC k := fun k hkk => ih k hkk (hks k hkk) (by have := bulk_memF hkk; omega)
  rcases ho with rfl | rfl
  ·exact norm_and hkl hB ihk
  ·exact norm_or hkl hB ihk
 ·intro k _ ih hsm hb
  simp only [Fm.small, Fm.smalls] at hsm
  simp only [Fm.cells, PV.bulkL, PV.bulk, Fm.rows, PV.bulkR] at hb
  exact norm_not (ih hsm.2.2.2.2.1 (by omega))
 ·intro a b sa sb ia ib hsm hb
  simp only [Fm.small, Fm.smalls] at hsm
  simp only [Fm.cells, PV.bulkL, PV.bulk, Fm.rows, PV.bulkR] at hb
  have hna : shapedF (.mk opNot ⟨#[]⟩ [] [] [] [a]) = true := sf_mk po_not (by simp) (by simpa using sa)
  refine norm_imp (fun o s => ?_) (ia hsm.2.2.2.2.1 (by omega)) (ib hsm.2.2.2.2.2.1 (by omega))
  have h1 := flatM_len o s [.mk opNot ⟨#[]⟩ [] [] [] [a], b] fun k hk => by
   simp only [List.mem_cons, List.not_mem_nil, or_false] at hk
   rcases hk with rfl | rfl
   ·exact norm_len _ hna s
   ·exact norm_len _ sb s
  have h2 := cntF_bulk a
  have h3 := cntF_bulk b
  simp only [cntFs, cntF] at h1
  omega
 ·intro op params k ho hp _ ih hsm hb
  simp only [Fm.small, Fm.smalls] at hsm
  simp only [Fm.cells, PV.bulkL, PV.bulk, Fm.rows, PV.bulkR] at hb
  have ik := ih hsm.2.2.2.2.1 (by omega)
  rcases ho with rfl | rfl
  ·exact norm_all hsm.2.1 ik
  ·exact norm_some hsm.2.1 ik
def normF (f : Fm) : Fm := if validF f = true then normalM f true else zeroFm
theorem Normal_c {f : Fm} (hok : f.ok) (hsm : f.small) (hb : PV.bulkL f.cells ≤ 16777216) (h : Heap) :
  PCall Try.prog 22 [.agg f.cells] h fun r h' => r = .agg (normF f).cells ∧ h' = h := by
 have hv := fun H => fvalid_c hok hsm H
 have hn := fun (hsh : shapedF f = true) => normal_c f hsh hsm hb true
 have hvs : validF f = true → shapedF f = true := fun h => (validF_iff.1 h).1
 refine PCall.frz Ty.hb_22 ?_
 have g1 : Grow h (h.new (.arr 6 [[.sc (.string ⟨#[]⟩), .sc (.string ⟨#[]⟩), .sc (.slice none 0 0), .sc (.slice none 0 0), .sc (.slice none 0 0), .sc (.slice none 0 0)]])) := (Grow.refl h).new _
 cases q : validF f with
 | false =>
  rw [show normF f = zeroFm from if_neg (by rw [q]; simp)]
  rw [q] at hv
  obtain ⟨op, name, args, params, exprs, kids⟩ := f
  simp only [Fm.cells, zeroFm, Fm.rows, Ex.rows, sr_nil, pr_nil] at hv ⊢
  refine pcall_body (ow := fun _ => false) (wf := fun _ => false) Ty.mixed Try.func22 rfl Ty.hb_22 (by rw [Try.ntmps22]; simp) ?_
  rw [Try.ntmps22, Try.results22]
  repeat' (first | refine a_seq fun K hK => ?_ | (refine a_regionS ?_; simp (maxSteps := 2000000) only [Ty.w, simprocAttr, nsucc]) | (refine hK _ _ ?_; clear hK; try simp only [pst0, simprocAttr]))
  refine owp_useQ (hv _) (by (try simp only [Ty.w, simprocAttr, nsucc, Bool.not_false]); try rfl) ?_; simp (maxSteps := 2000000) only [Ty.w, simprocAttr, nsucc, Bool.not_false]
  repeat' (first | refine a_seq fun K hK => ?_ | ((first | refine a_regionS ?_ | refine a_ret ?_); simp (maxSteps := 2000000) only [Ty.w, simprocAttr, nsucc, Bool.not_false, putC]) | (refine hK _ _ ?_; clear hK; try simp only [pst0, simprocAttr]))
  exact ⟨frz_fm frz_nilslice frz_nilslice frz_nilslice, g1.set (Nat.le_refl _) _⟩
 | true =>
  rw [show normF f = normalM f true from if_pos q]
  rw [q] at hv
  have hc := hn (hvs q)
  have hfz := fun (n : Nat) (H : Heap) => fm_frz n H (normalM f true)
  clear hn hvs
  generalize normalM f true = y at hc hfz ⊢
  obtain ⟨yo, yn, ya, yp, ye, yk⟩ := y
  obtain ⟨op, name, args, params, exprs, kids⟩ := f
  simp only [Fm.cells] at hv hc hfz ⊢
  refine pcall_body (ow := fun _ => false) (wf := fun _ => false) Ty.mixed Try.func22 rfl Ty.hb_22 (by rw [Try.ntmps22]; simp) ?_
  rw [Try.ntmps22, Try.results22]
  repeat' (first | refine a_seq fun K hK => ?_ | (refine a_regionS ?_; simp (maxSteps := 2000000) only [Ty.w, simprocAttr, nsucc]) | (refine hK _ _ ?_; clear hK; try simp only [pst0, simprocAttr]))
  refine owp_useQ (hv _) (by (try simp only [Ty.w, simprocAttr, nsucc, Bool.not_true]); try rfl) ?_; simp (maxSteps := 2000000) only [Ty.w, simprocAttr, nsucc, Bool.not_true]
  repeat' (first | refine a_seq fun K hK => ?_ | (refine a_regionS ?_; simp (maxSteps := 2000000) only [Ty.w, simprocAttr, nsucc, Bool.not_true]) | (refine a_skip ?_; try simp only [pst0, simprocAttr]) | (refine a_cond _ (by (try simp (maxSteps := 2000000) only [Ty.w, simprocAttr, nsucc, Bool.not_true]); rfl) (fun hb => ?_) (fun hb => ?_) <;> (try simp only [hb0, decide_eq_true_eq, decide_eq_false_iff_not, simprocAttr] at hb) <;> (try (exfalso; omega))) | (refine hK _ _ ?_; clear hK; try simp only [pst0, simprocAttr]))
  refine owp_useQ (hc _) (by (try simp only [Ty.w, simprocAttr, nsucc]); try rfl) ?_; simp (maxSteps := 2000000) only [Ty.w, simprocAttr, nsucc]
  repeat' (first | (refine a_ret ?_; simp (maxSteps := 2000000) only [Ty.w, simprocAttr, nsucc, putC]) | (refine hK _ _ ?_; clear hK; try simp only [pst0, simprocAttr]))
  exact ⟨frz_agg (hfz _ _), g1.set (Nat.le_refl _) _⟩
end Go.Proofs.Ytjlkapgpjamnkaa
namespace Go.AM
section
variable {P : Program} {ow : Nat → Bool} {wf : FuncId → Bool} {n : Nat} {Q : Post} {s : Slots} {h : Heap}
def alIdx (ops : List Oper) : List Nat := (List.range ops.length).filter (alB ops)
def drn2 (P : Program) (ow : Nat → Bool) (wf : FuncId → Bool) (n : Nat) (ops : List Oper) (al : List Nat) (base : Nat) : Nat → List Oper → Past → List (Nat × Heap) → (Slots → Heap → Prop) → Slots → Heap → Prop
  | _, [], _, _, K, s, h => K s h
  | k, o :: rest, past, hist, K, s, h => (o.dst.all (fun d => decide (d < n)) = true) ∧ match wantedB ops s o with
    | none => False
    | some b => if b = true then
        (match o.op with
        | .alloc t => (match zeroT P t with
          | some zs => 0 < zs.length ∧ (∀ f ∈ al, k < f → (h.set (base + k) (.arr zs.length [zs.map .sc])).obj (base + f) = none) ∧ (∀ x ∈ past, pre ops x.1 k = true ∨ Does P ow x.2.1 (pev x.2.2.1) (h.set (base + k) (.arr zs.length [zs.map .sc])) x.2.2.2 (h.set (base + k) (.arr zs.length [zs.map .sc]))) ∧
              drn2 P ow wf n ops al base (k + 1) rest past ((k, h) :: hist) K (updO s o.dst (.ptr (base + k) 0 0)) (h.set (base + k) (.arr zs.length [zs.map .sc]))
          | none => False)
        | _ => (match callee (pev s) o.op with
          | none => (match eff P (o.dst.any ow) o.op (pev s) h with
            | some (v, h1) => if isW ow wf o = true then (∀ f ∈ al, k < f → h1.obj (base + f) = none) ∧ (∀ x ∈ past, pre ops x.1 k = true ∨ Does P ow x.2.1 (pev x.2.2.1) h1 x.2.2.2 h1) ∧ drn2 P ow wf n ops al base (k + 1) rest past ((k, h) :: hist) K (updO s o.dst v) h1
              else h1 = h ∧ (∀ x ∈ hist, pre ops x.1 k = true ∨ Does P ow o (pev s) x.2 v x.2) ∧ drn2 P ow wf n ops al base (k + 1) rest ((k, o, s, v) :: past) hist K (updO s o.dst v) h
            | none => False)
          | some _ => (if isW ow wf o = true then ∃ v h', Does P ow o (pev s) h v h' ∧ ((∀ f ∈ al, k < f → h'.obj (base + f) = none) ∧ ∀ x ∈ pastC P ow past, pre ops x.1 k = true ∨ x.2 h') ∧ drun2 P ow wf n ops base (k + 1) rest (pastC P ow past) ((k, h) :: hist) K (updO s o.dst v) h'
            else ∃ v, Does P ow o (pev s) h v h ∧ (∀ x ∈ hist, pre ops x.1 k = true ∨ Does P ow o (pev s) x.2 v x.2) ∧ drun2 P ow wf n ops base (k + 1) rest (pastC P ow ((k, o, s, v) :: past)) hist K (updO s o.dst v) h)))
      else drn2 P ow wf n ops al base (k + 1) rest past hist K (updO s o.dst (.sc undef)) h
theorem mem_alIdx {ops : List Oper} {f : Nat} (h : alB ops f = true) : f ∈ alIdx ops := by
  simp only [alIdx, List.mem_filter, List.mem_range]
  refine ⟨?_, h⟩
  unfold alB at h
  split at h
  · rename_i o ho
    exact (List.getElem?_eq_some_iff.1 ho).1
  · simp at h
theorem drn2_drun2 {ops : List Oper} {al : List Nat} (hal : alIdx ops = al) {base : Nat} {K : Slots → Heap → Prop} : (rest : List Oper) → (k : Nat) → (past : Past) → (hist : List (Nat × Heap)) → (s : Slots) → (h : Heap) → drn2 P ow wf n ops al base k rest past hist K s h → drun2 P ow wf n ops base k rest (pastC P ow past) hist K s h
  | [], _, _, _, _, _, hh => by simpa only [drn2, drun2] using hh
  | o :: rest, k, past, hist, s, h, hh => by
    simp only [drn2] at hh
    simp only [drun2]
    refine ⟨hh.1, ?_⟩
    have h2 := hh.2
    clear hh
    have pc : ∀ h1, (∀ x ∈ past, pre ops x.1 k = true ∨ Does P ow x.2.1 (pev x.2.2.1) h1 x.2.2.2 h1) → ∀ x ∈ pastC P ow past, pre ops x.1 k = true ∨ x.2 h1 := by
      intro h1 hp x hx
      obtain ⟨y, hy, rfl⟩ := List.mem_map.1 hx
      exact hp y hy
    have alc : ∀ h1 : Heap, (∀ f ∈ al, k < f → h1.obj (base + f) = none) → ∀ f, k < f → alB ops f = true → h1.obj (base + f) = none := fun h1 hp f hf ha => hp f (by rw [← hal]; exact mem_alIdx ha) hf
    cases hw : wantedB ops s o with
    | none => rw [hw] at h2; exact h2
    | some b =>
      rw [hw] at h2
      simp only at h2 ⊢
      split at h2
      · rename_i hb
        rw [if_pos hb]
        split at h2
        · rename_i t hop
          split at h2
          · rename_i zs hz
            obtain ⟨a1, a2, a3, a4⟩ := h2
            have hi : isW ow wf o = true := by unfold isW; rw [hop]
            rw [if_pos hi]
            exact ⟨_, _, by unfold DoesR; rw [hop]; exact ⟨zs, hz, a1, rfl, rfl⟩, alc _ a2, pc _ a3, drn2_drun2 hal rest (k + 1) _ _ _ _ a4⟩
          · exact h2.elim
        · rename_i hne
          cases hc : callee (pev s) o.op with
          | none =>
            rw [hc] at h2
            simp only at h2
            cases he : eff P (o.dst.any ow) o.op (pev s) h with
            | none => rw [he] at h2; exact h2.elim
            | some r =>
              obtain ⟨v, h1⟩ := r
              rw [he] at h2
              simp only at h2
              have hd : Does P ow o (pev s) h v h1 := by unfold Does; rw [hc]; exact he
              split at h2
              · rename_i hi
                rw [if_pos hi]
                have hdr : DoesR P ow (base + k) o (pev s) h v h1 := by
                  unfold DoesR
                  split
                  · rename_i t hop; exact absurd hop (hne t)
                  · exact hd
                exact ⟨v, h1, hdr, alc h1 h2.1, pc h1 h2.2.1, drn2_drun2 hal rest (k + 1) _ _ _ _ h2.2.2⟩
              · rename_i hi
                rw [if_neg hi]
                obtain ⟨rfl, h3, h4⟩ := h2
                exact ⟨v, hd, h3, drn2_drun2 hal rest (k + 1) _ _ _ _ h4⟩
          | some f =>
            rw [hc] at h2
            simp only at h2
            have dr : ∀ {v : PV} {h1 : Heap}, Does P ow o (pev s) h v h1 → DoesR P ow (base + k) o (pev s) h v h1 := fun hd => by
              unfold DoesR
              split
              · rename_i t hop; exact absurd hop (hne t)
              · exact hd
            split at h2
            · rename_i hi
              rw [if_pos hi]
              obtain ⟨v, h1, hd, h3, h4⟩ := h2
              exact ⟨v, h1, dr hd, alc h1 h3.1, h3.2, h4⟩
            · rename_i hi
              rw [if_neg hi]
              obtain ⟨v, hd, h3, h4⟩ := h2
              exact ⟨v, hd, h3, h4⟩
      · rename_i hb
        rw [if_neg hb]
        exact drn2_drun2 hal rest (k + 1) _ _ _ _ h2
theorem a_draw2S {id : Nat} {ops : List Oper} {K : Slots → Heap → Prop} (al : List Nat) (hd : dOk2 ow wf ops = true) (ha : alIdx ops = al) (hk : drn2 P ow wf n ops al h.next 0 ops [] [] K s ⟨h.next + ops.length, h.obj⟩) : awp P ow wf n (.region id ops.toArray true) (Post.seq K Q) s h := by
  simp only [awp, if_true]; exact .inr (.inl ⟨hd, drn2_drun2 ha ops 0 _ _ _ _ hk⟩)
end
end Go.AM
namespace Go.Proofs.Ytjlkapgpjamnkaa
open Go.AM
set_option maxHeartbeats 4000000
set_option maxRecDepth 20000
def RNormC (f : Fm) : Prop := ∀ (s : Bool) (h : Heap), PCall Try.prog 62 [.agg f.cells, .sc (.bool s)] h fun r h' => r = .agg (normalM f s).cells ∧ h' = h
theorem rother_and (h : Heap) : PCall Try.prog 102 [sPV opAnd] h fun r h' => r = sPV opOr ∧ h' = h := by
 have k1 : (opAnd.data.toList == (#[97, 110, 100] : Array UInt8).toList) = true := rfl
 refine pcall_body (ow := fun _ => false) (wf := fun _ => false) Ty.mixed Try.func102 rfl Ty.hb_102 (by rw [Try.ntmps102]; simp) ?_
 rw [Try.ntmps102, Try.results102]
 repeat' (first | refine a_seq fun K hK => ?_ | ((first | refine a_regionS ?_ | refine a_ret ?_); simp (maxSteps := 2000000) only [Ty.w, simprocAttr, k1]) | (refine hK _ _ ?_; clear hK; try simp only [pst0, simprocAttr]))
 all_goals first | done | rfl | exact ⟨rfl, rfl⟩
theorem rother_or (h : Heap) : PCall Try.prog 102 [sPV opOr] h fun r h' => r = sPV opAnd ∧ h' = h := by
 have k1 : (opOr.data.toList == (#[97, 110, 100] : Array UInt8).toList) = false := rfl
 have k2 : (opOr.data.toList == (#[111, 114] : Array UInt8).toList) = true := rfl
 refine pcall_body (ow := fun _ => false) (wf := fun _ => false) Ty.mixed Try.func102 rfl Ty.hb_102 (by rw [Try.ntmps102]; simp) ?_
 rw [Try.ntmps102, Try.results102]
 repeat' (first | refine a_seq fun K hK => ?_ | ((first | refine a_regionS ?_ | refine a_ret ?_); simp (maxSteps := 2000000) only [Ty.w, simprocAttr, k1, k2]) | (refine hK _ _ ?_; clear hK; try simp only [pst0, simprocAttr]))
 all_goals first | done | rfl | exact ⟨rfl, rfl⟩
theorem rother_all (h : Heap) : PCall Try.prog 102 [sPV opAll] h fun r h' => r = sPV opSome ∧ h' = h := by
 have k1 : (opAll.data.toList == (#[97, 110, 100] : Array UInt8).toList) = false := rfl
 have k2 : (opAll.data.toList == (#[111, 114] : Array UInt8).toList) = false := rfl
 have k3 : (opAll.data.toList == (#[102, 111, 114, 97, 108, 108] : Array UInt8).toList) = true := rfl
 refine pcall_body (ow := fun _ => false) (wf := fun _ => false) Ty.mixed Try.func102 rfl Ty.hb_102 (by rw [Try.ntmps102]; simp) ?_
 rw [Try.ntmps102, Try.results102]
 repeat' (first | refine a_seq fun K hK => ?_ | ((first | refine a_regionS ?_ | refine a_ret ?_); simp (maxSteps := 2000000) only [Ty.w, simprocAttr, k1, k2, k3]) | (refine hK _ _ ?_; clear hK; try simp only [pst0, simprocAttr]))
 all_goals first | done | rfl | exact ⟨rfl, rfl⟩
theorem rother_some (h : Heap) : PCall Try.prog 102 [sPV opSome] h fun r h' => r = sPV opAll ∧ h' = h := by
 have k1 : (opSome.data.toList == (#[97, 110, 100] : Array UInt8).toList) = false := rfl
 have k2 : (opSome.data.toList == (#[111, 114] : Array UInt8).toList) = false := rfl
 have k3 : (opSome.data.toList == (#[102, 111, 114, 97, 108, 108] : Array UInt8).toList) = false := rfl
 refine pcall_body (ow := fun _ => false) (wf := fun _ => false) Ty.mixed Try.func102 rfl Ty.hb_102 (by rw [Try.ntmps102]; simp) ?_
 rw [Try.ntmps102, Try.results102]
 repeat' (first | refine a_seq fun K hK => ?_ | (refine a_block ?_) | ((first | refine a_regionS ?_ | refine a_ret ?_); simp (maxSteps := 2000000) only [Ty.w, simprocAttr, k1, k2, k3]) | (refine a_skip ?_; try simp only [pst0, simprocAttr]) | (refine hK _ _ ?_; clear hK; try simp only [pst0, simprocAttr]))
 all_goals first | done | rfl | exact ⟨rfl, rfl⟩
theorem rnorm_atom {name : ByteArray} {args : List ByteArray} {params : List Pm} {exprs : List Ex} {kids : List Fm} : RNormC (.mk opAtom name args params exprs kids) := by
 intro s h
 refine PCall.frz Ty.hb_62 ?_
 have k1 : (opAtom.data.toList == (#[97, 116, 111, 109] : Array UInt8).toList) = true := rfl
 have g1 : Grow h (h.new (.arr 6 [[.sc (.string ⟨#[]⟩), .sc (.string ⟨#[]⟩), .sc (.slice none 0 0), .sc (.slice none 0 0), .sc (.slice none 0 0), .sc (.slice none 0 0)]])) := (Grow.refl h).new _
 cases s with
 | true =>
  have hN : normalM (.mk opAtom name args params exprs kids) true = .mk opAtom name args params exprs kids := rfl
  rw [hN]
  have hfz := fun (n : Nat) (H : Heap) => fm_frz n H (.mk opAtom name args params exprs kids)
  simp only [Fm.cells] at hfz ⊢
  refine pcall_body (ow := fun _ => false) (wf := fun _ => false) Ty.mixed Try.func62 rfl Ty.hb_62 (by rw [Try.ntmps62]; simp) ?_
  rw [Try.ntmps62, Try.results62]
  repeat' (first | refine a_seq fun K hK => ?_ | ((first | refine a_regionS ?_ | refine a_ret ?_); simp (maxSteps := 2000000) only [Ty.w, simprocAttr, k1, nsucc, putC]) | (refine a_skip ?_; try simp only [pst0, simprocAttr]) | (refine a_cond _ (by (try simp (maxSteps := 2000000) only [Ty.w, simprocAttr, k1, nsucc, putC]); rfl) (fun hb => ?_) (fun hb => ?_) <;> (try simp only [hb0, decide_eq_true_eq, decide_eq_false_iff_not, simprocAttr] at hb) <;> (try (exfalso; omega))) | (refine hK _ _ ?_; clear hK; try simp only [pst0, simprocAttr]))
  exact ⟨frz_agg (hfz _ _), g1.set (Nat.le_refl _) _⟩
 | false =>
  have hN : normalM (.mk opAtom name args params exprs kids) false = .mk opNot ⟨#[]⟩ [] [] [] [.mk opAtom name args params exprs kids] := rfl
  rw [hN]
  have hfz := fun (n : Nat) => fms_in n [.mk opAtom name args params exprs kids]
  simp only [Fm.cells, Fm.rows, Ex.rows, sr_nil, pr_nil] at hfz ⊢
  refine pcall_body (ow := fun _ => false) (wf := fun _ => false) Ty.mixed Try.func62 rfl Ty.hb_62 (by rw [Try.ntmps62]; simp) ?_
  rw [Try.ntmps62, Try.results62]
  repeat' (first | refine a_seq fun K hK => ?_ | ((first | refine a_regionS ?_ | refine a_ret ?_); simp (maxSteps := 2000000) only [Ty.w, simprocAttr, k1, nsucc, putC]) | (refine a_skip ?_; try simp only [pst0, simprocAttr]) | (refine a_cond _ (by (try simp (maxSteps := 2000000) only [Ty.w, simprocAttr, k1, nsucc, putC]); rfl) (fun hb => ?_) (fun hb => ?_) <;> (try simp only [hb0, decide_eq_true_eq, decide_eq_false_iff_not, simprocAttr] at hb) <;> (try (exfalso; omega))) | (refine hK _ _ ?_; clear hK; try simp only [pst0, simprocAttr]))
  exact ⟨frz_fm frz_nilslice frz_nilslice (frz_imm (hfz _)), g1.set (Nat.le_refl _) _⟩
theorem rnorm_same {name : ByteArray} {args : List ByteArray} {params : List Pm} {exprs : List Ex} {kids : List Fm} : RNormC (.mk opSame name args params exprs kids) := by
 intro s h
 refine PCall.frz Ty.hb_62 ?_
 have k1 : (opSame.data.toList == (#[97, 116, 111, 109] : Array UInt8).toList) = false := rfl
 have k2 : (opSame.data.toList == (#[115, 97, 109, 101] : Array UInt8).toList) = true := rfl
 have g1 : Grow h (h.new (.arr 6 [[.sc (.string ⟨#[]⟩), .sc (.string ⟨#[]⟩), .sc (.slice none 0 0), .sc (.slice none 0 0), .sc (.slice none 0 0), .sc (.slice none 0 0)]])) := (Grow.refl h).new _
 cases s with
 | true =>
  have hN : normalM (.mk opSame name args params exprs kids) true = .mk opSame name args params exprs kids := rfl
  rw [hN]
  have hfz := fun (n : Nat) (H : Heap) => fm_frz n H (.mk opSame name args params exprs kids)
  simp only [Fm.cells] at hfz ⊢
  refine pcall_body (ow := fun _ => false) (wf := fun _ => false) Ty.mixed Try.func62 rfl Ty.hb_62 (by rw [Try.ntmps62]; simp) ?_
  rw [Try.ntmps62, Try.results62]
  repeat' (first | refine a_seq fun K hK => ?_ | ((first | refine a_regionS ?_ | refine a_ret ?_); simp (maxSteps := 2000000) only [Ty.w, simprocAttr, k1, k2, nsucc, putC]) | (refine a_cond _ (by (try simp (maxSteps := 2000000) only [Ty.w, simprocAttr, k1, k2, nsucc, putC]); rfl) (fun hb => ?_) (fun hb => ?_) <;> (try simp only [hb0, decide_eq_true_eq, decide_eq_false_iff_not, simprocAttr] at hb) <;> (try (exfalso; omega))) | (refine hK _ _ ?_; clear hK; try simp only [pst0, simprocAttr]))
  exact ⟨frz_agg (hfz _ _), g1.set (Nat.le_refl _) _⟩
 | false =>
  have hN : normalM (.mk opSame name args params exprs kids) false = .mk opNot ⟨#[]⟩ [] [] [] [.mk opSame name args params exprs kids] := rfl
  rw [hN]
  have hfz := fun (n : Nat) => fms_in n [.mk opSame name args params exprs kids]
  simp only [Fm.cells, Fm.rows, Ex.rows, sr_nil, pr_nil] at hfz ⊢
  refine pcall_body (ow := fun _ => false) (wf := fun _ => false) Ty.mixed Try.func62 rfl Ty.hb_62 (by rw [Try.ntmps62]; simp) ?_
  rw [Try.ntmps62, Try.results62]
  repeat' (first | refine a_seq fun K hK => ?_ | ((first | refine a_regionS ?_ | refine a_ret ?_); simp (maxSteps := 2000000) only [Ty.w, simprocAttr, k1, k2, nsucc, putC]) | (refine a_skip ?_; try simp only [pst0, simprocAttr]) | (refine a_cond _ (by (try simp (maxSteps := 2000000) only [Ty.w, simprocAttr, k1, k2, nsucc, putC]); rfl) (fun hb => ?_) (fun hb => ?_) <;> (try simp only [hb0, decide_eq_true_eq, decide_eq_false_iff_not, simprocAttr] at hb) <;> (try (exfalso; omega))) | (refine hK _ _ ?_; clear hK; try simp only [pst0, simprocAttr]))
  exact ⟨frz_fm frz_nilslice frz_nilslice (frz_imm (hfz _)), g1.set (Nat.le_refl _) _⟩
theorem rnorm_lt {a b : Ex} : RNormC (cmpM opLt a b) := by
 intro s h
 refine PCall.frz Ty.hb_62 ?_
 have k1 : (opLt.data.toList == (#[97, 116, 111, 109] : Array UInt8).toList) = false := rfl
 have k2 : (opLt.data.toList == (#[115, 97, 109, 101] : Array UInt8).toList) = false := rfl
 have k3 : (opLt.data.toList == (#[60] : Array UInt8).toList) = true := rfl
 have e4 : (opLt.data.toList == (#[60, 61] : Array UInt8).toList) = false := rfl
 have g1 : Grow h (h.new (.arr 6 [[.sc (.string ⟨#[]⟩), .sc (.string ⟨#[]⟩), .sc (.slice none 0 0), .sc (.slice none 0 0), .sc (.slice none 0 0), .sc (.slice none 0 0)]])) := (Grow.refl h).new _
 cases s with
 | true =>
  show PCall _ _ _ _ fun r h' => FrzTo h.next h' (.agg (cmpM opLt a b).cells) r ∧ Grow h h'
  have hfz := fun (n : Nat) (H : Heap) => fm_frz n H (cmpM opLt a b)
  simp only [cmpM, Fm.cells, Fm.rows, Ex.rows, sr_nil, pr_nil] at hfz ⊢
  refine pcall_body (ow := fun _ => false) (wf := fun _ => false) Ty.mixed Try.func62 rfl Ty.hb_62 (by rw [Try.ntmps62]; simp) ?_
  rw [Try.ntmps62, Try.results62]
  repeat' (first | refine a_seq fun K hK => ?_ | ((first | refine a_regionS ?_ | refine a_ret ?_); simp (maxSteps := 2000000) only [Ty.w, simprocAttr, k1, k2, k3, nsucc, putC]) | (refine a_skip ?_; try simp only [pst0, simprocAttr]) | (refine a_cond _ (by (try simp (maxSteps := 2000000) only [Ty.w, simprocAttr, k1, k2, k3, nsucc, putC]); rfl) (fun hb => ?_) (fun hb => ?_) <;> (try simp only [hb0, decide_eq_true_eq, decide_eq_false_iff_not, simprocAttr] at hb) <;> (try (exfalso; omega))) | (refine hK _ _ ?_; clear hK; try simp only [pst0, simprocAttr]))
  exact ⟨frz_agg (hfz _ _), g1.set (Nat.le_refl _) _⟩
 | false =>
  show PCall _ _ _ _ fun r h' => FrzTo h.next h' (.agg (cmpM opLe b a).cells) r ∧ Grow h h'
  have hfz := fun (n : Nat) => exs_in n [b, a]
  obtain ⟨ao, an, av, aa, ak⟩ := a
  obtain ⟨bo, bn, bv, ba, bk⟩ := b
  simp only [cmpM, Fm.cells, Fm.rows, Ex.rows, Ex.cells, sr_nil, pr_nil] at hfz ⊢
  refine pcall_body (ow := fun _ => false) (wf := fun _ => false) Ty.mixed Try.func62 rfl Ty.hb_62 (by rw [Try.ntmps62]; simp) ?_
  rw [Try.ntmps62, Try.results62]
  repeat' (first | (with_reducible refine a_hold1 14 ?_) | (first | refine a_seq fun K hK => ?_ | (refine a_regionS ?_; simp (maxSteps := 2000000) only [Ty.w, simprocAttr, k1, k2, k3, e4, nsucc]) | (refine a_skip ?_; try simp only [pst0, simprocAttr]) | (refine a_cond _ (by (try simp (maxSteps := 2000000) only [Ty.w, simprocAttr, k1, k2, k3, e4, nsucc]); rfl) (fun hb => ?_) (fun hb => ?_) <;> (try simp only [hb0, decide_eq_true_eq, decide_eq_false_iff_not, simprocAttr] at hb) <;> (try (exfalso; omega))) | (refine hK _ _ ?_; clear hK; try simp only [pst0, simprocAttr])))
  refine ⟨?_⟩
  refine a_gen (fun S H => S 2 = .cptr [sPV opLt, sPV ⟨#[]⟩, .imm 1 [], .imm 2 [], .imm 5 [[sPV ao, sPV an, .sc (.int .i64 av), .imm 1 (strRows aa), .imm 5 (Ex.rows ak)], [sPV bo, sPV bn, .sc (.int .i64 bv), .imm 1 (strRows ba), .imm 5 (Ex.rows bk)]], .imm 6 []] ∧ S 4 = .ptr h.next 0 0 ∧ S 5 = sPV ⟨#[60, 61]⟩ ∧ H = h.new (.arr 6 [[.sc (.string ⟨#[]⟩), .sc (.string ⟨#[]⟩), .sc (.slice none 0 0), .sc (.slice none 0 0), .sc (.slice none 0 0), .sc (.slice none 0 0)]])) ?_ ?_
  ·simp only [Ty.w, simprocAttr, nsucc]
  rintro S H ⟨g2, g4, g5, rfl⟩
  repeat' (first | refine a_seq fun K hK => ?_ | (refine a_drawS (by decide +kernel) ?_; simp (maxSteps := 2000000) only [Ty.w, simprocAttr, g2, g4, g5, nsucc, putC]))
  refine a_past [10, 9, 8, 7, 6, 5, 4, 3, 2, 1, 0] rfl (by decide +kernel) ?_
  repeat' (first | (refine a_ret ?_; simp (maxSteps := 2000000) only [Ty.w, simprocAttr, g2, g4, g5, nsucc, putC]) | (refine hK _ _ ?_; clear hK; try simp only [pst0, simprocAttr]))
  exact ⟨frz_fm frz_nilslice (frz_imm (hfz _)) frz_nilslice, g1.set (Nat.le_refl _) _⟩
theorem rnorm_le {a b : Ex} : RNormC (cmpM opLe a b) := by
 intro s h
 refine PCall.frz Ty.hb_62 ?_
 have k1 : (opLe.data.toList == (#[97, 116, 111, 109] : Array UInt8).toList) = false := rfl
 have k2 : (opLe.data.toList == (#[115, 97, 109, 101] : Array UInt8).toList) = false := rfl
 have k3 : (opLe.data.toList == (#[60] : Array UInt8).toList) = false := rfl
 have k4 : (opLe.data.toList == (#[60, 61] : Array UInt8).toList) = true := rfl
 have e4 : (opLe.data.toList == (#[60, 61] : Array UInt8).toList) = true := rfl
 have g1 : Grow h (h.new (.arr 6 [[.sc (.string ⟨#[]⟩), .sc (.string ⟨#[]⟩), .sc (.slice none 0 0), .sc (.slice none 0 0), .sc (.slice none 0 0), .sc (.slice none 0 0)]])) := (Grow.refl h).new _
 cases s with
 | true =>
  show PCall _ _ _ _ fun r h' => FrzTo h.next h' (.agg (cmpM opLe a b).cells) r ∧ Grow h h'
  have hfz := fun (n : Nat) (H : Heap) => fm_frz n H (cmpM opLe a b)
  simp only [cmpM, Fm.cells, Fm.rows, Ex.rows, sr_nil, pr_nil] at hfz ⊢
  refine pcall_body (ow := fun _ => false) (wf := fun _ => false) Ty.mixed Try.func62 rfl Ty.hb_62 (by rw [Try.ntmps62]; simp) ?_
  rw [Try.ntmps62, Try.results62]
  repeat' (first | refine a_seq fun K hK => ?_ | ((first | refine a_regionS ?_ | refine a_ret ?_); simp (maxSteps := 2000000) only [Ty.w, simprocAttr, k1, k2, k3, k4, nsucc, putC]) | (refine a_cond _ (by (try simp (maxSteps := 2000000) only [Ty.w, simprocAttr, k1, k2, k3, k4, nsucc, putC]); rfl) (fun hb => ?_) (fun hb => ?_) <;> (try simp only [hb0, decide_eq_true_eq, decide_eq_false_iff_not, simprocAttr] at hb) <;> (try (exfalso; omega))) | (refine hK _ _ ?_; clear hK; try simp only [pst0, simprocAttr]))
  exact ⟨frz_agg (hfz _ _), g1.set (Nat.le_refl _) _⟩
 | false =>
  show PCall _ _ _ _ fun r h' => FrzTo h.next h' (.agg (cmpM opLt b a).cells) r ∧ Grow h h'
  have hfz := fun (n : Nat) => exs_in n [b, a]
  obtain ⟨ao, an, av, aa, ak⟩ := a
  obtain ⟨bo, bn, bv, ba, bk⟩ := b
  simp only [cmpM, Fm.cells, Fm.rows, Ex.rows, Ex.cells, sr_nil, pr_nil] at hfz ⊢
  refine pcall_body (ow := fun _ => false) (wf := fun _ => false) Ty.mixed Try.func62 rfl Ty.hb_62 (by rw [Try.ntmps62]; simp) ?_
  rw [Try.ntmps62, Try.results62]
  repeat' (first | (with_reducible refine a_hold1 14 ?_) | (first | refine a_seq fun K hK => ?_ | (refine a_regionS ?_; simp (maxSteps := 2000000) only [Ty.w, simprocAttr, k1, k2, k3, k4, e4, nsucc]) | (refine a_skip ?_; try simp only [pst0, simprocAttr]) | (refine a_cond _ (by (try simp (maxSteps := 2000000) only [Ty.w, simprocAttr, k1, k2, k3, k4, e4, nsucc]); rfl) (fun hb => ?_) (fun hb => ?_) <;> (try simp only [hb0, decide_eq_true_eq, decide_eq_false_iff_not, simprocAttr] at hb) <;> (try (exfalso; omega))) | (refine hK _ _ ?_; clear hK; try simp only [pst0, simprocAttr])))
  refine ⟨?_⟩
  refine a_gen (fun S H => S 2 = .cptr [sPV opLe, sPV ⟨#[]⟩, .imm 1 [], .imm 2 [], .imm 5 [[sPV ao, sPV an, .sc (.int .i64 av), .imm 1 (strRows aa), .imm 5 (Ex.rows ak)], [sPV bo, sPV bn, .sc (.int .i64 bv), .imm 1 (strRows ba), .imm 5 (Ex.rows bk)]], .imm 6 []] ∧ S 4 = .ptr h.next 0 0 ∧ S 5 = sPV ⟨#[60]⟩ ∧ H = h.new (.arr 6 [[.sc (.string ⟨#[]⟩), .sc (.string ⟨#[]⟩), .sc (.slice none 0 0), .sc (.slice none 0 0), .sc (.slice none 0 0), .sc (.slice none 0 0)]])) ?_ ?_
  ·simp only [Ty.w, simprocAttr, nsucc]
  rintro S H ⟨g2, g4, g5, rfl⟩
  repeat' (first | refine a_seq fun K hK => ?_ | (refine a_drawS (by decide +kernel) ?_; simp (maxSteps := 2000000) only [Ty.w, simprocAttr, g2, g4, g5, nsucc, putC]))
  refine a_past [10, 9, 8, 7, 6, 5, 4, 3, 2, 1, 0] rfl (by decide +kernel) ?_
  repeat' (first | (refine a_ret ?_; simp (maxSteps := 2000000) only [Ty.w, simprocAttr, g2, g4, g5, nsucc, putC]) | (refine hK _ _ ?_; clear hK; try simp only [pst0, simprocAttr]))
  exact ⟨frz_fm frz_nilslice (frz_imm (hfz _)) frz_nilslice, g1.set (Nat.le_refl _) _⟩
theorem rnorm_eq {a b : Ex} : RNormC (cmpM opEq a b) := by
 intro s h
 have k1 : (opEq.data.toList == (#[97, 116, 111, 109] : Array UInt8).toList) = false := rfl
 have k2 : (opEq.data.toList == (#[115, 97, 109, 101] : Array UInt8).toList) = false := rfl
 have k3 : (opEq.data.toList == (#[60] : Array UInt8).toList) = false := rfl
 have k4 : (opEq.data.toList == (#[60, 61] : Array UInt8).toList) = false := rfl
 have k5 : (opEq.data.toList == (#[61] : Array UInt8).toList) = true := rfl
 have g1 : Grow h (h.new (.arr 6 [[.sc (.string ⟨#[]⟩), .sc (.string ⟨#[]⟩), .sc (.slice none 0 0), .sc (.slice none 0 0), .sc (.slice none 0 0), .sc (.slice none 0 0)]])) := (Grow.refl h).new _
 cases s with
 | true =>
  show PCall _ _ _ _ fun r h' => r = (.agg (cmpM opEq a b).cells) ∧ h' = h
  refine PCall.frz Ty.hb_62 ?_
  have hfz := fun (n : Nat) (H : Heap) => fm_frz n H (cmpM opEq a b)
  simp only [cmpM, Fm.cells, Fm.rows, Ex.rows, sr_nil, pr_nil] at hfz ⊢
  refine pcall_body (ow := fun _ => false) (wf := fun _ => false) Ty.mixed Try.func62 rfl Ty.hb_62 (by rw [Try.ntmps62]; simp) ?_
  rw [Try.ntmps62, Try.results62]
  repeat' (first | refine a_seq fun K hK => ?_ | ((first | refine a_regionS ?_ | refine a_ret ?_); simp (maxSteps := 2000000) only [Ty.w, simprocAttr, k1, k2, k3, k4, k5, nsucc, putC]) | (refine a_cond _ (by (try simp (maxSteps := 2000000) only [Ty.w, simprocAttr, k1, k2, k3, k4, k5, nsucc, putC]); rfl) (fun hb => ?_) (fun hb => ?_) <;> (try simp only [hb0, decide_eq_true_eq, decide_eq_false_iff_not, simprocAttr] at hb) <;> (try (exfalso; omega))) | (refine hK _ _ ?_; clear hK; try simp only [pst0, simprocAttr]))
  exact ⟨frz_agg (hfz _ _), g1.set (Nat.le_refl _) _⟩
 | false =>
  have x1 := fun (n : Nat) => exs_in n [a, b]
  have x2 := fun (n : Nat) => exs_in n [b, a]
  show PCall _ _ _ _ fun r h' => r = (.agg (Fm.mk opOr ⟨#[]⟩ [] [] [] [cmpM opLt a b, cmpM opLt b a]).cells) ∧ h' = h
  have g2' : Grow h ((h.new (.arr 6 [[.sc (.string ⟨#[]⟩), .sc (.string ⟨#[]⟩), .sc (.slice none 0 0), .sc (.slice none 0 0), .sc (.slice none 0 0), .sc (.slice none 0 0)]])).new (.arr 6 [[.sc (.string ⟨#[]⟩), .sc (.string ⟨#[]⟩), .sc (.slice none 0 0), .sc (.slice none 0 0), .sc (.slice none 0 0), .sc (.slice none 0 0)]])) := ((Grow.refl h).new _).new _
  obtain ⟨ao, an, av, aa, ak⟩ := a
  obtain ⟨bo, bn, bv, ba, bk⟩ := b
  simp only [cmpM, Fm.cells, Fm.rows, Ex.rows, Ex.cells, sr_nil, pr_nil] at x1 x2 ⊢
  refine PCall.nzRes (q := .agg [sPV opOr, .sc (.string ⟨#[]⟩), .sc (.slice none 0 0), .sc (.slice none 0 0), .sc (.slice none 0 0), .imm 6 [[sPV opLt, .sc (.string ⟨#[]⟩), .sc (.slice none 0 0), .sc (.slice none 0 0), .imm 5 [[sPV ao, sPV an, .sc (.int .i64 av), .imm 1 (strRows aa), .imm 5 (Ex.rows ak)], [sPV bo, sPV bn, .sc (.int .i64 bv), .imm 1 (strRows ba), .imm 5 (Ex.rows bk)]], .sc (.slice none 0 0)], [sPV opLt, .sc (.string ⟨#[]⟩), .sc (.slice none 0 0), .sc (.slice none 0 0), .imm 5 [[sPV bo, sPV bn, .sc (.int .i64 bv), .imm 1 (strRows ba), .imm 5 (Ex.rows bk)], [sPV ao, sPV an, .sc (.int .i64 av), .imm 1 (strRows aa), .imm 5 (Ex.rows ak)]], .sc (.slice none 0 0)]]]) ?_ ?_
  ·have hrow : ∀ X : PV, NzL [sPV opLt, sPV ⟨#[]⟩, .imm 1 [], .imm 2 [], X, .imm 6 []] [sPV opLt, .sc (.string ⟨#[]⟩), .sc (.slice none 0 0), .sc (.slice none 0 0), X, .sc (.slice none 0 0)] := fun X => nz_cons (Nz.refl _) (nz_cons (Nz.refl _) (nz_cons nz_nil (nz_cons nz_nil (nz_cons (Nz.refl _) (nz_cons nz_nil (NzL.refl _))))))
   exact nz_agg (nz_cons (Nz.refl _) (nz_cons (Nz.refl _) (nz_cons nz_nil (nz_cons nz_nil (nz_cons nz_nil (nz_cons (nz_imm (nzr_cons (hrow _) (nzr_cons (hrow _) (NzR.refl _)))) (NzL.refl _)))))))
  refine PCall.frz Ty.hb_62 ?_
  refine pcall_body (ow := fun _ => false) (wf := fun _ => false) Ty.mixed Try.func62 rfl Ty.hb_62 (by rw [Try.ntmps62]; simp) ?_
  rw [Try.ntmps62, Try.results62]
  repeat' (first | (with_reducible refine a_hold1 18 ?_) | (first | refine a_seq fun K hK => ?_ | (refine a_regionS ?_; simp (maxSteps := 2000000) only [Ty.w, simprocAttr, k1, k2, k3, k4, k5, nsucc]) | (refine a_skip ?_; try simp only [pst0, simprocAttr]) | (refine a_cond _ (by (try simp (maxSteps := 2000000) only [Ty.w, simprocAttr, k1, k2, k3, k4, k5, nsucc]); rfl) (fun hb => ?_) (fun hb => ?_) <;> (try simp only [hb0, decide_eq_true_eq, decide_eq_false_iff_not, simprocAttr] at hb) <;> (try (exfalso; omega))) | (refine hK _ _ ?_; clear hK; try simp only [pst0, simprocAttr])))
  refine ⟨?_⟩
  refine a_gen (fun S H => S 2 = .cptr [sPV opEq, sPV ⟨#[]⟩, .imm 1 [], .imm 2 [], .imm 5 [[sPV ao, sPV an, .sc (.int .i64 av), .imm 1 (strRows aa), .imm 5 (Ex.rows ak)], [sPV bo, sPV bn, .sc (.int .i64 bv), .imm 1 (strRows ba), .imm 5 (Ex.rows bk)]], .imm 6 []] ∧ S 4 = .ptr h.next 0 0 ∧ H = h.new (.arr 6 [[.sc (.string ⟨#[]⟩), .sc (.string ⟨#[]⟩), .sc (.slice none 0 0), .sc (.slice none 0 0), .sc (.slice none 0 0), .sc (.slice none 0 0)]])) ?_ ?_
  ·simp only [Ty.w, simprocAttr, nsucc]
  rintro S H ⟨g2, g4, rfl⟩
  repeat' (first | (with_reducible refine a_hold1 19 ?_) | (first | refine a_seq fun K hK => ?_ | (refine a_drawS (by decide +kernel) ?_; simp (maxSteps := 2000000) only [Ty.w, simprocAttr, g2, g4, nsucc, putC])))
  refine a_past2 (by simp (maxSteps := 4000000) only [List.forall_mem_cons, Ty.w, simprocAttr, Ty.all, g2, g4, nsucc, putC]) ?_
  refine a_past [9, 8, 7, 6, 5, 4, 3, 2, 1, 0] rfl (by decide +kernel) ?_
  repeat' (first | (with_reducible refine a_hold1 19 ?_) | (first | (refine hK _ _ ?_; clear hK; try simp only [pst0, simprocAttr])))
  refine ⟨?_⟩
  refine a_gen (fun S H => S 2 = .cptr [sPV opEq, sPV ⟨#[]⟩, .imm 1 [], .imm 2 [], .imm 5 [[sPV ao, sPV an, .sc (.int .i64 av), .imm 1 (strRows aa), .imm 5 (Ex.rows ak)], [sPV bo, sPV bn, .sc (.int .i64 bv), .imm 1 (strRows ba), .imm 5 (Ex.rows bk)]], .imm 6 []] ∧ S 4 = .ptr h.next 0 0 ∧ S 6 = .ptr (h.next + 1) 0 0 ∧ H = ((h.new (.arr 6 [[.sc (.string ⟨#[]⟩), .sc (.string ⟨#[]⟩), .sc (.slice none 0 0), .sc (.slice none 0 0), .sc (.slice none 0 0), .sc (.slice none 0 0)]])).new (.arr 6 [[.sc (.string ⟨#[]⟩), .sc (.string ⟨#[]⟩), .sc (.slice none 0 0), .sc (.slice none 0 0), .sc (.slice none 0 0), .sc (.slice none 0 0)]])).set (h.next + 1) (.arr 6 [[sPV ⟨#[60]⟩, .sc (.string ⟨#[]⟩), .sc (.slice none 0 0), .sc (.slice none 0 0), .imm 5 [[sPV ao, sPV an, .sc (.int .i64 av), .imm 1 (strRows aa), .imm 5 (Ex.rows ak)], [sPV bo, sPV bn, .sc (.int .i64 bv), .imm 1 (strRows ba), .imm 5 (Ex.rows bk)]], .sc (.slice none 0 0)]])) ?_ ?_
  ·simp only [Ty.w, simprocAttr, g2, g4, nsucc, set_set]
  clear g2 g4
  rintro S H ⟨g2, g4, g6, rfl⟩
  have u2 : (h.next = h.next + 1 + 1) = False := eq_false (by omega)
  have u3 : (h.next + 1 = h.next + 1 + 1) = False := eq_false (by omega)
  repeat' (first | refine a_seq fun K hK => ?_ | (refine a_drawS (by decide +kernel) ?_; simp (maxSteps := 2000000) only [Ty.w, simprocAttr, g2, g4, g6, u2, u3, nsucc, putC]))
  refine a_past2 (by simp (maxSteps := 4000000) only [List.forall_mem_cons, Ty.w, simprocAttr, Ty.all, g2, g4, g6, u2, u3, nsucc, putC]) ?_
  refine a_past [9, 8, 7, 6, 5, 4, 3, 2, 1, 0] rfl (by decide +kernel) ?_
  repeat' (first | refine a_seq fun K hK => ?_ | ((first | refine a_regionS ?_ | refine a_ret ?_); simp (maxSteps := 2000000) only [Ty.w, simprocAttr, g2, g4, g6, u2, u3, nsucc, putC]) | (refine hK _ _ ?_; clear hK; try simp only [pst0, simprocAttr]))
  refine ⟨frz_agg ?_, ((((g2'.set (Nat.le_succ _) _).new _).set (Nat.le_add_right _ 2) _).set (Nat.le_refl _) _)⟩
  unfold FrzL; refine ⟨by unfold FrzTo; rfl, ?_⟩
  unfold FrzL; refine ⟨by unfold FrzTo; rfl, ?_⟩
  unfold FrzL; refine ⟨by unfold FrzTo; rfl, ?_⟩
  unfold FrzL; refine ⟨by unfold FrzTo; rfl, ?_⟩
  unfold FrzL; refine ⟨by unfold FrzTo; rfl, ?_⟩
  unfold FrzL; refine ⟨frz_imm ?_, by simp only [FrzL]⟩
  simpa only [inNR, inNL, inN, and_true, true_and] using And.intro (x1 h.next) (x2 h.next)
theorem rnorm_not {k : Fm} (ih : RNormC k) : RNormC (.mk opNot ⟨#[]⟩ [] [] [] [k]) := by
 intro s h
 show PCall _ _ _ _ fun r h' => r = .agg (normalM k (!s)).cells ∧ h' = h
 refine PCall.frz Ty.hb_62 ?_
 have hc := ih (!s)
 have hfz := fun (n : Nat) (H : Heap) => fm_frz n H (normalM k (!s))
 generalize normalM k (!s) = y at hc hfz ⊢
 obtain ⟨yo, yn, ya, yp, ye, yk⟩ := y
 obtain ⟨ko, kn, ka, kp, ke, kk⟩ := k
 simp only [Fm.cells, Fm.rows, Ex.rows, sr_nil, pr_nil] at hc hfz ⊢
 have k1 : (opNot.data.toList == (#[97, 116, 111, 109] : Array UInt8).toList) = false := rfl
 have k2 : (opNot.data.toList == (#[115, 97, 109, 101] : Array UInt8).toList) = false := rfl
 have k3 : (opNot.data.toList == (#[60] : Array UInt8).toList) = false := rfl
 have k4 : (opNot.data.toList == (#[60, 61] : Array UInt8).toList) = false := rfl
 have k5 : (opNot.data.toList == (#[61] : Array UInt8).toList) = false := rfl
 have k6 : (opNot.data.toList == (#[110, 111, 116] : Array UInt8).toList) = true := rfl
 refine pcall_body (ow := fun _ => false) (wf := fun _ => false) Ty.mixed Try.func62 rfl Ty.hb_62 (by rw [Try.ntmps62]; simp) ?_
 rw [Try.ntmps62, Try.results62]
 repeat' (first | refine a_seq fun K hK => ?_ | (refine a_regionS ?_; simp (maxSteps := 2000000) only [Ty.w, simprocAttr, k1, k2, k3, k4, k5, k6, nsucc]) | (refine a_cond _ (by (try simp (maxSteps := 2000000) only [Ty.w, simprocAttr, k1, k2, k3, k4, k5, k6, nsucc]); rfl) (fun hb => ?_) (fun hb => ?_) <;> (try simp only [hb0, decide_eq_true_eq, decide_eq_false_iff_not, simprocAttr] at hb) <;> (try (exfalso; omega))) | (refine hK _ _ ?_; clear hK; try simp only [pst0, simprocAttr]))
 refine owp_useQ (hc _) (by (try simp only [Ty.w, simprocAttr, k1, k2, k3, k4, k5, k6, nsucc]); try rfl) ?_; simp (maxSteps := 2000000) only [Ty.w, simprocAttr, k1, k2, k3, k4, k5, k6, nsucc]
 repeat' (first | (refine a_ret ?_; simp (maxSteps := 2000000) only [Ty.w, simprocAttr, nsucc, putC]) | (refine hK _ _ ?_; clear hK; try simp only [pst0, simprocAttr]))
 exact ⟨frz_agg (hfz _ _), ((Grow.refl h).new _).set (Nat.le_refl _) _⟩
end Go.Proofs.Ytjlkapgpjamnkaa
