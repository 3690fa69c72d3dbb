/- What the claim rests on, part 4: the abstract machine, contracts of the functions, plain data. -/
import Derived.Test.YtjlkapgpjamnkaaZr3
set_option linter.unusedVariables false
set_option linter.unusedSimpArgs false
set_option linter.unusedSectionVars false
namespace Go.Proofs.Ytjlkapgpjamnkaa
open Go.AM
set_option maxHeartbeats 2000000
set_option maxRecDepth 20000
def opObj : ByteArray := ⟨#[111, 98, 106, 101, 99, 116]⟩
def typedB (s : ByteArray) : Bool := nameB s || bEq s opObj
theorem typed_c {h : Heap} {s : ByteArray} (hs : s.size ≤ bigN) : PCall Try.prog 107 [sPV s] h fun r h' => r = .sc (.bool (typedB s)) ∧ h' = h := by
  have hs' : s.size ≤ 9223372036854775807 := by unfold bigN at hs; omega
  have hc := fun h : Heap => fname_c (h := h) hs'
  have hT : typedB s = (nameB s || (s.data.toList == (#[111, 98, 106, 101, 99, 116] : Array UInt8).toList)) := rfl
  rw [hT]
  generalize nameB s = b at hc ⊢
  cases b with
  | true =>
    refine pcall_body (ow := fun _ => false) (wf := fun _ => false) Ty.mixed Try.func107 rfl Ty.hb_107 (by rw [Try.ntmps107]; simp) ?_
    rw [Try.ntmps107, Try.results107]
    repeat' (first | (refine a_seq (fun K hK => ?_)) | (refine a_regionS ?_; simp (maxSteps := 2000000) only [Ty.w, simprocAttr]) | (refine hK _ _ ?_; clear hK; (try simp only [pst0, simprocAttr])))
    refine owp_useQ (hc _) (by (try simp only [Ty.w, simprocAttr, ]); try rfl) ?_; simp (maxSteps := 2000000) only [Ty.w, simprocAttr, ]
    repeat' (first | (refine a_ret ?_; simp (maxSteps := 2000000) only [Ty.w, simprocAttr]) | (refine hK _ _ ?_; clear hK; (try simp only [pst0, simprocAttr])))
    all_goals rfl
  | false =>
    refine pcall_body (ow := fun _ => false) (wf := fun _ => false) Ty.mixed Try.func107 rfl Ty.hb_107 (by rw [Try.ntmps107]; simp) ?_
    rw [Try.ntmps107, Try.results107]
    repeat' (first | (refine a_seq (fun K hK => ?_)) | (refine a_regionS ?_; simp (maxSteps := 2000000) only [Ty.w, simprocAttr]) | (refine hK _ _ ?_; clear hK; (try simp only [pst0, simprocAttr])))
    refine owp_useQ (hc _) (by (try simp only [Ty.w, simprocAttr, ]); try rfl) ?_; simp (maxSteps := 2000000) only [Ty.w, simprocAttr, ]
    repeat' (first | (refine a_ret ?_; simp (maxSteps := 2000000) only [Ty.w, simprocAttr]) | (refine hK _ _ ?_; clear hK; (try simp only [pst0, simprocAttr])))
    all_goals rfl
/-- the notation of a typed list -/
def paramsW : List Pm → List Sx
  | [] => []
  | p :: l => wordM p.name :: wordM ⟨#[45]⟩ :: wordM p.type :: paramsW l
theorem paramsW_append : ∀ l m : List Pm, paramsW (l ++ m) = paramsW l ++ paramsW m
  | [], m => rfl
  | p :: l, m => by simp only [List.cons_append, paramsW, paramsW_append l m]
theorem paramsW_len : ∀ l : List Pm, (paramsW l).length = 3 * l.length
  | [] => rfl
  | p :: l => by simp only [paramsW, List.length_cons, paramsW_len l]; omega
theorem tl_frzX {h : Heap} {id0 : Nat} {p : PV} {l : List Sx} (t : Tl h id0 6 p (Sx.rows l)) : FrzTo id0 h (.imm 6 (Sx.rows l)) p := by
  simp only [FrzTo]
  rcases t with ⟨h1, h2⟩ | ⟨id, h1, h2, rfl, ho⟩
  · exact .inr (.inl ⟨h1, h2.symm⟩)
  · refine .inr (.inr ⟨id, 0, _, _, rfl, h1, ho, by omega, ?_⟩)
    rw [List.drop_zero, List.take_of_length_le (by omega)]
    exact sxs_frz _ _ _
theorem writeParams_c {l : List Pm} (hl : l.length ≤ 1048576) (h : Heap) : PCall Try.prog 112 [.imm 2 (pmRows l)] h fun r h' => r = .imm 6 (Sx.rows (paramsW l)) ∧ h' = h := by
  refine PCall.frz Ty.hb_112 ?_
  have hll := pmRows_len l
  have hw : ∀ (s : ByteArray) (h : Heap), PCall Try.prog 111 [sPV s] h fun r h' => r = .agg (wordM s).cells ∧ h' = h := fun s h => word_c
  simp only [wordM, Sx.cells, Sx.rows] at hw
  refine pcall_body (ow := fun _ => false) (wf := fun _ => false) Ty.mixed Try.func112 rfl Ty.hb_112 (by rw [Try.ntmps112]; simp) ?_
  rw [Try.ntmps112, Try.results112]
  repeat' (first | (refine a_seq (fun K hK => ?_)) | (refine a_block ?_) | (refine a_regionS ?_; simp (maxSteps := 2000000) only [Ty.w, simprocAttr, hll]) | (refine hK _ _ ?_; clear hK; (try simp only [pst0, simprocAttr])))
  refine a_loop (fun m S h' => S 6 = .imm 2 (pmRows l) ∧ S 7 = .sc (.int .i64 l.length) ∧ ∃ (k : Nat) (o : PV), S 8 = .sc (.int .i64 k) ∧ S 3 = o ∧ k ≤ l.length ∧ m = l.length - k ∧ Grow h h' ∧ Tl h' h.next 6 o (Sx.rows (paramsW (l.take k)))) l.length ?_ ?_
  · simp only [Ty.w, simprocAttr]
    exact ⟨0, _, rfl, rfl, by omega, rfl, Grow.refl _, Tl.nil⟩
  · rintro m S h' ⟨g6, g7, k, o, g8, g3, hk, rfl, hg, tl⟩
    by_cases hlt : k < l.length
    · have hd : decide ((k : Int) < (l.length : Int)) = true := by simp; omega
      have w7 : IntKind.i64.wrap ((k : Int) + 1) = k + 1 := by rw [wrap64 (by omega) (by omega)]
      obtain ⟨p, hx⟩ : ∃ p, l[k]? = some p := ⟨_, List.getElem?_eq_getElem hlt⟩
      have hr := pmRows_get hx
      have tl2 := tl.up (h' := (h'.new (.arr 2 [[.sc (.string ⟨#[]⟩), .sc (.string ⟨#[]⟩)]])).set h'.next (.arr 2 [[sPV p.name, sPV p.type]])) (by simp [Heap.new, Heap.set]) (fun j _ hj => by simp only [Heap.new, Heap.set]; rw [if_neg (by omega), if_neg (by omega)])
      have hg2 : Grow h ((h'.new (.arr 2 [[.sc (.string ⟨#[]⟩), .sc (.string ⟨#[]⟩)]])).set h'.next (.arr 2 [[sPV p.name, sPV p.type]])) := (hg.new _).set hg.le _
      obtain ⟨H, t1, t2, t3, t4, t5⟩ := tl2.tail
      have hpr : (Sx.rows (paramsW (l.take k))).length = 3 * k := by rw [Sx.rows_len, paramsW_len, List.length_take]; omega
      have hb : (3 * k + 3) * 72 ≤ 140737488355328 := by omega
      have hR : Sx.rows (paramsW (l.take (k + 1))) = Sx.rows (paramsW (l.take k)) ++ [[.sc (.int .i64 1), .sc (.int .i64 0), .sc (.int .i64 0), .sc (.int .i64 0), sPV p.name, .imm 6 []], [.sc (.int .i64 1), .sc (.int .i64 0), .sc (.int .i64 0), .sc (.int .i64 0), sPV ⟨#[45]⟩, .imm 6 []], [.sc (.int .i64 1), .sc (.int .i64 0), .sc (.int .i64 0), .sc (.int .i64 0), sPV p.type, .imm 6 []]] := by
        rw [List.take_add_one, hx, paramsW_append]
        simp only [Sx.rows_map, List.map_append, Option.toList_some, paramsW, List.map_cons, List.map_nil, wordM, Sx.cells]
      generalize Sx.rows (paramsW (l.take k)) = R at tl tl2 t1 t2 hpr hR
      repeat' (first | (refine a_seq (fun K hK => ?_)) | ((first | refine a_regionS ?_ | refine a_draw (by decide +kernel) (fun K hK => ?_)); simp (maxSteps := 2000000) only [Ty.w, simprocAttr, g6, g7, g8, g3, hd, hr, hll]) | (refine a_skip ?_; (try simp only [pst0, simprocAttr])) | (refine a_cond _ (by (try simp (maxSteps := 2000000) only [Ty.w, simprocAttr, g6, g7, g8, g3, hd, hr, hll]); rfl) (fun hb => ?_) (fun hb => ?_) <;> (try simp only [hb0, decide_eq_true_eq, decide_eq_false_iff_not, simprocAttr] at hb) <;> (try (exfalso; omega))) | (refine hK _ _ ?_; clear hK; (try simp only [pst0, simprocAttr])))
      (first | refine a_dcall0 (hw p.name _) (by (try simp only [Ty.w, simprocAttr, g6, g7, g8, g3]); try rfl) ?_ | refine a_dcallA (hw p.name _) (by (try simp only [Ty.w, simprocAttr, g6, g7, g8, g3]); try rfl) (by simp only [Ty.w, simprocAttr, g6, g7, g8, g3]; try trivial) ?_); simp (maxSteps := 2000000) only [Ty.w, simprocAttr, Option.getD_some, g6, g7, g8, g3]
      skip
      (first | refine a_dcall0 (hw ⟨#[45]⟩ _) (by (try simp only [Ty.w, simprocAttr, g6, g7, g8, g3]); try rfl) ?_ | refine a_dcallA (hw ⟨#[45]⟩ _) (by (try simp only [Ty.w, simprocAttr, g6, g7, g8, g3]); try rfl) (by simp only [Ty.w, simprocAttr, g6, g7, g8, g3]; try trivial) ?_); simp (maxSteps := 2000000) only [Ty.w, simprocAttr, Option.getD_some, g6, g7, g8, g3]
      skip
      (first | refine a_dcall0 (hw p.type _) (by (try simp only [Ty.w, simprocAttr, g6, g7, g8, g3]); try rfl) ?_ | refine a_dcallA (hw p.type _) (by (try simp only [Ty.w, simprocAttr, g6, g7, g8, g3]); try rfl) (by simp only [Ty.w, simprocAttr, g6, g7, g8, g3]; try trivial) ?_); simp (maxSteps := 2000000) only [Ty.w, simprocAttr, Option.getD_some, g6, g7, g8, g3]
      repeat' (first | (refine a_regionS ?_; simp (maxSteps := 2000000) only [Ty.w, simprocAttr, g6, g7, g8, g3, w7, t1, t2, hpr, hb]) | (refine hK _ _ ?_; clear hK; (try simp only [pst0, simprocAttr])) | (with_reducible refine a_past2 (by simp only [List.forall_mem_cons, Ty.w, simprocAttr, g6, g7, g8, g3, w7, t1, t2, hpr, hb]; (repeat' apply And.intro) <;> first | trivial | exact .inl (by decide +kernel)) ?_; try simp (maxSteps := 2000000) only [Ty.w, simprocAttr, g6, g7, g8, g3, w7, t1, t2, hpr, hb]) | (rw [if_pos]; rotate_left 1; omega; simp (maxSteps := 2000000) only [Ty.w, simprocAttr, g6, g7, g8, g3, w7, t1, t2, hpr, hb]))
      have t3' : H.next = h'.next + 1 := by rw [t3]; simp [Heap.new, Heap.set]
      have hkp := t5 h ⟨hg2.le, hg2.old⟩ (Nat.le_refl _)
      have hgH : Grow h H := ⟨hkp.1, hkp.2⟩
      rw [← hR]
      have hRl : 3 * k + 3 = (Sx.rows (paramsW (l.take (k + 1)))).length := by rw [Sx.rows_len, paramsW_len, List.length_take]; omega
      exact ⟨l.length - (k + 1), by omega, k + 1, .own H.next 0 (3 * k + 3), by simp, by rw [t3'], by omega, rfl, hgH.new _, Tl.grow hkp.1 hRl⟩
    · have hd : decide ((k : Int) < (l.length : Int)) = false := by simp; omega
      have hke : k = l.length := by omega
      subst hke
      rw [List.take_length] at tl
      repeat' (first | (refine a_seq (fun K hK => ?_)) | ((first | refine a_regionS ?_ | refine a_ret ?_); simp (maxSteps := 2000000) only [Ty.w, simprocAttr, g6, g7, g8, g3, hd]) | (refine a_exit ?_; (try simp only [pst0, simprocAttr])) | (refine a_cond _ (by (try simp (maxSteps := 2000000) only [Ty.w, simprocAttr, g6, g7, g8, g3, hd]); rfl) (fun hb => ?_) (fun hb => ?_) <;> (try simp only [hb0, decide_eq_true_eq, decide_eq_false_iff_not, simprocAttr] at hb) <;> (try (exfalso; omega))) | ((first | refine hK _ _ ?_ | (clear hK; refine hK _ _ ?_)); clear hK; (try simp only [pst0, simprocAttr])))
      exact ⟨tl_frzX tl, hg⟩
end Go.Proofs.Ytjlkapgpjamnkaa
namespace Go.Proofs.Ytjlkapgpjamnkaa
open Go.AM
set_option maxHeartbeats 2000000
set_option maxRecDepth 20000
/-- how many other elements a notation has; -1 for any number -/
def countW (op : ByteArray) : Int :=
  if (op.data.toList == (#[110, 111, 116] : Array UInt8).toList) then 1
  else if (op.data.toList == (#[105, 109, 112, 108, 121] : Array UInt8).toList) then 2
  else if (op.data.toList == (#[102, 111, 114, 97, 108, 108] : Array UInt8).toList) then 2
  else if (op.data.toList == (#[101, 120, 105, 115, 116, 115] : Array UInt8).toList) then 2
  else if (op.data.toList == (#[61] : Array UInt8).toList) then 2
  else if (op.data.toList == (#[60] : Array UInt8).toList) then 2
  else if (op.data.toList == (#[60, 61] : Array UInt8).toList) then 2
  else if (op.data.toList == (#[62] : Array UInt8).toList) then 2
  else if (op.data.toList == (#[62, 61] : Array UInt8).toList) then 2
  else -1
theorem count_c {h : Heap} {op : ByteArray} : PCall Try.prog 114 [sPV op] h fun r h' => r = .sc (.int .i64 (countW op)) ∧ h' = h := by
  generalize hF : countW op = F
  unfold countW at hF
  cases c0 : (op.data.toList == (#[110, 111, 116] : Array UInt8).toList) with
  | true =>
    rw [c0] at hF
    simp only [if_true] at hF
    subst hF
    refine pcall_body (ow := fun _ => false) (wf := fun _ => false) Ty.mixed Try.func114 rfl Ty.hb_114 (by rw [Try.ntmps114]; simp) ?_
    rw [Try.ntmps114, Try.results114]
    repeat' (first | (refine a_seq (fun K hK => ?_)) | ((first | refine a_regionS ?_ | refine a_ret ?_); simp (maxSteps := 2000000) only [Ty.w, simprocAttr, c0]) | (refine hK _ _ ?_; clear hK; (try simp only [pst0, simprocAttr])))
  | false =>
    rw [c0] at hF
    simp only [Bool.false_eq_true, if_false] at hF
    cases c1 : (op.data.toList == (#[105, 109, 112, 108, 121] : Array UInt8).toList) with
    | true =>
      rw [c1] at hF
      simp only [if_true] at hF
      subst hF
      refine pcall_body (ow := fun _ => false) (wf := fun _ => false) Ty.mixed Try.func114 rfl Ty.hb_114 (by rw [Try.ntmps114]; simp) ?_
      rw [Try.ntmps114, Try.results114]
      repeat' (first | (refine a_seq (fun K hK => ?_)) | ((first | refine a_regionS ?_ | refine a_ret ?_); simp (maxSteps := 2000000) only [Ty.w, simprocAttr, c0, c1]) | (refine a_skip ?_; (try simp only [pst0, simprocAttr])) | (refine a_cond _ (by (try simp (maxSteps := 2000000) only [Ty.w, simprocAttr, c0, c1]); rfl) (fun hb => ?_) (fun hb => ?_) <;> (try simp only [hb0, decide_eq_true_eq, decide_eq_false_iff_not, simprocAttr] at hb) <;> (try (exfalso; omega))) | (refine hK _ _ ?_; clear hK; (try simp only [pst0, simprocAttr])))
    | false =>
      rw [c1] at hF
      simp only [Bool.false_eq_true, if_false] at hF
      cases c2 : (op.data.toList == (#[102, 111, 114, 97, 108, 108] : Array UInt8).toList) with
      | true =>
        rw [c2] at hF
        simp only [if_true] at hF
        subst hF
        refine pcall_body (ow := fun _ => false) (wf := fun _ => false) Ty.mixed Try.func114 rfl Ty.hb_114 (by rw [Try.ntmps114]; simp) ?_
        rw [Try.ntmps114, Try.results114]
        repeat' (first | (refine a_seq (fun K hK => ?_)) | ((first | refine a_regionS ?_ | refine a_ret ?_); simp (maxSteps := 2000000) only [Ty.w, simprocAttr, c0, c1, c2]) | (refine a_skip ?_; (try simp only [pst0, simprocAttr])) | (refine a_cond _ (by (try simp (maxSteps := 2000000) only [Ty.w, simprocAttr, c0, c1, c2]); rfl) (fun hb => ?_) (fun hb => ?_) <;> (try simp only [hb0, decide_eq_true_eq, decide_eq_false_iff_not, simprocAttr] at hb) <;> (try (exfalso; omega))) | (refine hK _ _ ?_; clear hK; (try simp only [pst0, simprocAttr])))
      | false =>
        rw [c2] at hF
        simp only [Bool.false_eq_true, if_false] at hF
        cases c3 : (op.data.toList == (#[101, 120, 105, 115, 116, 115] : Array UInt8).toList) with
        | true =>
          rw [c3] at hF
          simp only [if_true] at hF
          subst hF
          refine pcall_body (ow := fun _ => false) (wf := fun _ => false) Ty.mixed Try.func114 rfl Ty.hb_114 (by rw [Try.ntmps114]; simp) ?_
          rw [Try.ntmps114, Try.results114]
          repeat' (first | (refine a_seq (fun K hK => ?_)) | ((first | refine a_regionS ?_ | refine a_ret ?_); simp (maxSteps := 2000000) only [Ty.w, simprocAttr, c0, c1, c2, c3]) | (refine a_skip ?_; (try simp only [pst0, simprocAttr])) | (refine a_cond _ (by (try simp (maxSteps := 2000000) only [Ty.w, simprocAttr, c0, c1, c2, c3]); rfl) (fun hb => ?_) (fun hb => ?_) <;> (try simp only [hb0, decide_eq_true_eq, decide_eq_false_iff_not, simprocAttr] at hb) <;> (try (exfalso; omega))) | (refine hK _ _ ?_; clear hK; (try simp only [pst0, simprocAttr])))
        | false =>
          rw [c3] at hF
          simp only [Bool.false_eq_true, if_false] at hF
          cases c4 : (op.data.toList == (#[61] : Array UInt8).toList) with
          | true =>
            rw [c4] at hF
            simp only [if_true] at hF
            subst hF
            refine pcall_body (ow := fun _ => false) (wf := fun _ => false) Ty.mixed Try.func114 rfl Ty.hb_114 (by rw [Try.ntmps114]; simp) ?_
            rw [Try.ntmps114, Try.results114]
            repeat' (first | (refine a_seq (fun K hK => ?_)) | ((first | refine a_regionS ?_ | refine a_ret ?_); simp (maxSteps := 2000000) only [Ty.w, simprocAttr, c0, c1, c2, c3, c4]) | (refine a_skip ?_; (try simp only [pst0, simprocAttr])) | (refine a_cond _ (by (try simp (maxSteps := 2000000) only [Ty.w, simprocAttr, c0, c1, c2, c3, c4]); rfl) (fun hb => ?_) (fun hb => ?_) <;> (try simp only [hb0, decide_eq_true_eq, decide_eq_false_iff_not, simprocAttr] at hb) <;> (try (exfalso; omega))) | (refine hK _ _ ?_; clear hK; (try simp only [pst0, simprocAttr])))
          | false =>
            rw [c4] at hF
            simp only [Bool.false_eq_true, if_false] at hF
            cases c5 : (op.data.toList == (#[60] : Array UInt8).toList) with
            | true =>
              rw [c5] at hF
              simp only [if_true] at hF
              subst hF
              refine pcall_body (ow := fun _ => false) (wf := fun _ => false) Ty.mixed Try.func114 rfl Ty.hb_114 (by rw [Try.ntmps114]; simp) ?_
              rw [Try.ntmps114, Try.results114]
              repeat' (first | (refine a_seq (fun K hK => ?_)) | ((first | refine a_regionS ?_ | refine a_ret ?_); simp (maxSteps := 2000000) only [Ty.w, simprocAttr, c0, c1, c2, c3, c4, c5]) | (refine a_skip ?_; (try simp only [pst0, simprocAttr])) | (refine a_cond _ (by (try simp (maxSteps := 2000000) only [Ty.w, simprocAttr, c0, c1, c2, c3, c4, c5]); rfl) (fun hb => ?_) (fun hb => ?_) <;> (try simp only [hb0, decide_eq_true_eq, decide_eq_false_iff_not, simprocAttr] at hb) <;> (try (exfalso; omega))) | (refine hK _ _ ?_; clear hK; (try simp only [pst0, simprocAttr])))
            | false =>
              rw [c5] at hF
              simp only [Bool.false_eq_true, if_false] at hF
              cases c6 : (op.data.toList == (#[60, 61] : Array UInt8).toList) with
              | true =>
                rw [c6] at hF
                simp only [if_true] at hF
                subst hF
                refine pcall_body (ow := fun _ => false) (wf := fun _ => false) Ty.mixed Try.func114 rfl Ty.hb_114 (by rw [Try.ntmps114]; simp) ?_
                rw [Try.ntmps114, Try.results114]
                repeat' (first | (refine a_seq (fun K hK => ?_)) | ((first | refine a_regionS ?_ | refine a_ret ?_); simp (maxSteps := 2000000) only [Ty.w, simprocAttr, c0, c1, c2, c3, c4, c5, c6]) | (refine a_skip ?_; (try simp only [pst0, simprocAttr])) | (refine a_cond _ (by (try simp (maxSteps := 2000000) only [Ty.w, simprocAttr, c0, c1, c2, c3, c4, c5, c6]); rfl) (fun hb => ?_) (fun hb => ?_) <;> (try simp only [hb0, decide_eq_true_eq, decide_eq_false_iff_not, simprocAttr] at hb) <;> (try (exfalso; omega))) | (refine hK _ _ ?_; clear hK; (try simp only [pst0, simprocAttr])))
              | false =>
                rw [c6] at hF
                simp only [Bool.false_eq_true, if_false] at hF
                cases c7 : (op.data.toList == (#[62] : Array UInt8).toList) with
                | true =>
                  rw [c7] at hF
                  simp only [if_true] at hF
                  subst hF
                  refine pcall_body (ow := fun _ => false) (wf := fun _ => false) Ty.mixed Try.func114 rfl Ty.hb_114 (by rw [Try.ntmps114]; simp) ?_
                  rw [Try.ntmps114, Try.results114]
                  repeat' (first | (refine a_seq (fun K hK => ?_)) | ((first | refine a_regionS ?_ | refine a_ret ?_); simp (maxSteps := 2000000) only [Ty.w, simprocAttr, c0, c1, c2, c3, c4, c5, c6, c7]) | (refine a_skip ?_; (try simp only [pst0, simprocAttr])) | (refine a_cond _ (by (try simp (maxSteps := 2000000) only [Ty.w, simprocAttr, c0, c1, c2, c3, c4, c5, c6, c7]); rfl) (fun hb => ?_) (fun hb => ?_) <;> (try simp only [hb0, decide_eq_true_eq, decide_eq_false_iff_not, simprocAttr] at hb) <;> (try (exfalso; omega))) | (refine hK _ _ ?_; clear hK; (try simp only [pst0, simprocAttr])))
                | false =>
                  rw [c7] at hF
                  simp only [Bool.false_eq_true, if_false] at hF
                  cases c8 : (op.data.toList == (#[62, 61] : Array UInt8).toList) with
                  | true =>
                    rw [c8] at hF
                    simp only [if_true] at hF
                    subst hF
                    refine pcall_body (ow := fun _ => false) (wf := fun _ => false) Ty.mixed Try.func114 rfl Ty.hb_114 (by rw [Try.ntmps114]; simp) ?_
                    rw [Try.ntmps114, Try.results114]
                    repeat' (first | (refine a_seq (fun K hK => ?_)) | ((first | refine a_regionS ?_ | refine a_ret ?_); simp (maxSteps := 2000000) only [Ty.w, simprocAttr, c0, c1, c2, c3, c4, c5, c6, c7, c8]) | (refine a_cond _ (by (try simp (maxSteps := 2000000) only [Ty.w, simprocAttr, c0, c1, c2, c3, c4, c5, c6, c7, c8]); rfl) (fun hb => ?_) (fun hb => ?_) <;> (try simp only [hb0, decide_eq_true_eq, decide_eq_false_iff_not, simprocAttr] at hb) <;> (try (exfalso; omega))) | (refine hK _ _ ?_; clear hK; (try simp only [pst0, simprocAttr])))
                  | false =>
                    rw [c8] at hF
                    simp only [Bool.false_eq_true, if_false] at hF
                    subst hF
                    refine pcall_body (ow := fun _ => false) (wf := fun _ => false) Ty.mixed Try.func114 rfl Ty.hb_114 (by rw [Try.ntmps114]; simp) ?_
                    rw [Try.ntmps114, Try.results114]
                    repeat' (first | (refine a_seq (fun K hK => ?_)) | (refine a_block ?_) | ((first | refine a_regionS ?_ | refine a_ret ?_); simp (maxSteps := 2000000) only [Ty.w, simprocAttr, c0, c1, c2, c3, c4, c5, c6, c7, c8]) | (refine a_skip ?_; (try simp only [pst0, simprocAttr])) | (refine a_cond _ (by (try simp (maxSteps := 2000000) only [Ty.w, simprocAttr, c0, c1, c2, c3, c4, c5, c6, c7, c8]); rfl) (fun hb => ?_) (fun hb => ?_) <;> (try simp only [hb0, decide_eq_true_eq, decide_eq_false_iff_not, simprocAttr] at hb) <;> (try (exfalso; omega))) | (refine hK _ _ ?_; clear hK; (try simp only [pst0, simprocAttr])))
end Go.Proofs.Ytjlkapgpjamnkaa
namespace Go.Proofs.Ytjlkapgpjamnkaa
open Go.AM
def isPm (w : ByteArray) : Bool := bEq w opPls || bEq w opMin || bEq w opTim
def zeroEx : Ex := .mk ⟨#[]⟩ ⟨#[]⟩ 0 [] []
/-- the expression with a notation and 0, or an error's number -/
def exprP : Sx → Ex × Int
  | .mk kind value _ _ _ kids =>
    if kind = 2 then (.mk opNum ⟨#[]⟩ value [] [], 0)
    else if kind = 3 then (match kids with
      | x :: rest => bif kindOf x == 1 then
          (bif isPm (textOf x) then (match rest with
            | [a, b] => (match exprP a with
              | (ea, ca) => bif ca == 0 then (match exprP b with
                | (eb, cb) => bif cb == 0 then (.mk (textOf x) ⟨#[]⟩ 0 [] [ea, eb], 0) else (zeroEx, cb)) else (zeroEx, ca))
            | _ => (zeroEx, 2))
          else bif nameB (textOf x) then (match termsM rest with
            | (t, c) => bif c == 0 then (.mk opFlu (textOf x) 0 t [], 0) else (zeroEx, c)) else (zeroEx, 8))
        else (zeroEx, 2)
      | [] => (zeroEx, 2)) else (zeroEx, 2)
termination_by x => SizeOf.sizeOf x
decreasing_by all_goals (simp_wf; omega)
theorem bEq_eq {a b : ByteArray} (h : bEq a b = true) : a = b := ba_ext (by simpa [bEq] using h)
theorem termsM_words : ∀ l : List ByteArray, l.all termB = true → termsM (l.map wordM) = (l, 0)
  | [], _ => rfl
  | s :: l, h => by
    simp only [List.all_cons, Bool.and_eq_true] at h
    have h1 : kindOf (wordM s) = 1 := rfl
    have h2 : textOf (wordM s) = s := rfl
    simp only [List.map_cons, termsM, h1, h2, h.1, termsM_words l h.2, beq_self_eq_true, cond_true]
theorem name_not_pm {s : ByteArray} (h : nameB s = true) : isPm s = false := by
  have hb : bytesOkB s.data.toList = true := by
    unfold nameB at h
    simp only [Bool.and_eq_true] at h
    exact h.1.1.1
  have hn : ∀ c : UInt8, letB c = false → bEq s ⟨#[c]⟩ = false := by
    intro c hc
    cases he : bEq s ⟨#[c]⟩ with
    | false => rfl
    | true =>
      have := bEq_eq he
      subst this
      simp [bytesOkB, hc] at hb
  unfold isPm opPls opMin opTim
  rw [hn 43 (by decide), hn 45 (by decide), hn 42 (by decide)]; try rfl
theorem exprP_exW : ∀ e : Ex, shapedE e = true → exprP (exW e) = (e, 0) := by
  refine Ex.ind ?_
  intro op name v args kids ih hs
  unfold shapedE at hs
  unfold exW
  cases c1 : bEq op opNum with
  | true =>
    rw [c1] at hs
    simp only [if_true, Bool.and_eq_true, List.isEmpty_iff] at hs ⊢
    obtain ⟨⟨⟨h1, rfl⟩, rfl⟩, _⟩ := hs
    have h2 := bEq_eq c1
    have h3 : name = ⟨#[]⟩ := bEq_eq h1
    subst h2; subst h3
    unfold exprP
    simp
  | false =>
    rw [c1] at hs
    simp only [Bool.false_eq_true, if_false] at hs ⊢
    cases c2 : bEq op opFlu with
    | true =>
      rw [c2] at hs
      simp only [if_true, Bool.and_eq_true, List.isEmpty_iff, decide_eq_true_eq] at hs ⊢
      obtain ⟨⟨⟨rfl, rfl⟩, h1⟩, h2⟩ := hs
      have h3 := bEq_eq c2
      subst h3
      unfold exprP wordsM listM
      have k1 : kindOf (wordM name) = 1 := rfl
      have k2 : textOf (wordM name) = name := rfl
      simp only [List.map_cons, k1, k2, name_not_pm h1, h1, termsM_words args h2, beq_self_eq_true, cond_true, cond_false]
      simp
    | false =>
      rw [c2] at hs
      simp only [Bool.false_eq_true, if_false] at hs ⊢
      split at hs
      case isFalse => simp at hs
      rename_i hop
      simp only [Bool.and_eq_true, List.isEmpty_iff, decide_eq_true_eq] at hs
      obtain ⟨⟨⟨rfl, h1⟩, rfl⟩, h2⟩ := hs
      split at h2
      case h_2 => simp at h2
      rename_i a b
      simp only [Bool.and_eq_true] at h2
      have h3 : name = ⟨#[]⟩ := bEq_eq h1
      subst h3
      unfold exprP listM
      have k1 : kindOf (wordM op) = 1 := rfl
      have k2 : textOf (wordM op) = op := rfl
      have k3 : isPm op = true := hop
      simp only [k1, k2, k3, ih a (by simp) h2.1, ih b (by simp) h2.2, beq_self_eq_true, cond_true]
      simp
end Go.Proofs.Ytjlkapgpjamnkaa
namespace Go.Proofs.Ytjlkapgpjamnkaa
open Go.AM
set_option maxHeartbeats 4000000
set_option maxRecDepth 20000
theorem exprP_head (x : Sx) : exprP x = (bif kindOf x == 2 then (match x with | .mk _ v _ _ _ _ => (.mk opNum ⟨#[]⟩ v [] [], 0)) else (match headM x with
    | none => (zeroEx, 2)
    | some (w, rest) => bif isPm w then (match rest with
        | [a, b] => (match exprP a with
          | (ea, ca) => bif ca == 0 then (match exprP b with
            | (eb, cb) => bif cb == 0 then (.mk w ⟨#[]⟩ 0 [] [ea, eb], 0) else (zeroEx, cb)) else (zeroEx, ca))
        | _ => (zeroEx, 2))
      else bif nameB w then (match termsM rest with
        | (t, c) => bif c == 0 then (.mk opFlu w 0 t [], 0) else (zeroEx, c)) else (zeroEx, 8))) := by
  obtain ⟨kind, value, line, col, text, kids⟩ := x
  conv => lhs; unfold exprP
  have kk : kindOf (.mk kind value line col text kids) = kind := rfl
  rw [kk]
  simp only [headM]
  cases h2 : kind == 2 with
  | true =>
    rw [if_pos (by simpa using h2)]; try rfl
  | false =>
    rw [if_neg (by simpa using h2)]
    simp only [cond_false]
    by_cases h3 : kind = 3
    · rw [if_pos h3, if_pos h3]
      cases kids with
      | nil => rfl
      | cons y rest => cases hk : kindOf y == 1 <;> simp only [hk, cond_true, cond_false] <;> rfl
    · rw [if_neg h3, if_neg h3]
theorem headM_ok {x : Sx} {w : ByteArray} {rest : List Sx} (hok : x.ok) (h : headM x = some (w, rest)) : w.size ≤ bigN ∧ ∀ y ∈ rest, y.ok := by
  obtain ⟨kind, value, line, col, text, kids⟩ := x
  simp only [Sx.ok] at hok
  obtain ⟨_, _, _, _, hks⟩ := hok
  simp only [headM] at h
  split at h
  · cases kids with
    | nil => simp at h
    | cons y r =>
      simp only [Sx.oks] at hks
      simp only at h
      cases hk : kindOf y == 1 with
      | false => rw [hk] at h; simp at h
      | true =>
        rw [hk] at h
        simp only [cond_true, Option.some.injEq, Prod.mk.injEq] at h
        obtain ⟨rfl, rfl⟩ := h
        refine ⟨?_, Sx.oks_iff.1 hks.2⟩
        obtain ⟨_, _, _, _, t, _⟩ := y
        simp only [Sx.ok] at hks
        exact hks.1.2.2.1
  · simp at h
theorem ex_in (n : Nat) : ∀ e : Ex, inNL n e.cells := by
  have hs : ∀ l : List ByteArray, inNR n (strRows l) := by
    intro l
    induction l with
    | nil => simp only [strRows, List.map_nil, inNR]
    | cons a l ih => simp only [strRows, List.map_cons, inNR, inNL, inN, and_true, true_and] at ih ⊢; exact ih
  refine Ex.ind ?_
  intro op name v args kids ih
  have : inNR n (Ex.rows kids) := by
    clear op name v args
    induction kids with
    | nil => simp only [Ex.rows, inNR]
    | cons k ks ih2 =>
      simp only [Ex.rows, inNR]
      exact ⟨ih k (by simp), ih2 fun q hq => ih q (by simp [hq])⟩
  simp only [Ex.cells, inNL, inN, and_true, true_and]
  exact ⟨hs args, this⟩
theorem strs_in (n : Nat) (l : List ByteArray) : inNR n (strRows l) := by
  induction l with
  | nil => simp only [strRows, List.map_nil, inNR]
  | cons a l ih => simp only [strRows, List.map_cons, inNR, inNL, inN, and_true, true_and] at ih ⊢; exact ih
theorem expr_plain_c {x : Sx} (hok : x.ok) (hsm : ∀ w rest, headM x = some (w, rest) → rest.length ≤ 1048576) (hpm : kindOf x = 2 ∨ ∀ w rest, headM x = some (w, rest) → isPm w = false) (h : Heap) :
    PCall Try.prog 75 [.agg x.cells] h fun r h' => r = .tup [.agg (exprP x).1.cells, errP (exprP x).2] ∧ h' = h := by
  refine PCall.frz Ty.hb_75 ?_
  have hh := head_c hok
  have hX := exprP_head x
  generalize exprP x = F at hX
  have hho := fun w rest e => headM_ok (w := w) (rest := rest) hok e
  generalize headM x = M at hh hX hsm hpm hho
  obtain ⟨kind, value, line, col, text, kids⟩ := x
  have kk : kindOf (.mk kind value line col text kids) = kind := rfl
  rw [kk] at hX hpm
  simp only [Sx.cells] at hh ⊢
  cases k2 : (kind == 2) with
  | true =>
    simp only [k2, cond_true] at hX
    subst hX
    refine pcall_body (ow := fun _ => false) (wf := fun _ => false) Ty.mixed Try.func75 rfl Ty.hb_75 (by rw [Try.ntmps75]; simp) ?_
    rw [Try.ntmps75, Try.results75]
    repeat' (first | (refine a_seq (fun K hK => ?_)) | ((first | refine a_regionS ?_ | refine a_ret ?_); simp (maxSteps := 2000000) only [Ty.w, simprocAttr, k2]) | (refine hK _ _ ?_; clear hK; (try simp only [pst0, simprocAttr])))
    refine ⟨?_, ((Grow.refl h).new _).set (Nat.le_refl _) _⟩
    simp only [errP, beq_self_eq_true, cond_true, opNum, Ex.cells, Ex.rows, strRows, List.map_nil, FrzTo, FrzL]
    exact ⟨_, rfl, ⟨_, rfl, rfl, rfl, rfl, .inr (.inl ⟨rfl, .inr rfl⟩), .inr (.inl ⟨rfl, .inr rfl⟩), trivial⟩, rfl, trivial⟩
  | false =>
    have hk2 : ¬ kind = 2 := by simpa using k2
    simp only [k2, cond_false] at hX
    have hpm := hpm.resolve_left hk2
    cases M with
    | none =>
      simp only at hX
      subst hX
      simp only [headV] at hh
      refine pcall_body (ow := fun _ => false) (wf := fun _ => false) Ty.mixed Try.func75 rfl Ty.hb_75 (by rw [Try.ntmps75]; simp) ?_
      rw [Try.ntmps75, Try.results75]
      repeat' (first | (refine a_seq (fun K hK => ?_)) | (refine a_regionS ?_; simp (maxSteps := 2000000) only [Ty.w, simprocAttr, k2]) | (refine a_skip ?_; (try simp only [pst0, simprocAttr])) | (refine a_cond _ (by (try simp (maxSteps := 2000000) only [Ty.w, simprocAttr, k2]); rfl) (fun hb => ?_) (fun hb => ?_) <;> (try simp only [hb0, decide_eq_true_eq, decide_eq_false_iff_not, simprocAttr] at hb) <;> (try (exfalso; omega))) | (refine hK _ _ ?_; clear hK; (try simp only [pst0, simprocAttr])))
      refine owp_useQ (hh _) (by (try simp only [Ty.w, simprocAttr, k2, Bool.not_false]); try rfl) ?_; simp (maxSteps := 2000000) only [Ty.w, simprocAttr, k2, Bool.not_false]
      repeat' (first | (refine a_seq (fun K hK => ?_)) | ((first | refine a_regionS ?_ | refine a_ret ?_); simp (maxSteps := 2000000) only [Ty.w, simprocAttr, k2, Bool.not_false]) | (refine hK _ _ ?_; clear hK; (try simp only [pst0, simprocAttr])))
      refine ⟨?_, ((Grow.refl h).new _).set (Nat.le_refl _) _⟩
      have e2 : errP 2 = errV 2 := rfl
      simp only [e2, errV, zeroEx, Ex.cells, Ex.rows, strRows, List.map_nil, FrzTo, FrzL]
      exact ⟨_, rfl, ⟨_, rfl, rfl, rfl, rfl, .inr (.inl ⟨rfl, .inr rfl⟩), .inr (.inl ⟨rfl, .inr rfl⟩), trivial⟩, rfl, trivial⟩
    | some wr =>
      obtain ⟨w, rest⟩ := wr
      have hp := hpm w rest rfl
      obtain ⟨hw, hr⟩ := hho w rest rfl
      have hl := hsm w rest rfl
      have hw' : w.size ≤ 9223372036854775807 := by unfold bigN at hw; omega
      simp only [hp, cond_false] at hX
      simp only [headV] at hh
      have hp' := hp
      unfold isPm opPls opMin opTim bEq at hp'
      rw [Bool.or_eq_false_iff, Bool.or_eq_false_iff] at hp'
      obtain ⟨⟨p1, p2⟩, p3⟩ := hp'
      have hn := fun h : Heap => fname_c (h := h) hw'
      generalize nameB w = b at hn hX
      cases b with
      | false =>
        simp only [cond_false] at hX
        subst hX
        refine pcall_body (ow := fun _ => false) (wf := fun _ => false) Ty.mixed Try.func75 rfl Ty.hb_75 (by rw [Try.ntmps75]; simp) ?_
        rw [Try.ntmps75, Try.results75]
        repeat' (first | (refine a_seq (fun K hK => ?_)) | (refine a_regionS ?_; simp (maxSteps := 2000000) only [Ty.w, simprocAttr, k2]) | (refine a_skip ?_; (try simp only [pst0, simprocAttr])) | (refine a_cond _ (by (try simp (maxSteps := 2000000) only [Ty.w, simprocAttr, k2]); rfl) (fun hb => ?_) (fun hb => ?_) <;> (try simp only [hb0, decide_eq_true_eq, decide_eq_false_iff_not, simprocAttr] at hb) <;> (try (exfalso; omega))) | (refine hK _ _ ?_; clear hK; (try simp only [pst0, simprocAttr])))
        refine owp_useQ (hh _) (by (try simp only [Ty.w, simprocAttr, k2, Bool.not_true]); try rfl) ?_; simp (maxSteps := 2000000) only [Ty.w, simprocAttr, k2, Bool.not_true]
        repeat' (first | (refine a_seq (fun K hK => ?_)) | (refine a_regionS ?_; simp (maxSteps := 2000000) only [Ty.w, simprocAttr, k2, p1, p2, p3, Bool.not_true, Bool.not_false]) | (refine a_skip ?_; (try simp only [pst0, simprocAttr])) | (refine a_cond _ (by (try simp (maxSteps := 2000000) only [Ty.w, simprocAttr, k2, p1, p2, p3, Bool.not_true, Bool.not_false]); rfl) (fun hb => ?_) (fun hb => ?_) <;> (try simp only [hb0, decide_eq_true_eq, decide_eq_false_iff_not, simprocAttr] at hb) <;> (try (exfalso; omega))) | (refine hK _ _ ?_; clear hK; (try simp only [pst0, simprocAttr])))
        refine owp_useQ (hn _) (by (try simp only [Ty.w, simprocAttr, k2, Bool.not_false]); try rfl) ?_; simp (maxSteps := 2000000) only [Ty.w, simprocAttr, k2, Bool.not_false]
        repeat' (first | (refine a_seq (fun K hK => ?_)) | ((first | refine a_regionS ?_ | refine a_ret ?_); simp (maxSteps := 2000000) only [Ty.w, simprocAttr, k2, Bool.not_false]) | (refine hK _ _ ?_; clear hK; (try simp only [pst0, simprocAttr])))
        refine ⟨?_, ((Grow.refl h).new _).set (Nat.le_refl _) _⟩
        have e2 : errP 8 = errV 8 := rfl
        simp only [e2, errV, zeroEx, Ex.cells, Ex.rows, strRows, List.map_nil, FrzTo, FrzL]
        exact ⟨_, rfl, ⟨_, rfl, rfl, rfl, rfl, .inr (.inl ⟨rfl, .inr rfl⟩), .inr (.inl ⟨rfl, .inr rfl⟩), trivial⟩, rfl, trivial⟩
      | true =>
        simp only [cond_true] at hX
        have ht := terms_c hl hr
        generalize termsM rest = T at ht hX
        obtain ⟨t, c⟩ := T
        simp only at ht hX
        cases hc : c == 0 with
        | true =>
          rw [hc, cond_true] at hX
          subst hX
          have e0 : errP c = .sc .nilIface := by simp only [errP, hc, cond_true]
          rw [e0] at ht
          refine pcall_body (ow := fun _ => false) (wf := fun _ => false) Ty.mixed Try.func75 rfl Ty.hb_75 (by rw [Try.ntmps75]; simp) ?_
          rw [Try.ntmps75, Try.results75]
          repeat' (first | (refine a_seq (fun K hK => ?_)) | (refine a_regionS ?_; simp (maxSteps := 2000000) only [Ty.w, simprocAttr, k2]) | (refine a_skip ?_; (try simp only [pst0, simprocAttr])) | (refine a_cond _ (by (try simp (maxSteps := 2000000) only [Ty.w, simprocAttr, k2]); rfl) (fun hb => ?_) (fun hb => ?_) <;> (try simp only [hb0, decide_eq_true_eq, decide_eq_false_iff_not, simprocAttr] at hb) <;> (try (exfalso; omega))) | (refine hK _ _ ?_; clear hK; (try simp only [pst0, simprocAttr])))
          refine owp_useQ (hh _) (by (try simp only [Ty.w, simprocAttr, k2, Bool.not_true]); try rfl) ?_; simp (maxSteps := 2000000) only [Ty.w, simprocAttr, k2, Bool.not_true]
          repeat' (first | (refine a_seq (fun K hK => ?_)) | (refine a_regionS ?_; simp (maxSteps := 2000000) only [Ty.w, simprocAttr, k2, p1, p2, p3, Bool.not_true, Bool.not_false]) | (refine a_skip ?_; (try simp only [pst0, simprocAttr])) | (refine a_cond _ (by (try simp (maxSteps := 2000000) only [Ty.w, simprocAttr, k2, p1, p2, p3, Bool.not_true, Bool.not_false]); rfl) (fun hb => ?_) (fun hb => ?_) <;> (try simp only [hb0, decide_eq_true_eq, decide_eq_false_iff_not, simprocAttr] at hb) <;> (try (exfalso; omega))) | (refine hK _ _ ?_; clear hK; (try simp only [pst0, simprocAttr])))
          refine owp_useQ (hn _) (by (try simp only [Ty.w, simprocAttr, k2, Bool.not_true]); try rfl) ?_; simp (maxSteps := 2000000) only [Ty.w, simprocAttr, k2, Bool.not_true]
          repeat' (first | (refine a_seq (fun K hK => ?_)) | (refine a_regionS ?_; simp (maxSteps := 2000000) only [Ty.w, simprocAttr, k2, Bool.not_true]) | (refine a_skip ?_; (try simp only [pst0, simprocAttr])) | (refine a_cond _ (by (try simp (maxSteps := 2000000) only [Ty.w, simprocAttr, k2, Bool.not_true]); rfl) (fun hb => ?_) (fun hb => ?_) <;> (try simp only [hb0, decide_eq_true_eq, decide_eq_false_iff_not, simprocAttr] at hb) <;> (try (exfalso; omega))) | (refine hK _ _ ?_; clear hK; (try simp only [pst0, simprocAttr])))
          refine owp_useQ (ht _) (by (try simp only [Ty.w, simprocAttr, k2]); try rfl) ?_; simp (maxSteps := 2000000) only [Ty.w, simprocAttr, k2]
          repeat' (first | (refine a_seq (fun K hK => ?_)) | ((first | refine a_regionS ?_ | refine a_ret ?_); simp (maxSteps := 2000000) only [Ty.w, simprocAttr, k2, Bool.not_true]) | (refine a_skip ?_; (try simp only [pst0, simprocAttr])) | (refine a_cond _ (by (try simp (maxSteps := 2000000) only [Ty.w, simprocAttr, k2, Bool.not_true]); rfl) (fun hb => ?_) (fun hb => ?_) <;> (try simp only [hb0, decide_eq_true_eq, decide_eq_false_iff_not, simprocAttr] at hb) <;> (try (exfalso; omega))) | (refine hK _ _ ?_; clear hK; (try simp only [pst0, simprocAttr])))
          refine ⟨?_, ((Grow.refl h).new _).set (Nat.le_refl _) _⟩
          have e2 : errP 0 = .sc .nilIface := rfl
          rw [e2]
          simp only [opFlu, Ex.cells, Ex.rows, FrzTo, FrzL]
          exact ⟨_, rfl, ⟨_, rfl, rfl, rfl, rfl, .inl ⟨rfl, strs_in _ _⟩, .inr (.inl ⟨rfl, .inr rfl⟩), trivial⟩, rfl, trivial⟩
        | false =>
          rw [hc, cond_false] at hX
          subst hX
          have e0 : errP c = errV c := by simp only [errP, hc, cond_false]
          rw [e0] at ht ⊢
          simp only [errV] at ht ⊢
          refine pcall_body (ow := fun _ => false) (wf := fun _ => false) Ty.mixed Try.func75 rfl Ty.hb_75 (by rw [Try.ntmps75]; simp) ?_
          rw [Try.ntmps75, Try.results75]
          repeat' (first | (refine a_seq (fun K hK => ?_)) | (refine a_regionS ?_; simp (maxSteps := 2000000) only [Ty.w, simprocAttr, k2]) | (refine a_skip ?_; (try simp only [pst0, simprocAttr])) | (refine a_cond _ (by (try simp (maxSteps := 2000000) only [Ty.w, simprocAttr, k2]); rfl) (fun hb => ?_) (fun hb => ?_) <;> (try simp only [hb0, decide_eq_true_eq, decide_eq_false_iff_not, simprocAttr] at hb) <;> (try (exfalso; omega))) | (refine hK _ _ ?_; clear hK; (try simp only [pst0, simprocAttr])))
          refine owp_useQ (hh _) (by (try simp only [Ty.w, simprocAttr, k2, Bool.not_true]); try rfl) ?_; simp (maxSteps := 2000000) only [Ty.w, simprocAttr, k2, Bool.not_true]
          repeat' (first | (refine a_seq (fun K hK => ?_)) | (refine a_regionS ?_; simp (maxSteps := 2000000) only [Ty.w, simprocAttr, k2, p1, p2, p3, Bool.not_true, Bool.not_false]) | (refine a_skip ?_; (try simp only [pst0, simprocAttr])) | (refine a_cond _ (by (try simp (maxSteps := 2000000) only [Ty.w, simprocAttr, k2, p1, p2, p3, Bool.not_true, Bool.not_false]); rfl) (fun hb => ?_) (fun hb => ?_) <;> (try simp only [hb0, decide_eq_true_eq, decide_eq_false_iff_not, simprocAttr] at hb) <;> (try (exfalso; omega))) | (refine hK _ _ ?_; clear hK; (try simp only [pst0, simprocAttr])))
          refine owp_useQ (hn _) (by (try simp only [Ty.w, simprocAttr, k2, Bool.not_true]); try rfl) ?_; simp (maxSteps := 2000000) only [Ty.w, simprocAttr, k2, Bool.not_true]
          repeat' (first | (refine a_seq (fun K hK => ?_)) | (refine a_regionS ?_; simp (maxSteps := 2000000) only [Ty.w, simprocAttr, k2, Bool.not_true]) | (refine a_skip ?_; (try simp only [pst0, simprocAttr])) | (refine a_cond _ (by (try simp (maxSteps := 2000000) only [Ty.w, simprocAttr, k2, Bool.not_true]); rfl) (fun hb => ?_) (fun hb => ?_) <;> (try simp only [hb0, decide_eq_true_eq, decide_eq_false_iff_not, simprocAttr] at hb) <;> (try (exfalso; omega))) | (refine hK _ _ ?_; clear hK; (try simp only [pst0, simprocAttr])))
          refine owp_useQ (ht _) (by (try simp only [Ty.w, simprocAttr, k2]); try rfl) ?_; simp (maxSteps := 2000000) only [Ty.w, simprocAttr, k2]
          repeat' (first | (refine a_seq (fun K hK => ?_)) | ((first | refine a_regionS ?_ | refine a_ret ?_); simp (maxSteps := 2000000) only [Ty.w, simprocAttr, k2, Bool.not_false]) | (refine hK _ _ ?_; clear hK; (try simp only [pst0, simprocAttr])))
          refine ⟨?_, ((Grow.refl h).new _).set (Nat.le_refl _) _⟩
          simp only [zeroEx, Ex.cells, Ex.rows, strRows, List.map_nil, FrzTo, FrzL]
          exact ⟨_, rfl, ⟨_, rfl, rfl, rfl, rfl, .inr (.inl ⟨rfl, .inr rfl⟩), .inr (.inl ⟨rfl, .inr rfl⟩), trivial⟩, rfl, trivial⟩
end Go.Proofs.Ytjlkapgpjamnkaa
namespace Go.Proofs.Ytjlkapgpjamnkaa
open Go.AM
set_option maxHeartbeats 4000000
set_option maxRecDepth 20000
theorem nsucc (n : Nat) : (n = n + 1) = False := by simp
theorem fEqE_c {g : FuncId} {l m : List Ex} (hl : l.length ≤ bigN) (hf : ∀ a ∈ l, ∀ b ∈ m, ∀ h : Heap, PCall Try.prog g [.agg a.cells, .agg b.cells] h fun r h' => r = .sc (.bool (a.same b)) ∧ h' = h) (h : Heap) :
    PCall Try.prog 88 [.imm 5 (Ex.rows l), .imm 5 (Ex.rows m), .sc (.func (.func g) #[] #[])] h fun r h' => r = .sc (.bool (Ex.sames l m)) ∧ h' = h := by
  unfold bigN at hl
  have hll := Ex.rows_len l
  have hlm := Ex.rows_len m
  refine PCall.quiet Ty.hb_88 ?_
  refine pcall_body (ow := fun _ => false) (wf := fun _ => false) Ty.mixed Try.func88 rfl Ty.hb_88 (by rw [Try.ntmps88]; simp) ?_
  rw [Try.ntmps88, Try.results88]
  cases hne : ((l.length : Int) != m.length) with
  | true =>
    have : Ex.sames l m = false := Ex.sames_len (by simp at hne; omega)
    repeat' (first | (refine a_seq (fun K hK => ?_)) | ((first | refine a_regionS ?_ | refine a_ret ?_); simp (maxSteps := 2000000) only [Ty.w, simprocAttr, hll, hlm, hne]) | (refine hK _ _ ?_; clear hK; (try simp only [pst0, simprocAttr])))
    rw [this]
    exact ⟨rfl, Grow.refl _⟩
  | false =>
    have hlen : l.length = m.length := by simp at hne; omega
    repeat' (first | (refine a_seq (fun K hK => ?_)) | (refine a_block ?_) | (refine a_regionS ?_; simp (maxSteps := 2000000) only [Ty.w, simprocAttr, hll, hlm, hne]) | (refine a_skip ?_; (try simp only [pst0, simprocAttr])) | (refine a_cond _ (by (try simp (maxSteps := 2000000) only [Ty.w, simprocAttr, hll, hlm, hne]); rfl) (fun hb => ?_) (fun hb => ?_) <;> (try simp only [hb0, decide_eq_true_eq, decide_eq_false_iff_not, simprocAttr] at hb) <;> (try (exfalso; omega))) | (refine hK _ _ ?_; clear hK; (try simp only [pst0, simprocAttr])))
    refine a_loop (fun c S h' => Grow h h' ∧ S 1 = .imm 5 (Ex.rows m) ∧ S 2 = .sc (.func (.func g) #[] #[]) ∧ S 15 = .imm 5 (Ex.rows l) ∧ S 16 = .sc (.int .i64 l.length) ∧ ∃ k : Nat, S 17 = .sc (.int .i64 k) ∧ k ≤ l.length ∧ c = l.length - k ∧ Ex.sames l m = Ex.sames (l.drop k) (m.drop k)) l.length ?_ ?_
    · simp only [Ty.w, simprocAttr]
      exact ⟨Grow.refl _, 0, rfl, by omega, rfl, by simp⟩
    · rintro c S h' ⟨hg, g1, g2, g15, g16, k, gk, hkl, rfl, hinv⟩
      by_cases hlt : k < l.length
      · have hd : decide ((k : Int) < (l.length : Int)) = true := by simp; omega
        have w7 : IntKind.i64.wrap ((k : Int) + 1) = k + 1 := by rw [wrap64 (by omega) (by omega)]
        obtain ⟨a, hx⟩ : ∃ a, l[k]? = some a := ⟨_, List.getElem?_eq_getElem hlt⟩
        obtain ⟨b, hy⟩ : ∃ b, m[k]? = some b := ⟨_, List.getElem?_eq_getElem (by omega)⟩
        have hc := hf a (List.mem_of_getElem? hx) b (List.mem_of_getElem? hy)
        rw [drop_of_get hx, drop_of_get hy] at hinv
        simp only [Ex.sames] at hinv
        have hr := Ex.rows_get hx
        have hr2 := Ex.rows_get hy
        generalize he : a.same b = e at hc hinv
        clear he hf
        obtain ⟨op2, name2, n2, args2, kids2⟩ := a
        obtain ⟨op3, name3, n3, args3, kids3⟩ := b
        simp only [Ex.cells] at hr hr2 hc
        repeat' (first | (refine a_seq (fun K hK => ?_)) | (refine a_regionS ?_; simp (maxSteps := 2000000) only [Ty.w, simprocAttr, g1, g2, g15, g16, gk, hll, hlm, hd, hr, hr2, w7, nsucc]) | (refine a_skip ?_; (try simp only [pst0, simprocAttr])) | (refine a_cond _ (by (try simp (maxSteps := 2000000) only [Ty.w, simprocAttr, g1, g2, g15, g16, gk, hll, hlm, hd, hr, hr2, w7, nsucc]); rfl) (fun hb => ?_) (fun hb => ?_) <;> (try simp only [hb0, decide_eq_true_eq, decide_eq_false_iff_not, simprocAttr] at hb) <;> (try (exfalso; omega))) | (refine hK _ _ ?_; clear hK; (try simp only [pst0, simprocAttr])))
        refine owp_useV (by simp only [Ty.w, simprocAttr, g2]) (hc _) (by simp only [Ty.w, simprocAttr, g1, g2, g15, g16, gk]; try rfl) ?_
        simp (maxSteps := 2000000) only [Ty.w, simprocAttr, Ty.all]
        cases e with
        | false =>
          repeat' (first | (refine a_seq (fun K hK => ?_)) | ((first | refine a_regionS ?_ | refine a_ret ?_); simp (maxSteps := 2000000) only [Ty.w, simprocAttr, g1, g2, g15, g16, gk, w7, Bool.not_false]) | (refine hK _ _ ?_; clear hK; (try simp only [pst0, simprocAttr])))
          rw [hinv]
          exact ⟨rfl, (((hg.new _).set hg.le _).new _).set (Nat.le_succ_of_le hg.le) _⟩
        | true =>
          repeat' (first | (refine a_block ?_) | (refine a_regionS ?_; simp (maxSteps := 2000000) only [Ty.w, simprocAttr, g1, g2, g15, g16, gk, w7, Bool.not_true]) | (refine a_skip ?_; (try simp only [pst0, simprocAttr])) | (refine hK _ _ ?_; clear hK; (try simp only [pst0, simprocAttr])))
          rw [Bool.true_and] at hinv
          exact ⟨l.length - (k + 1), by omega, (((hg.new _).set hg.le _).new _).set (Nat.le_succ_of_le hg.le) _, k + 1, by simp, by omega, rfl, hinv⟩
      · have hd : decide ((k : Int) < (l.length : Int)) = false := by simp; omega
        rw [List.drop_eq_nil_of_le (by omega), List.drop_eq_nil_of_le (by omega)] at hinv
        simp only [Ex.sames] at hinv
        repeat' (first | (refine a_seq (fun K hK => ?_)) | ((first | refine a_regionS ?_ | refine a_ret ?_); simp (maxSteps := 2000000) only [Ty.w, simprocAttr, g1, g2, g15, g16, gk, hll, hd]) | (refine a_exit ?_; (try simp only [pst0, simprocAttr])) | (refine a_cond _ (by (try simp (maxSteps := 2000000) only [Ty.w, simprocAttr, g1, g2, g15, g16, gk, hll, hd]); rfl) (fun hb => ?_) (fun hb => ?_) <;> (try simp only [hb0, decide_eq_true_eq, decide_eq_false_iff_not, simprocAttr] at hb) <;> (try (exfalso; omega))) | ((first | refine hK _ _ ?_ | (clear hK; refine hK _ _ ?_)); clear hK; (try simp only [pst0, simprocAttr])))
        rw [hinv]
        exact ⟨rfl, hg⟩
theorem fsameE_c : ∀ a : Ex, a.ok → ∀ b : Ex, b.ok → ∀ h : Heap, PCall Try.prog 89 [.agg a.cells, .agg b.cells] h fun r h' => r = .sc (.bool (a.same b)) ∧ h' = h := by
  refine Ex.ind ?_
  intro op name n args kids ih hok
  rintro ⟨op3, name3, n3, args3, kids3⟩ hok3 h
  simp only [Ex.ok] at hok hok3
  obtain ⟨_, _, _, ⟨ha, _⟩, hk, hks⟩ := hok
  obtain ⟨_, _, _, ⟨ha3, _⟩, hk3, hks3⟩ := hok3
  rw [Ex.oks_iff] at hks hks3
  have hfk : ∀ a ∈ kids, ∀ b ∈ kids3, ∀ h : Heap, PCall Try.prog 89 [.agg a.cells, .agg b.cells] h fun r h' => r = .sc (.bool (a.same b)) ∧ h' = h := fun a ha b hb => ih a ha (hks a ha) b (hks3 b hb)
  clear ih
  simp only [Ex.cells]
  refine pcall_body (ow := fun _ => false) (wf := fun _ => false) Ty.mixed Try.func89 rfl Ty.hb_89 (by rw [Try.ntmps89]; simp) ?_
  rw [Try.ntmps89, Try.results89]
  cases e0 : (op.data.toList == op3.data.toList) with
  | false =>
    have hs : (Ex.mk op name n args kids).same (.mk op3 name3 n3 args3 kids3) = false := by simp only [Ex.same, bEq, e0, Bool.false_and, Bool.and_false]
    repeat' (first | (refine a_seq (fun K hK => ?_)) | ((first | refine a_regionS ?_ | refine a_ret ?_); simp (maxSteps := 2000000) only [Ty.w, simprocAttr, e0]) | (refine hK _ _ ?_; clear hK; (try simp only [pst0, simprocAttr])))
    rw [hs]
  | true =>
    cases e1 : (name.data.toList == name3.data.toList) with
    | false =>
      have hs : (Ex.mk op name n args kids).same (.mk op3 name3 n3 args3 kids3) = false := by simp only [Ex.same, bEq, e0, e1, Bool.false_and, Bool.and_false]
      repeat' (first | (refine a_seq (fun K hK => ?_)) | ((first | refine a_regionS ?_ | refine a_ret ?_); simp (maxSteps := 2000000) only [Ty.w, simprocAttr, e0, e1]) | (refine hK _ _ ?_; clear hK; (try simp only [pst0, simprocAttr])))
      rw [hs]
    | true =>
      cases e2 : (n == n3) with
      | false =>
        have hs : (Ex.mk op name n args kids).same (.mk op3 name3 n3 args3 kids3) = false := by simp only [Ex.same, bEq, e0, e1, e2, Bool.false_and, Bool.and_false]
        repeat' (first | (refine a_seq (fun K hK => ?_)) | ((first | refine a_regionS ?_ | refine a_ret ?_); simp (maxSteps := 2000000) only [Ty.w, simprocAttr, e0, e1, e2]) | (refine hK _ _ ?_; clear hK; (try simp only [pst0, simprocAttr])))
        rw [hs]
      | true =>
        repeat' (first | (refine a_seq (fun K hK => ?_)) | (refine a_regionS ?_; simp (maxSteps := 2000000) only [Ty.w, simprocAttr, e0, e1, e2]) | (refine hK _ _ ?_; clear hK; (try simp only [pst0, simprocAttr])))
        cases e3 : bsEq args args3 with
        | false =>
          have hs : (Ex.mk op name n args kids).same (.mk op3 name3 n3 args3 kids3) = false := by simp only [Ex.same, bEq, e0, e1, e2, e3, Bool.false_and, Bool.and_false]
          refine owp_useQ (ftexts_c (l := args) (m := args3) ha ha3) (by (try simp only [Ty.w, simprocAttr, e0, e1, e2, e3]); try rfl) ?_; simp (maxSteps := 2000000) only [Ty.w, simprocAttr, e0, e1, e2, e3]
          repeat' (first | (refine a_ret ?_; simp (maxSteps := 2000000) only [Ty.w, simprocAttr, e0, e1, e2, e3]) | (refine hK _ _ ?_; clear hK; (try simp only [pst0, simprocAttr])))
          rw [hs]
        | true =>
          refine owp_useQ (ftexts_c (l := args) (m := args3) ha ha3) (by (try simp only [Ty.w, simprocAttr, e0, e1, e2, e3]); try rfl) ?_; simp (maxSteps := 2000000) only [Ty.w, simprocAttr, e0, e1, e2, e3]
          skip
          have hs : (Ex.mk op name n args kids).same (.mk op3 name3 n3 args3 kids3) = Ex.sames kids kids3 := by simp only [Ex.same, bEq, e0, e1, e2, e3, Bool.true_and]
          refine owp_useQ (fEqE_c hk hfk _) (by (try simp only [Ty.w, simprocAttr, e0, e1, e2, e3]); try rfl) ?_; simp (maxSteps := 2000000) only [Ty.w, simprocAttr, e0, e1, e2, e3]
          repeat' (first | (refine a_ret ?_; simp (maxSteps := 2000000) only [Ty.w, simprocAttr, e0, e1, e2, e3]) | (refine hK _ _ ?_; clear hK; (try simp only [pst0, simprocAttr])))
          rw [hs]
theorem fEqF_c {g : FuncId} {l m : List Fm} (hl : l.length ≤ bigN) (hf : ∀ a ∈ l, ∀ b ∈ m, ∀ h : Heap, PCall Try.prog g [.agg a.cells, .agg b.cells] h fun r h' => r = .sc (.bool (a.same b)) ∧ h' = h) (h : Heap) :
    PCall Try.prog 90 [.imm 6 (Fm.rows l), .imm 6 (Fm.rows m), .sc (.func (.func g) #[] #[])] h fun r h' => r = .sc (.bool (Fm.sames l m)) ∧ h' = h := by
  unfold bigN at hl
  have hll := Fm.rows_len l
  have hlm := Fm.rows_len m
  refine PCall.quiet Ty.hb_90 ?_
  refine pcall_body (ow := fun _ => false) (wf := fun _ => false) Ty.mixed Try.func90 rfl Ty.hb_90 (by rw [Try.ntmps90]; simp) ?_
  rw [Try.ntmps90, Try.results90]
  cases hne : ((l.length : Int) != m.length) with
  | true =>
    have : Fm.sames l m = false := Fm.sames_len (by simp at hne; omega)
    repeat' (first | (refine a_seq (fun K hK => ?_)) | ((first | refine a_regionS ?_ | refine a_ret ?_); simp (maxSteps := 2000000) only [Ty.w, simprocAttr, hll, hlm, hne]) | (refine hK _ _ ?_; clear hK; (try simp only [pst0, simprocAttr])))
    rw [this]
    exact ⟨rfl, Grow.refl _⟩
  | false =>
    have hlen : l.length = m.length := by simp at hne; omega
    repeat' (first | (refine a_seq (fun K hK => ?_)) | (refine a_block ?_) | (refine a_regionS ?_; simp (maxSteps := 2000000) only [Ty.w, simprocAttr, hll, hlm, hne]) | (refine a_skip ?_; (try simp only [pst0, simprocAttr])) | (refine a_cond _ (by (try simp (maxSteps := 2000000) only [Ty.w, simprocAttr, hll, hlm, hne]); rfl) (fun hb => ?_) (fun hb => ?_) <;> (try simp only [hb0, decide_eq_true_eq, decide_eq_false_iff_not, simprocAttr] at hb) <;> (try (exfalso; omega))) | (refine hK _ _ ?_; clear hK; (try simp only [pst0, simprocAttr])))
    refine a_loop (fun c S h' => Grow h h' ∧ S 1 = .imm 6 (Fm.rows m) ∧ S 2 = .sc (.func (.func g) #[] #[]) ∧ S 15 = .imm 6 (Fm.rows l) ∧ S 16 = .sc (.int .i64 l.length) ∧ ∃ k : Nat, S 17 = .sc (.int .i64 k) ∧ k ≤ l.length ∧ c = l.length - k ∧ Fm.sames l m = Fm.sames (l.drop k) (m.drop k)) l.length ?_ ?_
    · simp only [Ty.w, simprocAttr]
      exact ⟨Grow.refl _, 0, rfl, by omega, rfl, by simp⟩
    · rintro c S h' ⟨hg, g1, g2, g15, g16, k, gk, hkl, rfl, hinv⟩
      by_cases hlt : k < l.length
      · have hd : decide ((k : Int) < (l.length : Int)) = true := by simp; omega
        have w7 : IntKind.i64.wrap ((k : Int) + 1) = k + 1 := by rw [wrap64 (by omega) (by omega)]
        obtain ⟨a, hx⟩ : ∃ a, l[k]? = some a := ⟨_, List.getElem?_eq_getElem hlt⟩
        obtain ⟨b, hy⟩ : ∃ b, m[k]? = some b := ⟨_, List.getElem?_eq_getElem (by omega)⟩
        have hc := hf a (List.mem_of_getElem? hx) b (List.mem_of_getElem? hy)
        rw [drop_of_get hx, drop_of_get hy] at hinv
        simp only [Fm.sames] at hinv
        have hr := Fm.rows_get hx
        have hr2 := Fm.rows_get hy
        generalize he : a.same b = e at hc hinv
        clear he hf
        obtain ⟨op2, name2, args2, params2, exprs2, kids2⟩ := a
        obtain ⟨op3, name3, args3, params3, exprs3, kids3⟩ := b
        simp only [Fm.cells] at hr hr2 hc
        repeat' (first | (refine a_seq (fun K hK => ?_)) | (refine a_regionS ?_; simp (maxSteps := 2000000) only [Ty.w, simprocAttr, g1, g2, g15, g16, gk, hll, hlm, hd, hr, hr2, w7, nsucc]) | (refine a_skip ?_; (try simp only [pst0, simprocAttr])) | (refine a_cond _ (by (try simp (maxSteps := 2000000) only [Ty.w, simprocAttr, g1, g2, g15, g16, gk, hll, hlm, hd, hr, hr2, w7, nsucc]); rfl) (fun hb => ?_) (fun hb => ?_) <;> (try simp only [hb0, decide_eq_true_eq, decide_eq_false_iff_not, simprocAttr] at hb) <;> (try (exfalso; omega))) | (refine hK _ _ ?_; clear hK; (try simp only [pst0, simprocAttr])))
        refine owp_useV (by simp only [Ty.w, simprocAttr, g2]) (hc _) (by simp only [Ty.w, simprocAttr, g1, g2, g15, g16, gk]; try rfl) ?_
        simp (maxSteps := 2000000) only [Ty.w, simprocAttr, Ty.all]
        cases e with
        | false =>
          repeat' (first | (refine a_seq (fun K hK => ?_)) | ((first | refine a_regionS ?_ | refine a_ret ?_); simp (maxSteps := 2000000) only [Ty.w, simprocAttr, g1, g2, g15, g16, gk, w7, Bool.not_false]) | (refine hK _ _ ?_; clear hK; (try simp only [pst0, simprocAttr])))
          rw [hinv]
          exact ⟨rfl, (((hg.new _).set hg.le _).new _).set (Nat.le_succ_of_le hg.le) _⟩
        | true =>
          repeat' (first | (refine a_block ?_) | (refine a_regionS ?_; simp (maxSteps := 2000000) only [Ty.w, simprocAttr, g1, g2, g15, g16, gk, w7, Bool.not_true]) | (refine a_skip ?_; (try simp only [pst0, simprocAttr])) | (refine hK _ _ ?_; clear hK; (try simp only [pst0, simprocAttr])))
          rw [Bool.true_and] at hinv
          exact ⟨l.length - (k + 1), by omega, (((hg.new _).set hg.le _).new _).set (Nat.le_succ_of_le hg.le) _, k + 1, by simp, by omega, rfl, hinv⟩
      · have hd : decide ((k : Int) < (l.length : Int)) = false := by simp; omega
        rw [List.drop_eq_nil_of_le (by omega), List.drop_eq_nil_of_le (by omega)] at hinv
        simp only [Fm.sames] at hinv
        repeat' (first | (refine a_seq (fun K hK => ?_)) | ((first | refine a_regionS ?_ | refine a_ret ?_); simp (maxSteps := 2000000) only [Ty.w, simprocAttr, g1, g2, g15, g16, gk, hll, hd]) | (refine a_exit ?_; (try simp only [pst0, simprocAttr])) | (refine a_cond _ (by (try simp (maxSteps := 2000000) only [Ty.w, simprocAttr, g1, g2, g15, g16, gk, hll, hd]); rfl) (fun hb => ?_) (fun hb => ?_) <;> (try simp only [hb0, decide_eq_true_eq, decide_eq_false_iff_not, simprocAttr] at hb) <;> (try (exfalso; omega))) | ((first | refine hK _ _ ?_ | (clear hK; refine hK _ _ ?_)); clear hK; (try simp only [pst0, simprocAttr])))
        rw [hinv]
        exact ⟨rfl, hg⟩
theorem fsame_c : ∀ a : Fm, a.ok → ∀ b : Fm, b.ok → ∀ h : Heap, PCall Try.prog 49 [.agg a.cells, .agg b.cells] h fun r h' => r = .sc (.bool (a.same b)) ∧ h' = h := by
  refine Fm.ind ?_
  intro op name args params exprs kids ih hok
  rintro ⟨op3, name3, args3, params3, exprs3, kids3⟩ hok3 h
  simp only [Fm.ok] at hok hok3
  obtain ⟨_, _, ⟨ha, _⟩, ⟨hp, _⟩, ⟨he, hes⟩, hk, hks⟩ := hok
  obtain ⟨_, _, ⟨ha3, _⟩, ⟨hp3, _⟩, ⟨he3, hes3⟩, hk3, hks3⟩ := hok3
  rw [Fm.oks_iff] at hks hks3
  have hfk : ∀ a ∈ kids, ∀ b ∈ kids3, ∀ h : Heap, PCall Try.prog 49 [.agg a.cells, .agg b.cells] h fun r h' => r = .sc (.bool (a.same b)) ∧ h' = h := fun a ha b hb => ih a ha (hks a ha) b (hks3 b hb)
  rw [Ex.oks_iff] at hes hes3
  have hfe : ∀ a ∈ exprs, ∀ b ∈ exprs3, ∀ h : Heap, PCall Try.prog 89 [.agg a.cells, .agg b.cells] h fun r h' => r = .sc (.bool (a.same b)) ∧ h' = h := fun a ha b hb => fsameE_c a (hes a ha) b (hes3 b hb)
  clear ih
  simp only [Fm.cells]
  refine pcall_body (ow := fun _ => false) (wf := fun _ => false) Ty.mixed Try.func49 rfl Ty.hb_49 (by rw [Try.ntmps49]; simp) ?_
  rw [Try.ntmps49, Try.results49]
  cases e0 : (op.data.toList == op3.data.toList) with
  | false =>
    have hs : (Fm.mk op name args params exprs kids).same (.mk op3 name3 args3 params3 exprs3 kids3) = false := by simp only [Fm.same, bEq, e0, Bool.false_and, Bool.and_false]
    repeat' (first | (refine a_seq (fun K hK => ?_)) | ((first | refine a_regionS ?_ | refine a_ret ?_); simp (maxSteps := 2000000) only [Ty.w, simprocAttr, e0]) | (refine hK _ _ ?_; clear hK; (try simp only [pst0, simprocAttr])))
    rw [hs]
  | true =>
    cases e1 : (name.data.toList == name3.data.toList) with
    | false =>
      have hs : (Fm.mk op name args params exprs kids).same (.mk op3 name3 args3 params3 exprs3 kids3) = false := by simp only [Fm.same, bEq, e0, e1, Bool.false_and, Bool.and_false]
      repeat' (first | (refine a_seq (fun K hK => ?_)) | ((first | refine a_regionS ?_ | refine a_ret ?_); simp (maxSteps := 2000000) only [Ty.w, simprocAttr, e0, e1]) | (refine hK _ _ ?_; clear hK; (try simp only [pst0, simprocAttr])))
      rw [hs]
    | true =>
      repeat' (first | (refine a_seq (fun K hK => ?_)) | (refine a_regionS ?_; simp (maxSteps := 2000000) only [Ty.w, simprocAttr, e0, e1]) | (refine hK _ _ ?_; clear hK; (try simp only [pst0, simprocAttr])))
      cases e2 : bsEq args args3 with
      | false =>
        have hs : (Fm.mk op name args params exprs kids).same (.mk op3 name3 args3 params3 exprs3 kids3) = false := by simp only [Fm.same, bEq, e0, e1, e2, Bool.false_and, Bool.and_false]
        refine owp_useQ (ftexts_c (l := args) (m := args3) ha ha3) (by (try simp only [Ty.w, simprocAttr, e0, e1, e2]); try rfl) ?_; simp (maxSteps := 2000000) only [Ty.w, simprocAttr, e0, e1, e2]
        repeat' (first | (refine a_ret ?_; simp (maxSteps := 2000000) only [Ty.w, simprocAttr, e0, e1, e2]) | (refine hK _ _ ?_; clear hK; (try simp only [pst0, simprocAttr])))
        rw [hs]
      | true =>
        refine owp_useQ (ftexts_c (l := args) (m := args3) ha ha3) (by (try simp only [Ty.w, simprocAttr, e0, e1, e2]); try rfl) ?_; simp (maxSteps := 2000000) only [Ty.w, simprocAttr, e0, e1, e2]
        skip
        cases e3 : pmsEq params params3 with
        | false =>
          have hs : (Fm.mk op name args params exprs kids).same (.mk op3 name3 args3 params3 exprs3 kids3) = false := by simp only [Fm.same, bEq, e0, e1, e2, e3, Bool.false_and, Bool.and_false]
          refine owp_useQ (fparams_c (l := params) (m := params3) hp hp3) (by (try simp only [Ty.w, simprocAttr, e0, e1, e2, e3]); try rfl) ?_; simp (maxSteps := 2000000) only [Ty.w, simprocAttr, e0, e1, e2, e3]
          repeat' (first | (refine a_ret ?_; simp (maxSteps := 2000000) only [Ty.w, simprocAttr, e0, e1, e2, e3]) | (refine hK _ _ ?_; clear hK; (try simp only [pst0, simprocAttr])))
          rw [hs]
        | true =>
          refine owp_useQ (fparams_c (l := params) (m := params3) hp hp3) (by (try simp only [Ty.w, simprocAttr, e0, e1, e2, e3]); try rfl) ?_; simp (maxSteps := 2000000) only [Ty.w, simprocAttr, e0, e1, e2, e3]
          skip
          cases e4 : Ex.sames exprs exprs3 with
          | false =>
            have hs : (Fm.mk op name args params exprs kids).same (.mk op3 name3 args3 params3 exprs3 kids3) = false := by simp only [Fm.same, bEq, e0, e1, e2, e3, e4, Bool.false_and, Bool.and_false]
            refine owp_useQ (fEqE_c he hfe _) (by (try simp only [Ty.w, simprocAttr, e0, e1, e2, e3, e4]); try rfl) ?_; simp (maxSteps := 2000000) only [Ty.w, simprocAttr, e0, e1, e2, e3, e4]
            repeat' (first | (refine a_ret ?_; simp (maxSteps := 2000000) only [Ty.w, simprocAttr, e0, e1, e2, e3, e4]) | (refine hK _ _ ?_; clear hK; (try simp only [pst0, simprocAttr])))
            rw [hs]
          | true =>
            refine owp_useQ (fEqE_c he hfe _) (by (try simp only [Ty.w, simprocAttr, e0, e1, e2, e3, e4]); try rfl) ?_; simp (maxSteps := 2000000) only [Ty.w, simprocAttr, e0, e1, e2, e3, e4]
            skip
            have hs : (Fm.mk op name args params exprs kids).same (.mk op3 name3 args3 params3 exprs3 kids3) = Fm.sames kids kids3 := by simp only [Fm.same, bEq, e0, e1, e2, e3, e4, Bool.true_and]
            refine owp_useQ (fEqF_c hk hfk _) (by (try simp only [Ty.w, simprocAttr, e0, e1, e2, e3, e4]); try rfl) ?_; simp (maxSteps := 2000000) only [Ty.w, simprocAttr, e0, e1, e2, e3, e4]
            repeat' (first | (refine a_ret ?_; simp (maxSteps := 2000000) only [Ty.w, simprocAttr, e0, e1, e2, e3, e4]) | (refine hK _ _ ?_; clear hK; (try simp only [pst0, simprocAttr])))
            rw [hs]
end Go.Proofs.Ytjlkapgpjamnkaa
namespace Go.AM
mutual
def Sx.small : Sx → Prop
  | .mk _ _ _ _ _ kids => kids.length ≤ 1048576 ∧ Sx.smalls kids
def Sx.smalls : List Sx → Prop
  | [] => True
  | k :: ks => k.small ∧ Sx.smalls ks
end
theorem Sx.smalls_iff : {l : List Sx} → (Sx.smalls l ↔ ∀ k ∈ l, k.small)
  | [] => by simp [Sx.smalls]
  | k :: ks => by simp [Sx.smalls, Sx.smalls_iff (l := ks)]
end Go.AM
namespace Go.Proofs.Ytjlkapgpjamnkaa
open Go.AM
set_option maxHeartbeats 4000000
set_option maxRecDepth 20000
/-- the expressions of a list, or an error's number -/
def exprsP : List Sx → List Ex × Int
  | [] => ([], 0)
  | x :: l => bif (exprP x).2 == 0 then (match exprsP l with
    | (es, c) => bif c == 0 then ((exprP x).1 :: es, 0) else ([], c)) else ([], (exprP x).2)
theorem exprsP_code : ∀ l : List Sx, ((exprsP l).2 == 0) = true → (exprsP l).2 = 0 := fun l h => by simpa using h
theorem exprsP_nil : ∀ l : List Sx, ((exprsP l).2 == 0) = false → (exprsP l).1 = []
  | [], h => by simp [exprsP] at h
  | x :: l, h => by
    simp only [exprsP] at h ⊢
    cases hq : (exprP x).2 == 0 with
    | false => rfl
    | true =>
      rw [hq] at h
      simp only [cond_true] at h ⊢
      cases hr : (exprsP l).2 == 0 with
      | false => rfl
      | true => rw [hr] at h; simp at h
theorem exprsP_two (w : ByteArray) (rest : List Sx) : rest.length = 2 → (match rest with
        | [a, b] => (match exprP a with
          | (ea, ca) => bif ca == 0 then (match exprP b with
            | (eb, cb) => bif cb == 0 then ((.mk w ⟨#[]⟩ 0 [] [ea, eb], 0) : Ex × Int) else (zeroEx, cb)) else (zeroEx, ca))
        | _ => (zeroEx, 2)) = (bif (exprsP rest).2 == 0 then (.mk w ⟨#[]⟩ 0 [] (exprsP rest).1, 0) else (zeroEx, (exprsP rest).2)) := by
  intro hl
  match rest, hl with
  | [a, b], _ =>
    simp only [exprsP]
    cases ha : (exprP a).2 == 0
    · simp only [ha, cond_false]
    · cases hb : (exprP b).2 == 0
      · simp only [ha, hb, cond_true, cond_false]
      · simp [ha, hb]
theorem tl_one {h : Heap} {id0 z : Nat} {p : PV} {rows : List (List PV)} (t : Tl h id0 z p rows) : oneC p = true ∧ p.cells = [p] := by
  rcases t with ⟨_, rfl | rfl⟩ | ⟨id, _, _, rfl, _⟩
  · exact ⟨rfl, rfl⟩
  · exact ⟨rfl, rfl⟩
  · exact ⟨rfl, rfl⟩
theorem ex_frz (n : Nat) (h : Heap) (e : Ex) : FrzL n h e.cells e.cells := by
  have hi := ex_in n e
  obtain ⟨op, name, v, args, kids⟩ := e
  simp only [Ex.cells, inNL, inN, and_true, true_and] at hi
  simp only [Ex.cells, FrzL, FrzTo, and_true, true_and]
  exact ⟨.inl hi.1, .inl hi.2⟩
theorem exs_frz (n : Nat) (h : Heap) : ∀ l : List Ex, FrzR n h (Ex.rows l) (Ex.rows l)
  | [] => by simp only [Ex.rows, FrzR]
  | k :: ks => by simp only [Ex.rows, FrzR]; exact ⟨ex_frz n h k, exs_frz n h ks⟩
theorem tl_frzE {h : Heap} {id0 n : Nat} {p : PV} {l : List Ex} (hn : n ≤ id0) (t : Tl h id0 5 p (Ex.rows l)) : FrzTo n h (.imm 5 (Ex.rows l)) p := by
  simp only [FrzTo]
  rcases t with ⟨h1, h2⟩ | ⟨id, h1, h2, rfl, ho⟩
  · exact .inr (.inl ⟨h1, h2.symm⟩)
  · refine .inr (.inr ⟨id, 0, _, _, rfl, by omega, ho, by omega, ?_⟩)
    rw [List.drop_zero, List.take_of_length_le (by omega)]
    exact exs_frz _ _ _
theorem expr_pm_c {kind value line col : Int} {text : ByteArray} {kids : List Sx} {w : ByteArray} {rest : List Sx} (hok : (Sx.mk kind value line col text kids).ok) (hk2 : ¬ kind = 2) (hM : headM (.mk kind value line col text kids) = some (w, rest)) (hp : isPm w = true)
    (hf : ∀ x ∈ rest, ∀ h : Heap, PCall Try.prog 75 [.agg x.cells] h fun r h' => r = .tup [.agg (exprP x).1.cells, errP (exprP x).2] ∧ h' = h) (hl : rest.length ≤ 1048576) (h : Heap) :
    PCall Try.prog 75 [.agg (Sx.mk kind value line col text kids).cells] h fun r h' => r = .tup [.agg (exprP (.mk kind value line col text kids)).1.cells, errP (exprP (.mk kind value line col text kids)).2] ∧ h' = h := by
  refine PCall.frz Ty.hb_75 ?_
  have hh := head_c hok
  have hX := exprP_head (.mk kind value line col text kids)
  generalize exprP (.mk kind value line col text kids) = F at hX
  have kk : kindOf (.mk kind value line col text kids) = kind := rfl
  have k2 : (kind == 2) = false := by simpa using hk2
  rw [kk, k2, hM] at hX
  simp only [cond_false, hp, cond_true] at hX
  rw [hM] at hh
  simp only [headV] at hh
  simp only [Sx.cells] at hh ⊢
  have hlr := Sx.rows_len rest
  refine pcall_body (ow := fun _ => false) (wf := fun _ => false) Ty.mixed Try.func75 rfl Ty.hb_75 (by rw [Try.ntmps75]; simp) ?_
  rw [Try.ntmps75, Try.results75]
  repeat' (first | (refine a_seq (fun K hK => ?_)) | (refine a_regionS ?_; simp (maxSteps := 2000000) only [Ty.w, simprocAttr, k2]) | (refine a_skip ?_; (try simp only [pst0, simprocAttr])) | (refine a_cond _ (by (try simp (maxSteps := 2000000) only [Ty.w, simprocAttr, k2]); rfl) (fun hb => ?_) (fun hb => ?_) <;> (try simp only [hb0, decide_eq_true_eq, decide_eq_false_iff_not, simprocAttr] at hb) <;> (try (exfalso; omega))) | (refine hK _ _ ?_; clear hK; (try simp only [pst0, simprocAttr])))
  refine owp_useQ (hh _) (by (try simp only [Ty.w, simprocAttr, k2, Bool.not_true]); try rfl) ?_; simp (maxSteps := 2000000) only [Ty.w, simprocAttr, k2, Bool.not_true]
  iterate 9 (first | (refine a_seq (fun K hK => ?_)) | (refine a_regionS ?_; simp (maxSteps := 2000000) only [Ty.w, simprocAttr, k2, Bool.not_true]) | (refine a_skip ?_; (try simp only [pst0, simprocAttr])) | (refine a_cond _ (by (try simp (maxSteps := 2000000) only [Ty.w, simprocAttr, k2, Bool.not_true]); rfl) (fun hb => ?_) (fun hb => ?_) <;> (try simp only [hb0, decide_eq_true_eq, decide_eq_false_iff_not, simprocAttr] at hb) <;> (try (exfalso; omega))) | (refine hK _ _ ?_; clear hK; (try simp only [pst0, simprocAttr])))
  refine a_cutK (fun S h' => h' = h.new (.arr 5 [[.sc (.string ⟨#[]⟩), .sc (.string ⟨#[]⟩), .sc (.int .i64 0), .sc (.slice none 0 0), .sc (.slice none 0 0)]]) ∧ S 2 = .ptr h.next 0 0 ∧ S 4 = sPV w ∧ S 5 = .imm 6 (Sx.rows rest)) ?_ ?_
  · have hp' := hp
    unfold isPm opPls opMin opTim bEq at hp'
    clear hX hf
    cases p1 : (w.data.toList == (#[43] : Array UInt8).toList) with
    | true =>
      repeat' (first | (refine a_seq (fun K hK => ?_)) | (refine a_regionS ?_; simp (maxSteps := 2000000) only [Ty.w, simprocAttr, k2, p1, Bool.not_true]) | (refine a_skip ?_; (try simp only [pst0, simprocAttr])) | (refine a_cond _ (by (try simp (maxSteps := 2000000) only [Ty.w, simprocAttr, k2, p1, Bool.not_true]); rfl) (fun hb => ?_) (fun hb => ?_) <;> (try simp only [hb0, decide_eq_true_eq, decide_eq_false_iff_not, simprocAttr] at hb) <;> (try (exfalso; omega))) | (refine hK _ _ ?_; clear hK; (try simp only [pst0, simprocAttr])))
      all_goals (simp (maxSteps := 2000000) only [Ty.w, simprocAttr])
    | false =>
      cases p2 : (w.data.toList == (#[45] : Array UInt8).toList) with
      | true =>
        repeat' (first | (refine a_seq (fun K hK => ?_)) | (refine a_regionS ?_; simp (maxSteps := 2000000) only [Ty.w, simprocAttr, k2, p1, p2, Bool.not_true, Bool.not_false]) | (refine a_skip ?_; (try simp only [pst0, simprocAttr])) | (refine a_cond _ (by (try simp (maxSteps := 2000000) only [Ty.w, simprocAttr, k2, p1, p2, Bool.not_true, Bool.not_false]); rfl) (fun hb => ?_) (fun hb => ?_) <;> (try simp only [hb0, decide_eq_true_eq, decide_eq_false_iff_not, simprocAttr] at hb) <;> (try (exfalso; omega))) | (refine hK _ _ ?_; clear hK; (try simp only [pst0, simprocAttr])))
        all_goals (simp (maxSteps := 2000000) only [Ty.w, simprocAttr])
      | false =>
        have p3 : (w.data.toList == (#[42] : Array UInt8).toList) = true := by
          rw [p1, p2] at hp'; simpa using hp'
        repeat' (first | (refine a_seq (fun K hK => ?_)) | (refine a_regionS ?_; simp (maxSteps := 2000000) only [Ty.w, simprocAttr, k2, p1, p2, p3, Bool.not_true, Bool.not_false]) | (refine a_skip ?_; (try simp only [pst0, simprocAttr])) | (refine a_cond _ (by (try simp (maxSteps := 2000000) only [Ty.w, simprocAttr, k2, p1, p2, p3, Bool.not_true, Bool.not_false]); rfl) (fun hb => ?_) (fun hb => ?_) <;> (try simp only [hb0, decide_eq_true_eq, decide_eq_false_iff_not, simprocAttr] at hb) <;> (try (exfalso; omega))) | (refine hK _ _ ?_; clear hK; (try simp only [pst0, simprocAttr])))
        all_goals (simp (maxSteps := 2000000) only [Ty.w, simprocAttr])
  · rintro S h' ⟨rfl, g2, g4, g5⟩
    refine hK _ _ ?_
    clear hK hh
    cases q : (((Sx.rows rest).length : Int) != 2) with
    | true =>
      have hF : F = (zeroEx, 2) := by
        rw [hX]
        split
        · rw [hlr] at q; simp at q
        · rfl
      subst hF
      repeat' (first | (refine a_seq (fun K hK => ?_)) | ((first | refine a_regionS ?_ | refine a_ret ?_); simp (maxSteps := 2000000) only [Ty.w, simprocAttr, g2, g4, g5, q]) | (refine hK _ _ ?_; clear hK; (try simp only [pst0, simprocAttr])))
      refine ⟨?_, ((Grow.refl h).new _).set (Nat.le_refl _) _⟩
      have e2 : errP 2 = errV 2 := rfl
      simp only [e2, errV, zeroEx, Ex.cells, Ex.rows, strRows, List.map_nil, FrzTo, FrzL]
      exact ⟨_, rfl, ⟨_, rfl, rfl, rfl, rfl, .inr (.inl ⟨rfl, .inr rfl⟩), .inr (.inl ⟨rfl, .inr rfl⟩), trivial⟩, rfl, trivial⟩
    | false =>
      have q' : (((Sx.rows rest).length : Int) = 2) := by simpa using q
      have hF : F = (bif (exprsP rest).2 == 0 then (.mk w ⟨#[]⟩ 0 [] (exprsP rest).1, 0) else (zeroEx, (exprsP rest).2)) := by
        rw [hX]; exact exprsP_two w rest (by rw [hlr] at q'; omega)
      clear hX
      repeat' (first | (refine a_seq (fun K hK => ?_)) | (refine a_block ?_) | (refine a_regionS ?_; simp (maxSteps := 2000000) only [Ty.w, simprocAttr, g2, g4, g5, q]) | (refine a_skip ?_; (try simp only [pst0, simprocAttr])) | (refine a_cond _ (by (try simp (maxSteps := 2000000) only [Ty.w, simprocAttr, g2, g4, g5, q]); rfl) (fun hb => ?_) (fun hb => ?_) <;> (try simp only [hb0, decide_eq_true_eq, decide_eq_false_iff_not, simprocAttr] at hb) <;> (try (exfalso; omega))) | (refine hK _ _ ?_; clear hK; (try simp only [pst0, simprocAttr])))
      refine a_loop (fun m S h' => S 2 = .ptr h.next 0 0 ∧ S 9 = .ptr (h.next + 1) 0 0 ∧ S 64 = .imm 6 (Sx.rows rest) ∧ S 65 = .sc (.int .i64 (Sx.rows rest).length) ∧ ∃ (k : Nat) (o : PV) (pre : List Ex), S 66 = .sc (.int .i64 k) ∧ k ≤ rest.length ∧ m = rest.length - k ∧ Grow h h' ∧ h.next + 1 < h'.next ∧ pre.length = k ∧
        h'.obj h.next = some (.arr 5 [[.sc (.string ⟨#[]⟩), .sc (.string ⟨#[]⟩), .sc (.int .i64 0), .sc (.slice none 0 0), .sc (.slice none 0 0)]]) ∧ h'.obj (h.next + 1) = some (.arr 5 [[sPV w, .sc (.string ⟨#[]⟩), .sc (.int .i64 0), .sc (.slice none 0 0), o]]) ∧ Tl h' (h.next + 2) 5 o (Ex.rows pre) ∧
        exprsP rest = (bif (exprsP (rest.drop k)).2 == 0 then (pre ++ (exprsP (rest.drop k)).1, 0) else ([], (exprsP (rest.drop k)).2))) rest.length ?_ ?_
      · simp only [Ty.w, simprocAttr, g2]
        refine ⟨0, _, [], rfl, by omega, rfl, ?_, ?_, rfl, ?_, ?_, Tl.nil, ?_⟩
        · exact ((Grow.refl h).new _).new _ |>.set (show h.next ≤ h.next + 1 by omega) _
        · simp [Heap.new, Heap.set]
        · have e1 : ¬ h.next = h.next + 1 := by omega
          simp [Heap.new, Heap.set, e1]
        · simp [Heap.new, Heap.set]
        · rw [List.drop_zero]
          cases hq : (exprsP rest).2 == 0
          · simp only [cond_false]; rw [← exprsP_nil rest hq]
          · simp only [cond_true, List.nil_append]; rw [← exprsP_code rest hq]
      · clear g2 g4 g5
        rintro m S h' ⟨g2, g9, g64, g65, k, o, pre, g66, hk, rfl, hg, hnx, hpl, o1, o2, tl, hinv⟩
        rw [hlr] at g65
        by_cases hlt : k < rest.length
        · have hd : decide ((k : Int) < (rest.length : Int)) = true := by simp; omega
          have w7 : IntKind.i64.wrap ((k : Int) + 1) = k + 1 := by rw [wrap64 (by omega) (by omega)]
          obtain ⟨x, hx⟩ : ∃ x, rest[k]? = some x := ⟨_, List.getElem?_eq_getElem hlt⟩
          have hr := Sx.rows_get hx
          have hc := hf x (List.mem_of_getElem? hx)
          rw [drop_of_get hx] at hinv
          simp only [exprsP] at hinv
          have hin := ex_in
          generalize hE : exprP x = E at hc hinv
          obtain ⟨e, c⟩ := E
          simp only at hc hinv
          clear hE hf
          obtain ⟨ki, va, li, co, te, ks⟩ := x
          simp only [Sx.cells] at hr hc
          have her := fun l => Ex.rows_map (l ++ [e])
          have n1 : (h.next = h'.next) = False := by simp; omega
          have n2 : (h.next + 1 = h'.next) = False := by simp; omega
          have n3 : (h.next = h'.next + 1) = False := by simp; omega
          have n4 : (h.next = h'.next) = False := by simp; omega
          have n5 : (h.next + 1 = h'.next + 1) = False := by simp; omega
          cases hcc : c == 0 with
          | false =>
            rw [hcc] at hinv
            simp only [cond_false] at hinv
            have e0 : errP c = errV c := by simp only [errP, hcc, cond_false]
            rw [e0] at hc
            simp only [errV] at hc
            have hq : exprsP rest = ([], c) := by rw [hinv]; simp only [hcc, cond_false]
            rw [hq] at hF
            simp only [hcc, cond_false] at hF
            subst hF
            obtain ⟨eop, ena, en, ear, eki⟩ := e
            simp only [Ex.cells] at hc
            repeat' (first | (refine a_seq (fun K hK => ?_)) | (refine a_regionS ?_; simp (maxSteps := 2000000) only [Ty.w, simprocAttr, g2, g9, g64, g65, g66, hd, hr, o1, o2, n1, n2, n3, n5, nsucc]) | (refine a_skip ?_; (try simp only [pst0, simprocAttr])) | (refine a_cond _ (by (try simp (maxSteps := 2000000) only [Ty.w, simprocAttr, g2, g9, g64, g65, g66, hd, hr, o1, o2, n1, n2, n3, n5, nsucc]); rfl) (fun hb => ?_) (fun hb => ?_) <;> (try simp only [hb0, decide_eq_true_eq, decide_eq_false_iff_not, simprocAttr] at hb) <;> (try (exfalso; omega))) | (refine hK _ _ ?_; clear hK; (try simp only [pst0, simprocAttr])))
            refine owp_useQ (hc _) (by (try simp only [Ty.w, simprocAttr, g2, g9, g64, g65, g66, hd, hr, o1, o2, n1, n2, n3, n5, nsucc]); try rfl) ?_; simp (maxSteps := 2000000) only [Ty.w, simprocAttr, g2, g9, g64, g65, g66, hd, hr, o1, o2, n1, n2, n3, n5, nsucc]
            repeat' (first | (refine a_seq (fun K hK => ?_)) | ((first | refine a_regionS ?_ | refine a_ret ?_); simp (maxSteps := 2000000) only [Ty.w, simprocAttr, g2, g9, g64, g65, g66, o1, o2, n1, n2, n3, n5, nsucc]) | (refine hK _ _ ?_; clear hK; (try simp only [pst0, simprocAttr])))
            have e2 : errP c = .sc (.iface 47 (.int .i64 c)) := by rw [e0]; try rfl
            rw [e2]
            refine ⟨?_, (((((hg.new _).set hg.le _).new _).set (show h.next ≤ h'.next + 1 by have := hg.le; omega) _).set (Nat.le_refl _) _)⟩
            simp only [zeroEx, Ex.cells, Ex.rows, strRows, List.map_nil, FrzTo, FrzL]
            exact ⟨_, rfl, ⟨_, rfl, rfl, rfl, rfl, .inr (.inl ⟨rfl, .inr rfl⟩), .inr (.inl ⟨rfl, .inr rfl⟩), trivial⟩, rfl, trivial⟩
          | true =>
            have e0 : errP c = .sc .nilIface := by simp only [errP, hcc, cond_true]
            rw [e0] at hc
            have hto := tl_one tl
            have hrows : Ex.rows (pre ++ [e]) = Ex.rows pre ++ [e.cells] := by simp only [Ex.rows_map, List.map_append, List.map_cons, List.map_nil]
            obtain ⟨eop, ena, en, ear, eki⟩ := e
            simp only [Ex.cells] at hc hrows
            have hold : ∀ j, j < h'.next → (((((h'.new (.arr 6 [[.sc (.int .i64 0), .sc (.int .i64 0), .sc (.int .i64 0), .sc (.int .i64 0), .sc (.string ⟨#[]⟩), .sc (.slice none 0 0)]])).set h'.next (.arr 6 [[.sc (.int .i64 ki), .sc (.int .i64 va), .sc (.int .i64 li), .sc (.int .i64 co), sPV te, .imm 6 (Sx.rows ks)]])).new (.arr 5 [[.sc (.string ⟨#[]⟩), .sc (.string ⟨#[]⟩), .sc (.int .i64 0), .sc (.slice none 0 0), .sc (.slice none 0 0)]])).set (h'.next + 1) (.arr 5 [[sPV eop, sPV ena, .sc (.int .i64 en), .imm 1 (strRows ear), .imm 5 (Ex.rows eki)]])) : Heap).obj j = h'.obj j := fun j hj => by
              have a1 : ¬ j = h'.next := by omega
              have a2 : ¬ j = h'.next + 1 := by omega
              simp only [Heap.new, Heap.set, a1, a2, if_false]
            have tl2 := tl.up (h' := ((((h'.new (.arr 6 [[.sc (.int .i64 0), .sc (.int .i64 0), .sc (.int .i64 0), .sc (.int .i64 0), .sc (.string ⟨#[]⟩), .sc (.slice none 0 0)]])).set h'.next (.arr 6 [[.sc (.int .i64 ki), .sc (.int .i64 va), .sc (.int .i64 li), .sc (.int .i64 co), sPV te, .imm 6 (Sx.rows ks)]])).new (.arr 5 [[.sc (.string ⟨#[]⟩), .sc (.string ⟨#[]⟩), .sc (.int .i64 0), .sc (.slice none 0 0), .sc (.slice none 0 0)]])).set (h'.next + 1) (.arr 5 [[sPV eop, sPV ena, .sc (.int .i64 en), .imm 1 (strRows ear), .imm 5 (Ex.rows eki)]]))) (by simp [Heap.new, Heap.set]; omega) (fun j _ hj => hold j hj)
            have hg2 : Grow h ((((h'.new (.arr 6 [[.sc (.int .i64 0), .sc (.int .i64 0), .sc (.int .i64 0), .sc (.int .i64 0), .sc (.string ⟨#[]⟩), .sc (.slice none 0 0)]])).set h'.next (.arr 6 [[.sc (.int .i64 ki), .sc (.int .i64 va), .sc (.int .i64 li), .sc (.int .i64 co), sPV te, .imm 6 (Sx.rows ks)]])).new (.arr 5 [[.sc (.string ⟨#[]⟩), .sc (.string ⟨#[]⟩), .sc (.int .i64 0), .sc (.slice none 0 0), .sc (.slice none 0 0)]])).set (h'.next + 1) (.arr 5 [[sPV eop, sPV ena, .sc (.int .i64 en), .imm 1 (strRows ear), .imm 5 (Ex.rows eki)]])) := (((hg.new _).set hg.le _).new _).set (show h.next ≤ h'.next + 1 by have := hg.le; omega) _
            have hnn : (((((h'.new (.arr 6 [[.sc (.int .i64 0), .sc (.int .i64 0), .sc (.int .i64 0), .sc (.int .i64 0), .sc (.string ⟨#[]⟩), .sc (.slice none 0 0)]])).set h'.next (.arr 6 [[.sc (.int .i64 ki), .sc (.int .i64 va), .sc (.int .i64 li), .sc (.int .i64 co), sPV te, .imm 6 (Sx.rows ks)]])).new (.arr 5 [[.sc (.string ⟨#[]⟩), .sc (.string ⟨#[]⟩), .sc (.int .i64 0), .sc (.slice none 0 0), .sc (.slice none 0 0)]])).set (h'.next + 1) (.arr 5 [[sPV eop, sPV ena, .sc (.int .i64 en), .imm 1 (strRows ear), .imm 5 (Ex.rows eki)]])) : Heap).next = h'.next + 1 + 1 := by simp [Heap.new, Heap.set]
            obtain ⟨H, t1, t2, t3, t4, t5⟩ := tl2.tail
            have u9 := t4 (h.next + 1) (by omega)
            rw [hold _ hnx, o2] at u9
            have u0 := t4 h.next (by omega)
            rw [hold _ (by omega), o1] at u0
            rw [hnn] at t3
            have hkp := t5 h ⟨hg2.le, hg2.old⟩ (by omega)
            have hgH : Grow h H := ⟨hkp.1, hkp.2⟩
            have hpr : (Ex.rows pre).length = k := by rw [Ex.rows_len]; exact hpl
            have hb : (k + 1) * 88 ≤ 140737488355328 := by omega
            have n6 : (h.next + 1 = H.next) = False := by simp; omega
            have n7 : (h.next + 1 = h'.next + 1 + 1) = False := by simp; omega
            repeat' (first | (refine a_seq (fun K hK => ?_)) | (refine a_regionS ?_; simp (maxSteps := 2000000) only [Ty.w, simprocAttr, g2, g9, g64, g65, g66, hd, hr, o1, o2, n1, n2, n3, n5, nsucc]) | (refine a_skip ?_; (try simp only [pst0, simprocAttr])) | (refine a_cond _ (by (try simp (maxSteps := 2000000) only [Ty.w, simprocAttr, g2, g9, g64, g65, g66, hd, hr, o1, o2, n1, n2, n3, n5, nsucc]); rfl) (fun hb => ?_) (fun hb => ?_) <;> (try simp only [hb0, decide_eq_true_eq, decide_eq_false_iff_not, simprocAttr] at hb) <;> (try (exfalso; omega))) | (refine hK _ _ ?_; clear hK; (try simp only [pst0, simprocAttr])))
            refine owp_useQ (hc _) (by (try simp only [Ty.w, simprocAttr, g2, g9, g64, g65, g66, hd, hr, o1, o2, n1, n2, n3, n5, nsucc]); try rfl) ?_; simp (maxSteps := 2000000) only [Ty.w, simprocAttr, g2, g9, g64, g65, g66, hd, hr, o1, o2, n1, n2, n3, n5, nsucc]
            repeat' (first | (refine a_seq (fun K hK => ?_)) | ((first | refine a_regionS ?_ | refine a_region (fun K hK => ?_)); simp (maxSteps := 2000000) only [Ty.w, simprocAttr, g2, g9, g64, g65, g66, o1, o2, n1, n2, n3, n5, n6, n7, nsucc, t1, t2, u9, hpr, hb, w7]) | (refine a_skip ?_; (try simp only [pst0, simprocAttr])) | (refine a_cond _ (by (try simp (maxSteps := 2000000) only [Ty.w, simprocAttr, g2, g9, g64, g65, g66, o1, o2, n1, n2, n3, n5, n6, n7, nsucc, t1, t2, u9, hpr, hb, w7]); rfl) (fun hb => ?_) (fun hb => ?_) <;> (try simp only [hb0, decide_eq_true_eq, decide_eq_false_iff_not, simprocAttr] at hb) <;> (try (exfalso; omega))) | (refine hK _ _ ?_; clear hK; (try simp only [pst0, simprocAttr])) | (rw [if_pos]; rotate_left 1; omega; simp (maxSteps := 2000000) only [Ty.w, simprocAttr, g2, g9, g64, g65, g66, o1, o2, n1, n2, n3, n5, n6, n7, nsucc, t1, t2, u9, hpr, hb, w7]))
            rw [← hrows]
            have hgr := Tl.grow (H := H) (id0 := h.next + 2) (z := 5) (len := k + 1) (rows := Ex.rows (pre ++ [Ex.mk eop ena en ear eki])) (by omega) (by rw [Ex.rows_len]; simp [hpl])
            refine ⟨rest.length - (k + 1), by omega, by rw [hlr], k + 1, .own H.next 0 (k + 1), pre ++ [Ex.mk eop ena en ear eki], by simp, by omega, rfl, (hgH.new _).set (show h.next ≤ h.next + 1 by omega) _, by omega, by simp [hpl], ?_, by rw [t3], ?_, ?_⟩
            · rw [if_neg (by omega)]; exact u0
            · exact hgr.up (Nat.le_refl _) (fun j hj _ => by simp only [Heap.set]; rw [if_neg (by omega)])
            · rw [hinv, hcc]
              simp only [cond_true]
              cases hq : (exprsP (List.drop (k + 1) rest)).2 == 0 with
              | false => simp only [hq, cond_false]
              | true => simp only [cond_true, beq_self_eq_true, List.append_assoc, List.cons_append, List.nil_append]
        · have hd : decide ((k : Int) < (rest.length : Int)) = false := by simp; omega
          rw [List.drop_eq_nil_of_le (by omega)] at hinv
          have hq : exprsP rest = (pre, 0) := by rw [hinv]; simp [exprsP]
          rw [hq] at hF
          have hF2 : F = (.mk w ⟨#[]⟩ 0 [] pre, 0) := hF
          clear hF
          subst hF2
          have ho := (tl_one tl).1
          have n1 : (h.next + 1 = h.next) = False := by simp
          repeat' (first | (refine a_seq (fun K hK => ?_)) | ((first | refine a_regionS ?_ | refine a_ret ?_); simp (maxSteps := 2000000) only [Ty.w, simprocAttr, g2, g9, g64, g65, g66, hd, o1, o2, ho, n1]) | (refine a_exit ?_; (try simp only [pst0, simprocAttr])) | (refine a_cond _ (by (try simp (maxSteps := 2000000) only [Ty.w, simprocAttr, g2, g9, g64, g65, g66, hd, o1, o2, ho, n1]); rfl) (fun hb => ?_) (fun hb => ?_) <;> (try simp only [hb0, decide_eq_true_eq, decide_eq_false_iff_not, simprocAttr] at hb) <;> (try (exfalso; omega))) | ((first | refine hK _ _ ?_ | (clear hK; refine hK _ _ ?_)); clear hK; (try simp only [pst0, simprocAttr])))
          refine ⟨?_, hg.set (Nat.le_refl _) _⟩
          have e2 : errP 0 = .sc .nilIface := rfl
          rw [e2]
          have h1 : FrzTo h.next (h'.set h.next (.arr 5 [[sPV w, .sc (.string ⟨#[]⟩), .sc (.int .i64 0), .sc (.slice none 0 0), o]])) (.imm 5 (Ex.rows pre)) o := tl_frzE (by omega) (tl.up (Nat.le_refl _) (fun j hj _ => by simp only [Heap.set]; rw [if_neg (by omega)]))
          generalize h'.set h.next (.arr 5 [[sPV w, .sc (.string ⟨#[]⟩), .sc (.int .i64 0), .sc (.slice none 0 0), o]]) = H at h1 ⊢
          simp only [Ex.cells, strRows, List.map_nil]
          unfold FrzTo
          refine ⟨_, rfl, ?_⟩
          unfold FrzL
          refine ⟨?_, by unfold FrzL; exact ⟨by simp only [FrzTo], by simp only [FrzL]⟩⟩
          unfold FrzTo
          refine ⟨_, rfl, ?_⟩
          unfold FrzL
          refine ⟨by simp only [FrzTo], ?_⟩
          unfold FrzL
          refine ⟨by simp only [FrzTo], ?_⟩
          unfold FrzL
          refine ⟨by simp only [FrzTo], ?_⟩
          unfold FrzL
          refine ⟨by simp [FrzTo], ?_⟩
          unfold FrzL
          exact ⟨h1, by simp only [FrzL]⟩
theorem headM_rest {kind value line col : Int} {text : ByteArray} {kids : List Sx} {w : ByteArray} {rest : List Sx} (h : headM (.mk kind value line col text kids) = some (w, rest)) : ∃ y, kids = y :: rest := by
  simp only [headM] at h
  split at h
  · cases kids with
    | nil => simp at h
    | cons y r =>
      simp only at h
      cases hk : kindOf y == 1 with
      | false => rw [hk] at h; simp at h
      | true =>
        rw [hk] at h
        simp only [cond_true, Option.some.injEq, Prod.mk.injEq] at h
        exact ⟨y, by rw [h.2]⟩
  · simp at h
theorem expr_c : ∀ x : Sx, x.ok → x.small → ∀ h : Heap, PCall Try.prog 75 [.agg x.cells] h fun r h' => r = .tup [.agg (exprP x).1.cells, errP (exprP x).2] ∧ h' = h := by
  refine Sx.ind ?_
  intro kind value line col text kids ih hok hsm h
  have hok' := hok
  simp only [Sx.ok] at hok'
  obtain ⟨_, _, _, _, hks⟩ := hok'
  rw [Sx.oks_iff] at hks
  simp only [Sx.small] at hsm
  obtain ⟨hl, hss⟩ := hsm
  rw [Sx.smalls_iff] at hss
  have hrl : ∀ w rest, headM (.mk kind value line col text kids) = some (w, rest) → rest.length ≤ 1048576 := fun w rest e => by
    obtain ⟨y, rfl⟩ := headM_rest e
    simp at hl; omega
  by_cases hk2 : kind = 2
  · exact expr_plain_c hok hrl (.inl hk2) h
  · cases hM : headM (.mk kind value line col text kids) with
    | none => exact expr_plain_c hok hrl (.inr fun w rest e => by rw [hM] at e; simp at e) h
    | some wr =>
      obtain ⟨w, rest⟩ := wr
      cases hp : isPm w with
      | false => exact expr_plain_c hok hrl (.inr fun w2 rest2 e => by rw [hM] at e; simp at e; rw [← e.1]; exact hp) h
      | true =>
        obtain ⟨y, hy⟩ := headM_rest hM
        exact expr_pm_c hok hk2 hM hp (fun x hx => ih x (by rw [hy]; simp [hx]) (hks x (by rw [hy]; simp [hx])) (hss x (by rw [hy]; simp [hx]))) (hrl w rest hM) h
end Go.Proofs.Ytjlkapgpjamnkaa
namespace Go.Proofs.Ytjlkapgpjamnkaa
open Go.AM
set_option maxHeartbeats 2000000
set_option maxRecDepth 20000
theorem signs_c (c : UInt8) : signs.contains c = (((c.toNat : Int) == 45) || ((c.toNat : Int) == 95) || ((c.toNat : Int) == 63) || ((c.toNat : Int) == 58) || ((c.toNat : Int) == 60) || ((c.toNat : Int) == 62) || ((c.toNat : Int) == 61) || ((c.toNat : Int) == 43) || ((c.toNat : Int) == 42)) := by
  have hh : ∀ d : UInt8, (c == d) = ((c.toNat : Int) == (d.toNat : Int)) := by
    intro d
    by_cases h : c = d
    · subst h; simp
    · have : ¬ c.toNat = d.toNat := fun e => h (UInt8.toNat_inj.1 e)
      have : ¬ (c.toNat : Int) = (d.toNat : Int) := by omega
      rw [beq_eq_false_iff_ne.2 h, beq_eq_false_iff_ne.2 this]
  have e : signs.contains c = (c == 45 || (c == 95 || (c == 63 || (c == 58 || (c == 60 || (c == 62 || (c == 61 || (c == 43 || (c == 42 || false))))))))) := rfl
  rw [e, hh, hh, hh, hh, hh, hh, hh, hh, hh]
  simp only [Bool.or_false, Bool.or_assoc]
  rfl
/-- is a string the text of a word, for the reference? -/
def wordR (s : ByteArray) : Bool := s.data.toList.all wB && decide (1 ≤ s.size) && decide (s.size ≤ 32) && !(numB s)
end Go.Proofs.Ytjlkapgpjamnkaa
namespace Go.AM
mutual
def Sx.count : Sx → Int
  | .mk _ _ _ _ _ kids => Sx.counts 1 kids
def Sx.counts (n : Int) : List Sx → Int
  | [] => n
  | k :: ks => Sx.counts (IntKind.i64.wrap (n + k.count)) ks
end
theorem Sx.counts_append : ∀ (l m : List Sx) (n : Int), Sx.counts n (l ++ m) = Sx.counts (Sx.counts n l) m
  | [], m, n => by simp [Sx.counts]
  | k :: l, m, n => by simp only [List.cons_append, Sx.counts]; exact Sx.counts_append l m _
theorem Sx.counts_take {l : List Sx} {i : Nat} {k : Sx} (n : Int) (h : l[i]? = some k) : Sx.counts n (l.take (i + 1)) = IntKind.i64.wrap (Sx.counts n (l.take i) + k.count) := by
  rw [List.take_add_one, h, Sx.counts_append]; try rfl
mutual
def Sx.depth : Sx → Nat
  | .mk kind _ _ _ _ kids => if kind = 3 then Sx.depths 0 kids + 1 else Sx.depths 0 kids
def Sx.depths (n : Nat) : List Sx → Nat
  | [] => n
  | k :: ks => Sx.depths (max n k.depth) ks
end
end Go.AM
namespace Go.Proofs.Ytjlkapgpjamnkaa
open Go.AM
set_option maxHeartbeats 2000000
set_option maxRecDepth 20000
mutual
def shapedS : Sx → Bool
  | .mk kind value _ _ text kids =>
    if kind = 1 then (value == 0) && kids.isEmpty && wordR text
    else if kind = 2 then (text.data.toList == (#[] : Array UInt8).toList) && kids.isEmpty && decide (value ≥ -1099511627776) && decide (value ≤ 1099511627776)
    else if kind = 3 then shapedSs kids && ((text.data.toList == (#[] : Array UInt8).toList) && (value == 0))
    else false
def shapedSs : List Sx → Bool
  | [] => true
  | k :: ks => shapedS k && shapedSs ks
end
theorem rcount_c : ∀ (e : Sx), e.ok → ∀ h : Heap, PCall Try.prog 32 [.agg e.cells] h fun r h' => r = .sc (.int .i64 e.count) ∧ h' = h := by
  refine Sx.ind ?_
  intro kind value line col text kids ih hok h
  simp only [Sx.ok] at hok
  obtain ⟨_, _, _, hk, hks⟩ := hok
  rw [Sx.oks_iff] at hks
  have hlen := Sx.rows_len kids
  simp only [Sx.cells, Sx.count]
  refine pcall_body (ow := fun _ => false) (wf := fun _ => false) Ty.mixed Try.func32 rfl Ty.hb_32 (by rw [Try.ntmps32]; simp) ?_
  rw [Try.ntmps32, Try.results32]
  repeat' (first | (refine a_seq (fun K hK => ?_)) | (refine a_block ?_) | (refine a_regionS ?_; simp (maxSteps := 2000000) only [Ty.w, simprocAttr, hlen]) | (refine hK _ _ ?_; clear hK; (try simp only [pst0, simprocAttr])))
  refine a_loop (fun m S h' => h' = h ∧ S 1 = .cptr (Sx.mk kind value line col text kids).cells ∧ ∃ k : Nat, S 4 = .sc (.int .i64 k) ∧ k ≤ kids.length ∧ m = kids.length - k ∧ S 3 = .sc (.int .i64 (Sx.counts 1 (kids.take k)))) kids.length ?_ ?_
  · simp only [Ty.w, simprocAttr]
    exact ⟨rfl, 0, rfl, by omega, rfl, by simp [Sx.counts]⟩
  · rintro m S h' ⟨rfl, g1, k, g4, hkl, rfl, g3⟩
    simp only [Sx.cells] at g1
    by_cases hlt : k < kids.length
    · have hd : decide ((k : Int) < (kids.length : Int)) = true := by simp; omega
      have w7 : IntKind.i64.wrap ((k : Int) + 1) = k + 1 := by unfold bigN at hk; rw [wrap64 (by omega) (by omega)]
      obtain ⟨e, hx⟩ : ∃ e, kids[k]? = some e := ⟨_, List.getElem?_eq_getElem hlt⟩
      have hmem := List.mem_of_getElem? hx
      have hc := ih e hmem (hks e hmem)
      have hsz := Sx.counts_take 1 hx
      have hr := Sx.rows_get hx
      obtain ⟨ki, va, li, co, te, ks⟩ := e
      simp only [Sx.cells] at hr hc
      repeat' (first | (refine a_seq (fun K hK => ?_)) | (refine a_block ?_) | ((first | refine a_regionS ?_ | refine a_region (fun K hK => ?_)); simp (maxSteps := 2000000) only [Ty.w, simprocAttr, g1, g3, g4, hlen, hd, hr, w7]) | (refine a_skip ?_; (try simp only [pst0, simprocAttr])) | (refine a_cond _ (by (try simp (maxSteps := 2000000) only [Ty.w, simprocAttr, g1, g3, g4, hlen, hd, hr, w7]); rfl) (fun hb => ?_) (fun hb => ?_) <;> (try simp only [hb0, decide_eq_true_eq, decide_eq_false_iff_not, simprocAttr] at hb) <;> (try (exfalso; omega))) | (refine hK _ _ ?_; clear hK; (try simp only [pst0, simprocAttr])))
      refine owp_useQ (hc _) (by (try simp only [Ty.w, simprocAttr, g1, g3, g4, hlen, hd, hr]); try rfl) ?_; simp (maxSteps := 2000000) only [Ty.w, simprocAttr, g1, g3, g4, hlen, hd, hr]
      repeat' (first | (refine a_regionS ?_; simp (maxSteps := 2000000) only [Ty.w, simprocAttr, g1, g3, g4, w7]) | (refine hK _ _ ?_; clear hK; (try simp only [pst0, simprocAttr])))
      exact ⟨kids.length - (k + 1), by omega, rfl, k + 1, by simp, by omega, rfl, by rw [hsz]⟩
    · have hd : decide ((k : Int) < (kids.length : Int)) = false := by simp; omega
      have hke : k = kids.length := by omega
      subst hke
      rw [List.take_length] at g3
      repeat' (first | (refine a_seq (fun K hK => ?_)) | ((first | refine a_regionS ?_ | refine a_ret ?_); simp (maxSteps := 2000000) only [Ty.w, simprocAttr, g1, g3, g4, hlen, hd]) | (refine a_exit ?_; (try simp only [pst0, simprocAttr])) | (refine a_cond _ (by (try simp (maxSteps := 2000000) only [Ty.w, simprocAttr, g1, g3, g4, hlen, hd]); rfl) (fun hb => ?_) (fun hb => ?_) <;> (try simp only [hb0, decide_eq_true_eq, decide_eq_false_iff_not, simprocAttr] at hb) <;> (try (exfalso; omega))) | ((first | refine hK _ _ ?_ | (clear hK; refine hK _ _ ?_)); clear hK; (try simp only [pst0, simprocAttr])))
end Go.Proofs.Ytjlkapgpjamnkaa
namespace Go.AM
mutual
def Sx.nodes : Sx → Nat
  | .mk _ _ _ _ _ kids => Sx.nodess kids + 1
def Sx.nodess : List Sx → Nat
  | [] => 0
  | k :: ks => k.nodes + Sx.nodess ks
end
end Go.AM
namespace Go.Proofs.Ytjlkapgpjamnkaa
open Go.AM
theorem lowB_self (c : UInt8) : lowB c = some c ↔ wB c = true := by
  unfold lowB
  cases hu : upB c with
  | true =>
    have h1 : 65 ≤ c.toNat ∧ c.toNat ≤ 90 := by simpa [upB] using hu
    have hw : wB c = false := by
      have h2 : letB c = false := by simp [letB]; omega
      have h3 : digB c = false := by simp [digB]; omega
      have h4 : signs.contains c = false := by
        rw [signs_c]
        have : ∀ v : Int, v = 45 ∨ v = 95 ∨ v = 63 ∨ v = 58 ∨ v = 60 ∨ v = 62 ∨ v = 61 ∨ v = 43 ∨ v = 42 → ((c.toNat : Int) == v) = false := by
          intro v hv
          rw [beq_eq_false_iff_ne]
          omega
        simp [this]
      simp only [wB, h2, h3, h4, Bool.or_false]
    rw [hw]
    simp only [if_true, Option.some.injEq, Bool.false_eq_true, iff_false]
    intro e
    have := congrArg UInt8.toNat e
    rw [UInt8.toNat_add] at this
    simp at this
    omega
  | false =>
    simp only [Bool.false_eq_true, if_false]
    cases wB c <;> simp
theorem lowL_self : ∀ l : List UInt8, lowL l = some l ↔ l.all wB = true
  | [] => by simp [lowL]
  | c :: l => by
    have h1 := lowB_self c
    have h2 := lowL_self l
    simp only [lowL, List.all_cons, Bool.and_eq_true]
    cases hc : lowB c with
    | none => rw [hc] at h1; simp at h1 ⊢; intro hw; rw [h1] at hw; simp at hw
    | some d =>
      rw [hc] at h1
      cases hl : lowL l with
      | none => rw [hl] at h2; simp at h2 ⊢; intro _; simpa using h2
      | some p =>
        rw [hl] at h2
        simp only [Option.map_some, Option.some.injEq, List.cons.injEq]
        rw [← h1, ← h2]
        simp
theorem word_same (s : ByteArray) : wordB s = wordR s := by
  have hsl : s.data.toList.length = s.size := by rw [Array.length_toList]; try rfl
  have hself := lowL_self s.data.toList
  unfold wordB wordR lowS
  by_cases hc : 0 < s.size ∧ s.size ≤ 32
  · rw [if_pos hc]
    have d1 : decide (1 ≤ s.size) = true := by simp; omega
    have d2 : decide (s.size ≤ 32) = true := by simp; omega
    rw [d1, d2]
    cases hl : lowL s.data.toList with
    | none =>
      rw [hl] at hself
      have : s.data.toList.all wB = false := by
        cases h : s.data.toList.all wB with
        | false => rfl
        | true => rw [h] at hself; simp at hself
      simp only [this, Bool.false_and]
    | some p =>
      rw [hl] at hself
      cases h : s.data.toList.all wB with
      | true =>
        rw [h] at hself
        have hp : p = s.data.toList := by simpa using hself
        subst hp
        have : (⟨s.data.toList.toArray⟩ : ByteArray) = s := ba_ext rfl
        simp only [this, bEq, beq_self_eq_true, Bool.true_and]
      | false =>
        rw [h] at hself
        have hp : ¬ p = s.data.toList := by simpa using hself
        have : bEq (⟨p.toArray⟩ : ByteArray) s = false := by simp only [bEq, beq_eq_false_iff_ne]; exact hp
        simp only [this, Bool.and_false, Bool.false_and]
  · rw [if_neg hc]
    have : (decide (1 ≤ s.size) && decide (s.size ≤ 32)) = false := by
      cases h : (decide (1 ≤ s.size) && decide (s.size ≤ 32)) with
      | false => rfl
      | true =>
        simp only [Bool.and_eq_true, decide_eq_true_eq] at h
        exact absurd ⟨by omega, h.2⟩ hc
    simp only [Bool.false_and]
    rw [Bool.and_assoc (s.data.toList.all wB), this]; simp
mutual
theorem svalid_iff : ∀ (x : Sx) (d n : Nat), d ≤ 32 → n ≤ 4096 → ((svalid x d n).1 = true ↔ shapedS x = true ∧ d + x.depth ≤ 32 ∧ n + x.nodes ≤ 4096) ∧ ((svalid x d n).1 = true → (svalid x d n).2 = n + x.nodes)
  | .mk kind value line col text kids, d, n, hd, hn => by
    have e1 : (kids.isEmpty = true) ↔ kids = [] := List.isEmpty_iff
    unfold svalid shapedS
    simp only [Sx.depth, Sx.nodes]
    by_cases h0 : n + 1 > 4096
    · rw [if_pos h0]
      refine ⟨⟨by simp, fun ⟨_, _, h⟩ => by omega⟩, by simp⟩
    · rw [if_neg h0]
      by_cases k1 : kind = 1
      · rw [if_pos k1, if_pos k1, word_same]
        have k3 : ¬ kind = 3 := by omega
        rw [if_neg k3]
        simp only [Bool.and_eq_true, e1, decide_eq_true_eq, beq_iff_eq]
        constructor
        · constructor
          · rintro ⟨⟨h1, h2⟩, rfl⟩
            exact ⟨⟨⟨h2, rfl⟩, h1⟩, by simp only [Sx.depths]; omega, by simp only [Sx.nodess]; omega⟩
          · rintro ⟨⟨⟨h1, h2⟩, h3⟩, _⟩
            exact ⟨⟨h3, h1⟩, h2⟩
        · rintro ⟨_, rfl⟩; simp [Sx.nodess]
      · rw [if_neg k1, if_neg k1]
        by_cases k2 : kind = 2
        · rw [if_pos k2, if_pos k2]
          have k3 : ¬ kind = 3 := by omega
          rw [if_neg k3]
          simp only [Bool.and_eq_true, e1, decide_eq_true_eq, bEq, ge_iff_le]
          constructor
          · constructor
            · rintro ⟨⟨⟨h1, rfl⟩, h3⟩, h4⟩
              exact ⟨⟨⟨⟨h1, rfl⟩, h3⟩, h4⟩, by simp only [Sx.depths]; omega, by simp only [Sx.nodess]; omega⟩
            · rintro ⟨⟨⟨⟨h1, h2⟩, h3⟩, h4⟩, _⟩
              exact ⟨⟨⟨h1, h2⟩, h3⟩, h4⟩
          · rintro ⟨⟨⟨_, rfl⟩, _⟩, _⟩; simp [Sx.nodess]
        · rw [if_neg k2, if_neg k2]
          by_cases k3 : kind = 3
          · rw [if_pos k3, if_pos k3, if_pos k3]
            simp only [Bool.and_eq_true, beq_iff_eq]
            by_cases hc : bEq text ⟨#[]⟩ = true ∧ value = 0 ∧ d ≠ 32
            · rw [if_pos hc]
              obtain ⟨g1, g2⟩ := svalids_iff kids (d + 1) (n + 1) (by omega) (by omega)
              rw [g1]
              refine ⟨⟨fun ⟨h1, h2, h3⟩ => ⟨⟨h1, by simpa [bEq] using hc.1, hc.2.1⟩, by omega, by omega⟩, fun ⟨⟨h1, _, _⟩, h2, h3⟩ => ⟨h1, by omega, by omega⟩⟩, fun h => ?_⟩
              rw [g2 (g1.2 h)]; omega
            · rw [if_neg hc]
              refine ⟨⟨by simp, fun ⟨⟨h1, h4, h5⟩, h2, h3⟩ => ?_⟩, by simp⟩
              exact absurd ⟨by simp only [bEq, beq_iff_eq]; exact h4, h5, by omega⟩ hc
          · rw [if_neg k3, if_neg k3]
            simp
theorem svalids_iff : ∀ (l : List Sx) (d n : Nat), d ≤ 32 → n ≤ 4096 → ((svalids l d n).1 = true ↔ shapedSs l = true ∧ d + Sx.depths 0 l ≤ 32 ∧ n + Sx.nodess l ≤ 4096) ∧ ((svalids l d n).1 = true → (svalids l d n).2 = n + Sx.nodess l)
  | [], d, n, hd, hn => by simp [svalids, shapedSs, Sx.depths, Sx.nodess, hd, hn]
  | k :: ks, d, n, hd, hn => by
    obtain ⟨g1, g2⟩ := svalid_iff k d n hd hn
    have hdm : ∀ (m : Nat) (l : List Sx), Sx.depths m l = max m (Sx.depths 0 l) := by
      intro m l
      induction l generalizing m with
      | nil => simp [Sx.depths]
      | cons k l ih => simp only [Sx.depths]; rw [ih (max m k.depth), ih (max 0 k.depth)]; omega
    simp only [svalids, shapedSs, Sx.depths, Sx.nodess, Bool.and_eq_true]
    rw [hdm]
    cases hb : svalid k d n with
    | mk b n' =>
      rw [hb] at g1 g2
      cases b with
      | false =>
        simp only at g1 ⊢
        refine ⟨⟨by simp, fun ⟨⟨h1, _⟩, h2, h3⟩ => ?_⟩, by simp⟩
        exact absurd (g1.2 ⟨h1, by omega, by omega⟩) (by simp)
      | true =>
        simp only at g1 g2 ⊢
        obtain ⟨a1, a2, a3⟩ := g1.1 trivial
        have e := g2 trivial
        obtain ⟨f1, f2⟩ := svalids_iff ks d n' hd (by omega)
        rw [f1]
        refine ⟨⟨fun ⟨h1, h2, h3⟩ => ⟨⟨a1, h1⟩, by omega, by omega⟩, fun ⟨⟨_, h1⟩, h2, h3⟩ => ⟨h1, by omega, by omega⟩⟩, fun h => ?_⟩
        rw [f2 (f1.2 h)]; omega
end
end Go.Proofs.Ytjlkapgpjamnkaa
namespace Go.AM
mutual
theorem Sx.small_of : ∀ (x : Sx), x.nodes ≤ 1048576 → x.small
  | .mk _ _ _ _ _ kids, h => by
    simp only [Sx.nodes] at h
    simp only [Sx.small]
    have := Sx.smalls_of kids (by omega)
    exact ⟨by omega, this.2⟩
theorem Sx.smalls_of : ∀ (l : List Sx), Sx.nodess l ≤ 1048576 → l.length ≤ Sx.nodess l ∧ Sx.smalls l
  | [], _ => by simp [Sx.nodess, Sx.smalls]
  | k :: ks, h => by
    simp only [Sx.nodess] at h
    have h1 := Sx.small_of k (by omega)
    have h2 := Sx.smalls_of ks (by omega)
    have h3 : 1 ≤ k.nodes := by cases k; simp only [Sx.nodes]; omega
    simp only [Sx.nodess, Sx.smalls, List.length_cons]
    exact ⟨by omega, h1, h2.2⟩
end
end Go.AM
namespace Go.Proofs.Ytjlkapgpjamnkaa
open Go.AM
theorem svalid_small {x : Sx} (h : (svalid x 0 0).1 = true) : x.small := by
  have := (svalid_iff x 0 0 (by omega) (by omega)).1.1 h
  exact Sx.small_of x (by omega)
theorem termsM_ok : ∀ {l : List Sx}, (∀ x ∈ l, x.ok) → (∀ s ∈ (termsM l).1, s.size ≤ bigN) ∧ (termsM l).1.length ≤ l.length
  | [], _ => by simp [termsM]
  | x :: l, h => by
    have h1 := termsM_ok (l := l) fun y hy => h y (by simp [hy])
    have h2 : (textOf x).size ≤ bigN := by
      have := h x (by simp)
      obtain ⟨_, _, _, _, t, _⟩ := x
      simp only [Sx.ok] at this
      exact this.2.2.1
    simp only [termsM]
    cases kindOf x == 1 with
    | false => simp
    | true =>
      cases termB (textOf x) with
      | false => simp
      | true =>
        simp only [cond_true]
        cases hq : (termsM l).2 == 0 with
        | false => simp
        | true =>
          simp only [cond_true, List.mem_cons, List.length_cons]
          exact ⟨fun s hs => hs.elim (fun e => by rw [e]; exact h2) (h1.1 s), by omega⟩
theorem zeroEx_ok : zeroEx.ok ∧ zeroEx.small := by
  simp only [zeroEx, Ex.ok, Ex.oks, Ex.small, Ex.smalls, List.length_nil]
  refine ⟨⟨by simp [bigN, ByteArray.size], by simp [bigN, ByteArray.size], by omega, ⟨by simp, by simp⟩, by simp, trivial⟩, by omega, trivial⟩
theorem exprP_ok : ∀ x : Sx, x.ok → x.small → (exprP x).1.ok ∧ (exprP x).1.small := by
  refine Sx.ind ?_
  intro kind value line col text kids ih hok hsm
  have hok' := hok
  simp only [Sx.ok] at hok'
  obtain ⟨hq1, hv, hq3, hq4, hks⟩ := hok'
  rw [Sx.oks_iff] at hks
  simp only [Sx.small] at hsm
  obtain ⟨hl, hss⟩ := hsm
  rw [Sx.smalls_iff] at hss
  rw [exprP_head]
  have kk : kindOf (.mk kind value line col text kids) = kind := rfl
  rw [kk]
  cases hk : kind == 2 with
  | true =>
    simp only [cond_true, Ex.ok, Ex.oks, Ex.small, Ex.smalls, List.length_nil]
    exact ⟨⟨by simp [opNum, bigN, ByteArray.size], by simp [bigN, ByteArray.size], hv, ⟨by simp, by simp⟩, by simp, trivial⟩, by omega, trivial⟩
  | false =>
    simp only [cond_false]
    cases hM : headM (.mk kind value line col text kids) with
    | none => exact zeroEx_ok
    | some wr =>
      obtain ⟨w, rest⟩ := wr
      obtain ⟨hw, hr⟩ := headM_ok hok hM
      obtain ⟨y, rfl⟩ := headM_rest hM
      simp only
      cases hp : isPm w with
      | true =>
        simp only [cond_true]
        split
        · rename_i a b
          have ha := ih a (by simp) (hks a (by simp)) (hss a (by simp))
          have hb := ih b (by simp) (hks b (by simp)) (hss b (by simp))
          cases q1 : (exprP a).2 == 0 with
          | false => exact zeroEx_ok
          | true =>
            cases q2 : (exprP b).2 == 0 with
            | false => exact zeroEx_ok
            | true =>
              simp only [cond_true, Ex.ok, Ex.oks, Ex.small, Ex.smalls, List.length_nil, List.length_cons]
              exact ⟨⟨hw, by simp [bigN, ByteArray.size], by omega, ⟨by simp, by simp⟩, by simp [bigN], ha.1, hb.1, trivial⟩, by omega, ha.2, hb.2, trivial⟩
        · exact zeroEx_ok
      | false =>
        simp only [cond_false]
        cases nameB w with
        | false => exact zeroEx_ok
        | true =>
          have ht := termsM_ok hr
          simp only [cond_true]
          cases q1 : (termsM rest).2 == 0 with
          | false => exact zeroEx_ok
          | true =>
            simp at hl
            simp only [cond_true, Ex.ok, Ex.oks, Ex.small, Ex.smalls, List.length_nil]
            exact ⟨⟨by simp [opFlu, bigN, ByteArray.size], hw, by omega, ⟨by have := ht.2; unfold bigN; omega, ht.1⟩, by simp, trivial⟩, by have := ht.2; omega, trivial⟩
end Go.Proofs.Ytjlkapgpjamnkaa
namespace Go.Proofs.Ytjlkapgpjamnkaa
open Go.AM
def opAtom : ByteArray := ⟨#[97, 116, 111, 109]⟩
def opSame : ByteArray := ⟨#[115, 97, 109, 101]⟩
def opAnd : ByteArray := ⟨#[97, 110, 100]⟩
def opOr : ByteArray := ⟨#[111, 114]⟩
def opNot : ByteArray := ⟨#[110, 111, 116]⟩
def opImp : ByteArray := ⟨#[105, 109, 112, 108, 121]⟩
def opAll : ByteArray := ⟨#[102, 111, 114, 97, 108, 108]⟩
def opSome : ByteArray := ⟨#[101, 120, 105, 115, 116, 115]⟩
def opEq : ByteArray := ⟨#[61]⟩
def opLt : ByteArray := ⟨#[60]⟩
def opLe : ByteArray := ⟨#[60, 61]⟩
def opGt : ByteArray := ⟨#[62]⟩
def opGe : ByteArray := ⟨#[62, 61]⟩
def isCmp (op : ByteArray) : Bool := bEq op opLt || bEq op opLe || bEq op opEq
def isQ (op : ByteArray) : Bool := bEq op opAll || bEq op opSome
def zeroFm : Fm := .mk ⟨#[]⟩ ⟨#[]⟩ [] [] [] []
/-- the numbers of expressions and formulas of a form that has nk formulas, and whether it has parameters -/
def shapeOf (op : ByteArray) (nk : Nat) : Option (Nat × Nat × Bool) :=
  if bEq op opAtom then some (0, 0, false)
  else if bEq op opSame then some (0, 0, false)
  else if bEq op opLt then some (2, 0, false)
  else if bEq op opLe then some (2, 0, false)
  else if bEq op opEq then some (2, 0, false)
  else if bEq op opAnd then some (0, nk, false)
  else if bEq op opOr then some (0, nk, false)
  else if bEq op opNot then some (0, 1, false)
  else if bEq op opImp then some (0, 2, false)
  else if bEq op opAll then some (0, 1, true)
  else if bEq op opSome then some (0, 1, true)
  else none
def termsOk (op name : ByteArray) (args : List ByteArray) : Bool :=
  if bEq op opAtom then nameB name && args.all termB
  else if bEq op opSame then emptyB name && decide (args.length = 2) && args.all termB
  else emptyB name && args.isEmpty
def pmOk (p : Pm) : Bool := varB p.name && typedB p.type
def partsOk (op name : ByteArray) (args : List ByteArray) (params : List Pm) (ne nk : Nat) : Bool :=
  match shapeOf op nk with
  | none => false
  | some (e, m, q) => termsOk op name args && decide (ne = e) && decide (nk = m) && (params.isEmpty || q) && params.all pmOk
def formedMs : List Ex → Nat → Nat → Bool × Nat
  | [], _, c => (true, c)
  | e :: l, d, c => match formedM e d c with
    | (true, c') => formedMs l d c'
    | (false, c') => (false, c')
mutual
/-- what formula.shaped gives at depth d when c nodes have been counted -/
def shapedM : Fm → Nat → Nat → Bool × Nat
  | .mk op name args params exprs kids, d, c =>
    if c + 1 ≤ 4096 ∧ d ≤ 32 then
      (if partsOk op name args params exprs.length kids.length = true then (match formedMs exprs (d + 1) (c + 1) with
        | (true, c') => shapedMs kids (d + 1) c'
        | (false, c') => (false, c')) else (false, c + 1))
    else (false, c + 1)
def shapedMs : List Fm → Nat → Nat → Bool × Nat
  | [], _, c => (true, c)
  | k :: l, d, c => match shapedM k d c with
    | (true, c') => shapedMs l d c'
    | (false, c') => (false, c')
end
mutual
def shapedF : Fm → Bool
  | .mk op name args params exprs kids => partsOk op name args params exprs.length kids.length && exprs.all shapedE && shapedFs kids
def shapedFs : List Fm → Bool
  | [] => true
  | k :: l => shapedF k && shapedFs l
end
theorem shapedFs_iff : ∀ {l : List Fm}, (shapedFs l = true ↔ ∀ k ∈ l, shapedF k = true)
  | [] => by simp [shapedFs]
  | k :: l => by simp [shapedFs, shapedFs_iff (l := l)]
mutual
/-- the notation of a formula -/
def fmW : Fm → Sx
  | .mk op name args params exprs kids =>
    if bEq op opAtom then wordsM name args
    else if bEq op opSame then wordsM opEq args
    else if isCmp op = true then listM (wordM op :: exprs.map exW)
    else listM ((if (bEq op opAnd && kids.isEmpty) = true then [] else [wordM op]) ++ (if isQ op = true then [listM (paramsW params)] else []) ++ fmWs kids)
def fmWs : List Fm → List Sx
  | [] => []
  | k :: l => fmW k :: fmWs l
end
theorem fmWs_map : ∀ l : List Fm, fmWs l = l.map fmW
  | [] => rfl
  | k :: l => by simp [fmWs, fmWs_map l]
/-- what formula.Valid finds -/
def validF (f : Fm) : Bool := (shapedM f 0 0).1 && (svalid (fmW f) 0 0).1
end Go.Proofs.Ytjlkapgpjamnkaa
namespace Go.Proofs.Ytjlkapgpjamnkaa
open Go.AM
def kidsOf : Sx → List Sx
  | .mk _ _ _ _ _ kids => kids
def isWrd (x : Sx) : Bool := kindOf x == 1 && (svalid x 0 0).1
def pmsOf (t : ByteArray) (l : List ByteArray) : List Pm := l.map (⟨·, t⟩)
/-- the elements of a typed list behind `don`, of which `pen` have no type yet -/
def paramsL (vars : Bool) : List Sx → List Pm → List ByteArray → List Pm × Int
  | [], don, pen => (don ++ pmsOf opObj pen, 0)
  | x :: l, don, pen => bif isWrd x then
      (bif bEq (textOf x) opMin then (match l with
        | [] => ([], 2)
        | t :: l' => bif !pen.isEmpty && isWrd t then (bif typedB (textOf t) then paramsL vars l' (don ++ pmsOf (textOf t) pen) [] else ([], 8)) else ([], 2))
      else bif (bif vars then varB (textOf x) else nameB (textOf x)) then paramsL vars l don (pen ++ [textOf x]) else ([], 8))
    else ([], 2)
def paramsP (vars : Bool) (l : List Sx) : List Pm × Int := paramsL vars l [] []
def compareP (w : ByteArray) (x y : Sx) : Fm × Int :=
  bif bEq w opEq && kindOf x == 1 && kindOf y == 1 then (.mk opSame ⟨#[]⟩ (termsM [x, y]).1 [] [] [], (termsM [x, y]).2)
  else bif (exprP x).2 == 0 then (bif (exprP y).2 == 0 then
      (if bEq w opGt then (.mk opLt ⟨#[]⟩ [] [] [(exprP y).1, (exprP x).1] [], 0)
      else if bEq w opGe then (.mk opLe ⟨#[]⟩ [] [] [(exprP y).1, (exprP x).1] [], 0)
      else (.mk w ⟨#[]⟩ [] [] [(exprP x).1, (exprP y).1] [], 0)) else (zeroFm, (exprP y).2)) else (zeroFm, (exprP x).2)
def fin (r : Fm × Int) : Fm × Int := bif r.2 == 0 then r else (zeroFm, r.2)
def isCmp5 (w : ByteArray) : Bool := isCmp w || bEq w opGt || bEq w opGe
def isLst (w : ByteArray) : Bool := bEq w opNot || bEq w opImp || bEq w opAnd || bEq w opOr
mutual
/-- the formula with a notation and 0, or an error's number -/
def fmP : Sx → Fm × Int
  | .mk kind _ _ _ _ kids =>
    if kind = 3 then (match kids with
      | [] => (.mk opAnd ⟨#[]⟩ [] [] [] [], 0)
      | x :: rest => bif kindOf x == 1 then
        (bif decide (countW (textOf x) ≥ 0) && !(decide (countW (textOf x) = rest.length)) then (zeroFm, 2)
        else bif isQ (textOf x) then (match rest with
          | [] => (zeroFm, 2)
          | p :: body => bif kindOf p == 3 then (bif (paramsP true (kidsOf p)).2 == 0 then (match fmPs body with
              | (ks, c) => bif c == 0 then (.mk (textOf x) ⟨#[]⟩ [] (paramsP true (kidsOf p)).1 [] ks, 0) else (zeroFm, c))
            else (zeroFm, (paramsP true (kidsOf p)).2)) else (zeroFm, 2))
        else bif isLst (textOf x) then (match fmPs rest with
          | (ks, c) => bif c == 0 then (.mk (textOf x) ⟨#[]⟩ [] [] [] ks, 0) else (zeroFm, c))
        else bif isCmp5 (textOf x) then (match rest with
          | [a, b] => fin (compareP (textOf x) a b)
          | _ => (zeroFm, 2))
        else bif nameB (textOf x) then (bif (termsM rest).2 == 0 then (.mk opAtom (textOf x) (termsM rest).1 [] [] [], 0) else (zeroFm, (termsM rest).2))
        else (zeroFm, 8))
      else (zeroFm, 2)) else (zeroFm, 2)
def fmPs : List Sx → List Fm × Int
  | [] => ([], 0)
  | x :: l => match fmP x with
    | (f, c) => bif c == 0 then (match fmPs l with
      | (fs, c') => bif c' == 0 then (f :: fs, 0) else ([], c')) else ([], c)
end
end Go.Proofs.Ytjlkapgpjamnkaa
namespace Go.Proofs.Ytjlkapgpjamnkaa
open Go.AM
theorem name_ne {s w : ByteArray} (h : nameB s = true) (hw : nameB w = false) : bEq s w = false := by
  cases he : bEq s w with
  | false => rfl
  | true => rw [bEq_eq he, hw] at h; simp at h
theorem countW_eq (op : ByteArray) : countW op = if bEq op opNot then 1 else if bEq op opImp then 2 else if bEq op opAll then 2 else if bEq op opSome then 2 else if bEq op opEq then 2 else if bEq op opLt then 2 else if bEq op opLe then 2 else if bEq op opGt then 2 else if bEq op opGe then 2 else -1 := rfl
theorem name_count {s : ByteArray} (h : nameB s = true) : countW s = -1 ∧ isQ s = false ∧ isLst s = false ∧ isCmp5 s = false := by
  rw [countW_eq]
  unfold isQ isLst isCmp5 isCmp
  rw [name_ne h (w := opNot) (by decide), name_ne h (w := opImp) (by decide), name_ne h (w := opAll) (by decide), name_ne h (w := opSome) (by decide), name_ne h (w := opEq) (by decide), name_ne h (w := opLt) (by decide), name_ne h (w := opLe) (by decide), name_ne h (w := opGt) (by decide), name_ne h (w := opGe) (by decide), name_ne h (w := opAnd) (by decide), name_ne h (w := opOr) (by decide)]
  exact ⟨rfl, rfl, rfl, rfl⟩
/-- the forms, one by one -/
theorem partsOk_cases {op name : ByteArray} {args : List ByteArray} {params : List Pm} {ne nk : Nat} (h : partsOk op name args params ne nk = true) :
    (op = opAtom ∧ nameB name = true ∧ args.all termB = true ∧ params = [] ∧ ne = 0 ∧ nk = 0) ∨
    (op = opSame ∧ name = ⟨#[]⟩ ∧ args.length = 2 ∧ args.all termB = true ∧ params = [] ∧ ne = 0 ∧ nk = 0) ∨
    ((op = opLt ∨ op = opLe ∨ op = opEq) ∧ name = ⟨#[]⟩ ∧ args = [] ∧ params = [] ∧ ne = 2 ∧ nk = 0) ∨
    ((op = opAnd ∨ op = opOr ∨ (op = opNot ∧ nk = 1) ∨ (op = opImp ∧ nk = 2)) ∧ name = ⟨#[]⟩ ∧ args = [] ∧ params = [] ∧ ne = 0) ∨
    ((op = opAll ∨ op = opSome) ∧ name = ⟨#[]⟩ ∧ args = [] ∧ ne = 0 ∧ nk = 1 ∧ params.all pmOk = true) := by
  unfold partsOk shapeOf at h
  have t1 : ∀ o : ByteArray, bEq o opAtom = false → bEq o opSame = false → termsOk o name args = true → name = ⟨#[]⟩ ∧ args = [] := by
    intro o h1 h2 h3
    unfold termsOk at h3
    rw [h1, h2] at h3
    simp only [Bool.false_eq_true, if_false, Bool.and_eq_true, List.isEmpty_iff] at h3
    exact ⟨bEq_eq h3.1, h3.2⟩
  cases c1 : bEq op opAtom with
  | true =>
    have := bEq_eq c1
    subst this
    left
    simp [c1, termsOk, and_assoc] at h
    exact ⟨rfl, h.1, by simpa using h.2.1, h.2.2.2.2.1, h.2.2.1, h.2.2.2.1⟩
  | false =>
  cases c2 : bEq op opSame with
  | true =>
    have := bEq_eq c2
    subst this
    right; left
    simp [c1, c2, termsOk, and_assoc] at h
    obtain ⟨h1, h2, h3, h4, h5, h6, _⟩ := h
    exact ⟨rfl, bEq_eq h1, h2, by simpa using h3, h6, h4, h5⟩
  | false =>
    have t2 := t1 op c1 c2
    rw [c1, c2] at h
    simp only [Bool.false_eq_true, if_false] at h
    right; right
    by_cases c3 : bEq op opLt = true ∨ bEq op opLe = true ∨ bEq op opEq = true
    · left
      have h' : termsOk op name args = true ∧ ne = 2 ∧ nk = 0 ∧ params = [] := by
        split at h
        · simp at h
        · rename_i e m q he
          have : (e, m, q) = (2, 0, false) := by
            rcases c3 with c | c | c
            · simp [c] at he; simp [he]
            · by_cases c0 : bEq op opLt = true
              · simp [c0] at he; simp [he]
              · simp [c0, c] at he; simp [he]
            · by_cases c0 : bEq op opLt = true
              · simp [c0] at he; simp [he]
              · by_cases c00 : bEq op opLe = true
                · simp [c0, c00] at he; simp [he]
                · simp [c0, c00, c] at he; simp [he]
          simp at this
          obtain ⟨rfl, rfl, rfl⟩ := this
          simp [and_assoc] at h
          exact ⟨h.1, h.2.1, h.2.2.1, h.2.2.2.1⟩
      obtain ⟨g1, g2, g3, g4⟩ := h'
      obtain ⟨g5, g6⟩ := t2 g1
      exact ⟨c3.imp bEq_eq (fun c => c.imp bEq_eq bEq_eq), g5, g6, g4, g2, g3⟩
    · simp only [not_or, Bool.not_eq_true] at c3
      rw [c3.1, c3.2.1, c3.2.2] at h
      simp only [Bool.false_eq_true, if_false] at h
      right
      cases c4 : bEq op opAnd with
      | true =>
        left
        simp [c4, and_assoc] at h
        exact ⟨.inl (bEq_eq c4), (t2 h.1).1, (t2 h.1).2, h.2.2.1, h.2.1⟩
      | false =>
      cases c5 : bEq op opOr with
      | true =>
        left
        simp [c4, c5, and_assoc] at h
        exact ⟨.inr (.inl (bEq_eq c5)), (t2 h.1).1, (t2 h.1).2, h.2.2.1, h.2.1⟩
      | false =>
      cases c6 : bEq op opNot with
      | true =>
        left
        simp [c4, c5, c6, and_assoc] at h
        exact ⟨.inr (.inr (.inl ⟨bEq_eq c6, h.2.2.1⟩)), (t2 h.1).1, (t2 h.1).2, h.2.2.2.1, h.2.1⟩
      | false =>
      cases c7 : bEq op opImp with
      | true =>
        left
        simp [c4, c5, c6, c7, and_assoc] at h
        exact ⟨.inr (.inr (.inr ⟨bEq_eq c7, h.2.2.1⟩)), (t2 h.1).1, (t2 h.1).2, h.2.2.2.1, h.2.1⟩
      | false =>
      cases c8 : bEq op opAll with
      | true =>
        right
        simp [c4, c5, c6, c7, c8, and_assoc] at h
        exact ⟨.inl (bEq_eq c8), (t2 h.1).1, (t2 h.1).2, h.2.1, h.2.2.1, by simpa using h.2.2.2⟩
      | false =>
      cases c9 : bEq op opSome with
      | true =>
        right
        simp [c4, c5, c6, c7, c8, c9, and_assoc] at h
        exact ⟨.inr (bEq_eq c9), (t2 h.1).1, (t2 h.1).2, h.2.1, h.2.2.1, by simpa using h.2.2.2⟩
      | false => simp [c4, c5, c6, c7, c8, c9] at h
theorem midB_low {c : UInt8} (h : midB c = true) : lowB c = some c := by
  have h45 : c.toNat = 45 → c = 45 := fun e => UInt8.toNat_inj.1 (by rw [e]; try rfl)
  have h95 : c.toNat = 95 → c = 95 := fun e => UInt8.toNat_inj.1 (by rw [e]; try rfl)
  have hu : upB c = false := by
    unfold midB letB at h
    unfold upB
    simp at h ⊢
    omega
  have hw : wB c = true := by
    unfold wB digB
    unfold midB at h
    simp only [Bool.or_eq_true] at h ⊢
    rcases h with ((h | h) | h) | h
    · exact .inl (.inl h)
    · exact .inl (.inr h)
    · rw [h45 (by simpa using h)]; exact .inr (by decide)
    · rw [h95 (by simpa using h)]; exact .inr (by decide)
  unfold lowB
  rw [hu, hw]; try rfl
theorem lowL_mid : ∀ {l : List UInt8}, l.all midB = true → lowL l = some l
  | [], _ => rfl
  | c :: l, h => by
    simp only [List.all_cons, Bool.and_eq_true] at h
    simp only [lowL, midB_low h.1, lowL_mid h.2, Option.map_some]
theorem bytesOk_mid {l : List UInt8} (h : bytesOkB l = true) : l.all midB = true := by
  cases l with
  | nil => rfl
  | cons c l =>
    simp only [bytesOkB, Bool.and_eq_true] at h
    simp only [List.all_cons, Bool.and_eq_true]
    exact ⟨letB_mid h.1, h.2⟩
theorem word_of {s : ByteArray} (h1 : 0 < s.size) (h2 : s.size ≤ 32) (h3 : lowL s.data.toList = some s.data.toList) (h4 : ∀ c l, s.data.toList = c :: l → digB c = false ∧ c ≠ 45) : wordB s = true := by
  have hl : lowS s = (s, true) := by
    unfold lowS
    rw [if_pos ⟨h1, h2⟩, h3]
  unfold wordB
  rw [hl]
  have hn : numB s = false := by
    have hsz : s.data.toList ≠ [] := by
      intro e
      have : s.data.toList.length = 0 := by rw [e]; try rfl
      rw [Array.length_toList] at this
      have : s.size = 0 := this
      omega
    unfold numB trimB
    cases he : s.data.toList with
    | nil => exact (hsz he).elim
    | cons c l =>
      obtain ⟨g1, g2⟩ := h4 c l he
      split
      · rename_i e; simp at e; exact (g2 e.1).elim
      · rw [he, List.all_cons, g1]; try rfl
  simp [hn, bEq]
theorem name_word {s : ByteArray} (h : nameB s = true) : wordB s = true := by
  unfold nameB at h
  simp only [Bool.and_eq_true, decide_eq_true_eq] at h
  obtain ⟨⟨⟨h1, h2⟩, h3⟩, _⟩ := h
  refine word_of h2 h3 (lowL_mid (bytesOk_mid h1)) ?_
  intro c l he
  rw [he] at h1
  simp only [bytesOkB, Bool.and_eq_true] at h1
  have h4 := h1.1
  unfold letB at h4
  simp at h4
  refine ⟨by unfold digB; simp; omega, fun e => ?_⟩
  subst e
  simp at h4
theorem var_word {s : ByteArray} (h : varB s = true) : wordB s = true ∧ bEq s opMin = false := by
  unfold varB at h
  simp only [Bool.and_eq_true, decide_eq_true_eq] at h
  obtain ⟨⟨⟨h1, h2⟩, h3⟩, h4⟩ := h
  cases he : s.data.toList with
  | nil => rw [he] at h3; simp at h3
  | cons c l =>
    rw [he] at h3
    simp at h3
    have hc : c = 63 := UInt8.toNat_inj.1 (by rw [h3]; try rfl)
    subst hc
    have hx : (s.extract 1 s.size).data.toList = l := by
      have : (s.extract 1 s.size).data.toList = (s.data.toList.take s.size).drop 1 := by
        simp [ByteArray.data_extract, List.drop_take]
      rw [this, List.take_of_length_le (by rw [Array.length_toList]; exact Nat.le_refl _), he]; rfl
    unfold nameB at h4
    simp only [Bool.and_eq_true] at h4
    have h5 := bytesOk_mid h4.1.1.1
    rw [hx] at h5
    refine ⟨word_of (by omega) h2 ?_ ?_, ?_⟩
    · rw [he]
      simp only [lowL, lowL_mid h5]
      rfl
    · intro d m hd
      rw [he] at hd
      simp at hd
      rw [← hd.1]
      exact ⟨by decide, by decide⟩
    · unfold bEq
      rw [he]
      simp [opMin]
theorem isWrd_word {s : ByteArray} (h : wordB s = true) : isWrd (wordM s) = true := by
  unfold isWrd wordM
  simp [kindOf, svalid, h]
theorem typed_word {s : ByteArray} (h : typedB s = true) : wordB s = true := by
  unfold typedB at h
  simp only [Bool.or_eq_true] at h
  rcases h with h | h
  · exact name_word h
  · rw [bEq_eq h]; decide
theorem paramsL_W : ∀ (l : List Pm) (don : List Pm), l.all pmOk = true → paramsL true (paramsW l) don [] = (don ++ l, 0)
  | [], don, _ => by simp [paramsW, paramsL, pmsOf]
  | p :: l, don, h => by
    simp only [List.all_cons, Bool.and_eq_true] at h
    obtain ⟨h1, h2⟩ := h
    unfold pmOk at h1
    simp only [Bool.and_eq_true] at h1
    obtain ⟨g1, g2⟩ := var_word h1.1
    have t1 : ∀ s : ByteArray, textOf (wordM s) = s := fun _ => rfl
    have w1 : isWrd (wordM ⟨#[45]⟩) = true := isWrd_word (by decide)
    have w2 : bEq (⟨#[45]⟩ : ByteArray) opMin = true := by decide
    simp only [paramsW]
    rw [paramsL, isWrd_word g1, t1, g2, h1.1]
    simp only [cond_true, cond_false, List.nil_append]
    rw [paramsL, w1, t1, w2]
    simp only [cond_true, isWrd_word (typed_word h1.2), t1, h1.2]
    simp only [List.isEmpty_cons, Bool.not_false, Bool.true_and, cond_true, pmsOf, List.map_cons, List.map_nil]
    rw [paramsL_W l _ h2]
    simp
theorem paramsP_W {l : List Pm} (h : l.all pmOk = true) : paramsP true (paramsW l) = (l, 0) := by
  unfold paramsP
  rw [paramsL_W l [] h]; rfl
theorem fmPs_map : ∀ (l : List Fm), (∀ k ∈ l, fmP (fmW k) = (k, 0)) → fmPs (l.map fmW) = (l, 0)
  | [], _ => rfl
  | k :: l, h => by
    simp only [List.map_cons, fmPs, h k (by simp), beq_self_eq_true, cond_true, fmPs_map l (fun q hq => h q (by simp [hq]))]
theorem fmP_fmW : ∀ f : Fm, shapedF f = true → fmP (fmW f) = (f, 0) := by
  refine Fm.ind ?_
  intro op name args params exprs kids ih hs
  unfold shapedF at hs
  simp only [Bool.and_eq_true] at hs
  obtain ⟨⟨h1, h2⟩, h3⟩ := hs
  rw [shapedFs_iff] at h3
  have hk := fmPs_map kids (fun k hk => ih k hk (h3 k hk))
  have t1 : ∀ s : ByteArray, textOf (wordM s) = s := fun _ => rfl
  have t2 : ∀ s : ByteArray, kindOf (wordM s) = 1 := fun _ => rfl
  rcases partsOk_cases h1 with ⟨rfl, hn, ha, rfl, he, hk0⟩ | ⟨rfl, rfl, hl, ha, rfl, he, hk0⟩ | ⟨ho, rfl, rfl, rfl, he, hk0⟩ | ⟨ho, rfl, rfl, rfl, he⟩ | ⟨ho, rfl, rfl, he, hk1, hp⟩
  · obtain rfl := List.length_eq_zero_iff.1 he
    obtain rfl := List.length_eq_zero_iff.1 hk0
    obtain ⟨n1, n2, n3, n4⟩ := name_count hn
    unfold fmW
    rw [if_pos (by decide)]
    unfold wordsM listM
    simp only [List.map_cons]
    unfold fmP
    simp only [t1, t2, n1, n2, n3, n4, hn, termsM_words args ha, beq_self_eq_true, cond_true, cond_false, if_true]
    rfl
  · obtain rfl := List.length_eq_zero_iff.1 he
    obtain rfl := List.length_eq_zero_iff.1 hk0
    match args, hl with
    | [a, b], _ =>
      unfold fmW
      rw [if_neg (by decide), if_pos (by decide)]
      have e := termsM_words [a, b] ha
      simp only [List.map_cons, List.map_nil] at e
      unfold wordsM listM
      simp only [List.map_cons, List.map_nil]
      unfold fmP
      simp only [t1, t2]
      have c1 : countW opEq = 2 := by decide
      have c2 : isQ opEq = false := by decide
      have c3 : isLst opEq = false := by decide
      have c4 : isCmp5 opEq = true := by decide
      have c5 : bEq opEq opEq = true := by decide
      simp only [c1, c2, c3, c4, compareP, c5, t2, e, fin, beq_self_eq_true, cond_true, cond_false, if_true, List.length_cons, List.length_nil, Bool.and_self]
      rfl
  · obtain rfl := List.length_eq_zero_iff.1 hk0
    match exprs, he with
    | [a, b], _ =>
      simp only [List.all_cons, Bool.and_eq_true] at h2
      have ea := exprP_exW a h2.1
      have eb := exprP_exW b h2.2.1
      have key : ∀ w : ByteArray, bEq w opAtom = false → bEq w opSame = false → isCmp w = true → countW w = 2 → isQ w = false → isLst w = false → bEq w opGt = false → bEq w opGe = false → (bEq w opEq && kindOf (exW a) == 1 && kindOf (exW b) == 1) = false →
          fmP (fmW (.mk w ⟨#[]⟩ [] [] [a, b] [])) = (.mk w ⟨#[]⟩ [] [] [a, b] [], 0) := by
        intro w k1 k2 k3 k4 k5 k6 k7 k8 k9
        unfold fmW
        rw [k1, k2, k3]
        simp only [Bool.false_eq_true, if_false, if_true, List.map_cons, List.map_nil]
        unfold listM fmP
        have k10 : isCmp5 w = true := by unfold isCmp5; rw [k3]; try rfl
        simp only [t1, t2, k4, k5, k6, k10, compareP, k9, ea, eb, k7, k8, fin, beq_self_eq_true, cond_true, cond_false, if_true, List.length_cons, List.length_nil, Bool.false_eq_true, if_false]
        rfl
      have hkn : kindOf (exW a) ≠ 1 := by
        obtain ⟨o, n, v, ar, ks⟩ := a
        unfold exW
        split
        · simp [kindOf]
        · split
          · simp [wordsM, listM, kindOf]
          · split <;> simp [listM, kindOf]
      have hkb : (kindOf (exW a) == 1) = false := by simpa using hkn
      rcases ho with rfl | rfl | rfl
      · exact key opLt (by decide) (by decide) (by decide) (by decide) (by decide) (by decide) (by decide) (by decide) (by rw [hkb]; simp)
      · exact key opLe (by decide) (by decide) (by decide) (by decide) (by decide) (by decide) (by decide) (by decide) (by rw [hkb]; simp)
      · exact key opEq (by decide) (by decide) (by decide) (by decide) (by decide) (by decide) (by decide) (by decide) (by rw [hkb]; simp)
  · obtain rfl := List.length_eq_zero_iff.1 he
    have key : ∀ w : ByteArray, bEq w opAtom = false → bEq w opSame = false → isCmp w = false → isQ w = false → (bEq w opAnd && kids.isEmpty) = false → isLst w = true → (decide (countW w ≥ 0) && !(decide (countW w = kids.length))) = false →
        fmP (fmW (.mk w ⟨#[]⟩ [] [] [] kids)) = (.mk w ⟨#[]⟩ [] [] [] kids, 0) := by
      intro w k1 k2 k3 k4 k5 k6 k7
      unfold fmW
      rw [k1, k2, k3, k4, k5, fmWs_map]
      simp only [Bool.false_eq_true, if_false, List.append_nil, List.singleton_append]
      unfold listM fmP
      have k8 : (decide (countW w ≥ 0) && !(decide (countW w = (kids.map fmW).length))) = false := by rw [List.length_map]; exact k7
      simp only [t1, t2, k8, k4, k6, hk, beq_self_eq_true, cond_true, cond_false, if_true]
    rcases ho with rfl | rfl | ⟨rfl, hn⟩ | ⟨rfl, hn⟩
    · cases kids with
      | nil => rfl
      | cons k ks => exact key opAnd (by decide) (by decide) (by decide) (by decide) (by simp) (by decide) (by rw [show decide (countW opAnd ≥ 0) = false by decide]; try rfl)
    · exact key opOr (by decide) (by decide) (by decide) (by decide) (by rw [show bEq opOr opAnd = false by decide]; try rfl) (by decide) (by rw [show decide (countW opOr ≥ 0) = false by decide]; try rfl)
    · exact key opNot (by decide) (by decide) (by decide) (by decide) (by rw [show bEq opNot opAnd = false by decide]; try rfl) (by decide) (by rw [hn]; decide)
    · exact key opImp (by decide) (by decide) (by decide) (by decide) (by rw [show bEq opImp opAnd = false by decide]; try rfl) (by decide) (by rw [hn]; decide)
  · obtain rfl := List.length_eq_zero_iff.1 he
    have t3 : ∀ l, kindOf (listM l) = 3 := fun _ => rfl
    have t4 : ∀ l, kidsOf (listM l) = l := fun _ => rfl
    have key : ∀ w : ByteArray, bEq w opAtom = false → bEq w opSame = false → isCmp w = false → isQ w = true → bEq w opAnd = false → countW w = 2 →
        fmP (fmW (.mk w ⟨#[]⟩ [] params [] kids)) = (.mk w ⟨#[]⟩ [] params [] kids, 0) := by
      intro w k1 k2 k3 k4 k5 k6
      unfold fmW
      rw [k1, k2, k3, k4, k5, fmWs_map]
      simp only [Bool.false_eq_true, if_false, if_true, Bool.false_and, List.cons_append, List.nil_append]
      generalize hm : kids.map fmW = M at hk
      have hml : M.length = 1 := by rw [← hm, List.length_map]; exact hk1
      unfold listM fmP
      have k8 : (decide ((2 : Int) ≥ 0) && !(decide ((2 : Int) = ((listM (paramsW params) :: M).length : Int)))) = false := by rw [List.length_cons, hml]; decide
      unfold listM at k8 t3 t4
      simp only [t1, t2, k6, k8, k4, t3, t4, paramsP_W hp, hk, beq_self_eq_true, cond_true, cond_false, if_true]
    rcases ho with rfl | rfl
    · exact key opAll (by decide) (by decide) (by decide) (by decide) (by decide) (by decide)
    · exact key opSome (by decide) (by decide) (by decide) (by decide) (by decide) (by decide)
end Go.Proofs.Ytjlkapgpjamnkaa
namespace Go.Proofs.Ytjlkapgpjamnkaa
open Go.AM
set_option maxHeartbeats 4000000
set_option maxRecDepth 20000
theorem textOf_okQ {x : Sx} (h : x.ok) : (textOf x).size ≤ bigN := by
  obtain ⟨_, _, _, _, t, _⟩ := x
  simp only [Sx.ok] at h
  exact h.2.2.1
theorem pms_in (n : Nat) (l : List Pm) : inNR n (pmRows l) := by
  induction l with
  | nil => simp only [pmRows, List.map_nil, inNR]
  | cons a l ih => simp only [pmRows, List.map_cons, inNR, pmRow, inNL, inN, and_true, true_and] at ih ⊢; exact ih
theorem exs_in (n : Nat) : ∀ l : List Ex, inNR n (Ex.rows l)
  | [] => by simp only [Ex.rows, inNR]
  | k :: ks => by simp only [Ex.rows, inNR]; exact ⟨ex_in n k, exs_in n ks⟩
theorem fm_in (n : Nat) : ∀ f : Fm, inNL n f.cells := by
  refine Fm.ind ?_
  intro op name args params exprs kids ih
  have : inNR n (Fm.rows kids) := by
    clear op name args params exprs
    induction kids with
    | nil => simp only [Fm.rows, inNR]
    | cons k ks ih2 =>
      simp only [Fm.rows, inNR]
      exact ⟨ih k (by simp), ih2 fun q hq => ih q (by simp [hq])⟩
  simp only [Fm.cells, inNL, inN, and_true, true_and]
  exact ⟨strs_in n args, pms_in n params, exs_in n exprs, this⟩
theorem fms_in (n : Nat) : ∀ l : List Fm, inNR n (Fm.rows l)
  | [] => by simp only [Fm.rows, inNR]
  | k :: ks => by simp only [Fm.rows, inNR]; exact ⟨fm_in n k, fms_in n ks⟩
theorem fm_frz (n : Nat) (h : Heap) (f : Fm) : FrzL n h f.cells f.cells := by
  have hi := fm_in n f
  obtain ⟨op, name, args, params, exprs, kids⟩ := f
  simp only [Fm.cells, inNL, inN, and_true, true_and] at hi
  simp only [Fm.cells, FrzL, FrzTo, and_true, true_and]
  exact ⟨.inl hi.1, .inl hi.2.1, .inl hi.2.2.1, .inl hi.2.2.2⟩
theorem fms_frz (n : Nat) (h : Heap) : ∀ l : List Fm, FrzR n h (Fm.rows l) (Fm.rows l)
  | [] => by simp only [Fm.rows, FrzR]
  | k :: ks => by simp only [Fm.rows, FrzR]; exact ⟨fm_frz n h k, fms_frz n h ks⟩
theorem tl_frzF {h : Heap} {id0 n : Nat} {p : PV} {l : List Fm} (hn : n ≤ id0) (t : Tl h id0 6 p (Fm.rows l)) : FrzTo n h (.imm 6 (Fm.rows l)) p := by
  simp only [FrzTo]
  rcases t with ⟨h1, h2⟩ | ⟨id, h1, h2, rfl, ho⟩
  · exact .inr (.inl ⟨h1, h2.symm⟩)
  · refine .inr (.inr ⟨id, 0, _, _, rfl, by omega, ho, by omega, ?_⟩)
    rw [List.drop_zero, List.take_of_length_le (by omega)]
    exact fms_frz _ _ _
theorem fmPs_nil : ∀ l : List Sx, ((fmPs l).2 == 0) = false → (fmPs l).1 = []
  | [], h => by simp [fmPs] at h
  | x :: l, h => by
    simp only [fmPs] at h ⊢
    cases hq : (fmP x).2 == 0 with
    | false => simp only [cond_false]
    | true =>
      rw [hq] at h
      simp only [cond_true] at h ⊢
      cases hr : (fmPs l).2 == 0 with
      | false => simp only [cond_false]
      | true => rw [hr] at h; simp at h
theorem kids_c {l : List Sx} (hl : l.length ≤ 1048576) (hf : ∀ x ∈ l, ∀ h : Heap, PCall Try.prog 73 [.agg x.cells] h fun r h' => r = .tup [.agg (fmP x).1.cells, errP (fmP x).2] ∧ h' = h) (h : Heap) :
    PCall Try.prog 116 [.imm 6 (Sx.rows l)] h fun r h' => r = .tup [.imm 6 (Fm.rows (fmPs l).1), errP (fmPs l).2] ∧ h' = h := by
  refine PCall.frz Ty.hb_116 ?_
  have hll := Sx.rows_len l
  refine pcall_body (ow := fun _ => false) (wf := fun _ => false) Ty.mixed Try.func116 rfl Ty.hb_116 (by rw [Try.ntmps116]; simp) ?_
  rw [Try.ntmps116, Try.results116]
  repeat' (first | (refine a_seq (fun K hK => ?_)) | (refine a_block ?_) | (refine a_regionS ?_; simp (maxSteps := 2000000) only [Ty.w, simprocAttr, hll]) | (refine hK _ _ ?_; clear hK; (try simp only [pst0, simprocAttr])))
  refine a_loop (fun m S h' => S 9 = .imm 6 (Sx.rows l) ∧ S 10 = .sc (.int .i64 l.length) ∧ ∃ (k : Nat) (o : PV) (pre : List Fm), S 11 = .sc (.int .i64 k) ∧ S 4 = o ∧ k ≤ l.length ∧ m = l.length - k ∧ Grow h h' ∧ pre.length = k ∧ Tl h' h.next 6 o (Fm.rows pre) ∧
    fmPs l = (bif (fmPs (l.drop k)).2 == 0 then (pre ++ (fmPs (l.drop k)).1, 0) else ([], (fmPs (l.drop k)).2))) l.length ?_ ?_
  · simp only [Ty.w, simprocAttr]
    refine ⟨0, _, [], rfl, rfl, by omega, rfl, Grow.refl _, rfl, Tl.nil, ?_⟩
    rw [List.drop_zero]
    cases hq : (fmPs l).2 == 0
    · simp only [cond_false]; rw [← fmPs_nil l hq]
    · have h0 : (fmPs l).2 = 0 := by simpa using hq
      simp only [cond_true, List.nil_append]; rw [← h0]
  · rintro m S h' ⟨g9, g10, k, o, pre, g11, g4, hk, rfl, hg, hpl, tl, hinv⟩
    by_cases hlt : k < l.length
    · have hd : decide ((k : Int) < (l.length : Int)) = true := by simp; omega
      have w7 : IntKind.i64.wrap ((k : Int) + 1) = k + 1 := by rw [wrap64 (by omega) (by omega)]
      obtain ⟨x, hx⟩ : ∃ x, l[k]? = some x := ⟨_, List.getElem?_eq_getElem hlt⟩
      have hr := Sx.rows_get hx
      have hc := hf x (List.mem_of_getElem? hx)
      rw [drop_of_get hx] at hinv
      simp only [fmPs] at hinv
      generalize hE : fmP x = E at hc hinv
      obtain ⟨f, c⟩ := E
      simp only at hc hinv
      clear hE hf
      obtain ⟨ki, va, li, co, te, ks⟩ := x
      simp only [Sx.cells] at hr hc
      have n3 : (h'.next = h'.next + 1) = False := by simp
      cases hcc : c == 0 with
      | false =>
        rw [hcc] at hinv
        simp only [cond_false] at hinv
        have e0 : errP c = errV c := by simp only [errP, hcc, cond_false]
        rw [e0] at hc
        simp only [errV] at hc
        have hq : fmPs l = ([], c) := by rw [hinv]; simp only [hcc, cond_false]
        rw [hq]
        obtain ⟨fop, fna, far, fpa, fex, fki⟩ := f
        simp only [Fm.cells] at hc
        repeat' (first | (refine a_seq (fun K hK => ?_)) | (refine a_regionS ?_; simp (maxSteps := 2000000) only [Ty.w, simprocAttr, g9, g10, g11, g4, hd, hr]) | (refine a_skip ?_; (try simp only [pst0, simprocAttr])) | (refine a_cond _ (by (try simp (maxSteps := 2000000) only [Ty.w, simprocAttr, g9, g10, g11, g4, hd, hr]); rfl) (fun hb => ?_) (fun hb => ?_) <;> (try simp only [hb0, decide_eq_true_eq, decide_eq_false_iff_not, simprocAttr] at hb) <;> (try (exfalso; omega))) | (refine hK _ _ ?_; clear hK; (try simp only [pst0, simprocAttr])))
        refine owp_useQ (hc _) (by (try simp only [Ty.w, simprocAttr, g9, g10, g11, g4, hd, hr]); try rfl) ?_; simp (maxSteps := 2000000) only [Ty.w, simprocAttr, g9, g10, g11, g4, hd, hr]
        repeat' (first | (refine a_seq (fun K hK => ?_)) | ((first | refine a_regionS ?_ | refine a_ret ?_); simp (maxSteps := 2000000) only [Ty.w, simprocAttr, g9, g10, g11, g4, hd, hr, n3, nsucc]) | (refine hK _ _ ?_; clear hK; (try simp only [pst0, simprocAttr])))
        rw [e0]
        refine ⟨?_, (((hg.new _).set hg.le _).new _).set (show h.next ≤ h'.next + 1 by have := hg.le; omega) _⟩
        simp only [errV, Fm.rows, FrzTo, FrzL]
        exact ⟨_, rfl, .inr (.inl ⟨rfl, .inr rfl⟩), rfl, trivial⟩
      | true =>
        have e0 : errP c = .sc .nilIface := by simp only [errP, hcc, cond_true]
        rw [e0] at hc
        have hto := tl_one tl
        have hrows : Fm.rows (pre ++ [f]) = Fm.rows pre ++ [f.cells] := by simp only [Fm.rows_map, List.map_append, List.map_cons, List.map_nil]
        obtain ⟨fop, fna, far, fpa, fex, fki⟩ := f
        simp only [Fm.cells] at hc hrows
        generalize hH2 : ((((h'.new (.arr 6 [[.sc (.int .i64 0), .sc (.int .i64 0), .sc (.int .i64 0), .sc (.int .i64 0), .sc (.string ⟨#[]⟩), .sc (.slice none 0 0)]])).set h'.next (.arr 6 [[.sc (.int .i64 ki), .sc (.int .i64 va), .sc (.int .i64 li), .sc (.int .i64 co), sPV te, .imm 6 (Sx.rows ks)]])).new (.arr 6 [[.sc (.string ⟨#[]⟩), .sc (.string ⟨#[]⟩), .sc (.slice none 0 0), .sc (.slice none 0 0), .sc (.slice none 0 0), .sc (.slice none 0 0)]])).set (h'.next + 1) (.arr 6 [[sPV fop, sPV fna, .imm 1 (strRows far), .imm 2 (pmRows fpa), .imm 5 (Ex.rows fex), .imm 6 (Fm.rows fki)]])) = H2
        have hnn : H2.next = h'.next + 1 + 1 := by rw [← hH2]; simp [Heap.new, Heap.set]
        have hold : ∀ j, j < h'.next → H2.obj j = h'.obj j := fun j hj => by
          have a1 : ¬ j = h'.next := by omega
          have a2 : ¬ j = h'.next + 1 := by omega
          rw [← hH2]
          simp only [Heap.new, Heap.set, a1, a2, if_false]
        have tl2 := tl.up (h' := H2) (by omega) (fun j _ hj => hold j hj)
        have hg2 : Grow h H2 := by rw [← hH2]; exact (((hg.new _).set hg.le _).new _).set (show h.next ≤ h'.next + 1 by have := hg.le; omega) _
        obtain ⟨H, t1, t2, t3, t4, t5⟩ := tl2.tail
        have hkp := t5 h ⟨hg2.le, hg2.old⟩ (Nat.le_refl _)
        have hgH : Grow h H := ⟨hkp.1, hkp.2⟩
        have hpr : (Fm.rows pre).length = k := by rw [Fm.rows_len]; exact hpl
        have hb : (k + 1) * 128 ≤ 140737488355328 := by omega
        have hob : H2.obj (h'.next + 1) = some (.arr 6 [[sPV fop, sPV fna, .imm 1 (strRows far), .imm 2 (pmRows fpa), .imm 5 (Ex.rows fex), .imm 6 (Fm.rows fki)]]) := by rw [← hH2]; simp [Heap.set]
        repeat' (first | (refine a_seq (fun K hK => ?_)) | (refine a_regionS ?_; simp (maxSteps := 2000000) only [Ty.w, simprocAttr, g9, g10, g11, g4, hd, hr]) | (refine a_skip ?_; (try simp only [pst0, simprocAttr])) | (refine a_cond _ (by (try simp (maxSteps := 2000000) only [Ty.w, simprocAttr, g9, g10, g11, g4, hd, hr]); rfl) (fun hb => ?_) (fun hb => ?_) <;> (try simp only [hb0, decide_eq_true_eq, decide_eq_false_iff_not, simprocAttr] at hb) <;> (try (exfalso; omega))) | (refine hK _ _ ?_; clear hK; (try simp only [pst0, simprocAttr])))
        refine owp_useQ (hc _) (by (try simp only [Ty.w, simprocAttr, g9, g10, g11, g4, hd, hr]); try rfl) ?_; simp (maxSteps := 2000000) only [Ty.w, simprocAttr, g9, g10, g11, g4, hd, hr]
        repeat' (first | (refine a_seq (fun K hK => ?_)) | ((first | refine a_regionS ?_ | refine a_region (fun K hK => ?_)); simp (maxSteps := 2000000) only [Ty.w, simprocAttr, g9, g10, g11, g4, n3, nsucc, hH2, hob, t1, t2, hpr, hb, w7]) | (refine a_skip ?_; (try simp only [pst0, simprocAttr])) | (refine a_cond _ (by (try simp (maxSteps := 2000000) only [Ty.w, simprocAttr, g9, g10, g11, g4, n3, nsucc, hH2, hob, t1, t2, hpr, hb, w7]); rfl) (fun hb => ?_) (fun hb => ?_) <;> (try simp only [hb0, decide_eq_true_eq, decide_eq_false_iff_not, simprocAttr] at hb) <;> (try (exfalso; omega))) | (refine hK _ _ ?_; clear hK; (try simp only [pst0, simprocAttr])) | (rw [if_pos]; rotate_left 1; omega; simp (maxSteps := 2000000) only [Ty.w, simprocAttr, g9, g10, g11, g4, n3, nsucc, hH2, hob, t1, t2, hpr, hb, w7]))
        rw [← hrows]
        have hgr := Tl.grow (H := H) (id0 := h.next) (z := 6) (len := k + 1) (rows := Fm.rows (pre ++ [Fm.mk fop fna far fpa fex fki])) hkp.1 (by rw [Fm.rows_len]; simp [hpl])
        refine ⟨l.length - (k + 1), by omega, k + 1, .own H.next 0 (k + 1), pre ++ [Fm.mk fop fna far fpa fex fki], by simp, by rw [t3, hnn], by omega, rfl, hgH.new _, by simp [hpl], hgr, ?_⟩
        rw [hinv, hcc]
        simp only [cond_true]
        cases hq : (fmPs (List.drop (k + 1) l)).2 == 0 with
        | false => simp only [hq, cond_false]
        | true => simp only [cond_true, beq_self_eq_true, List.append_assoc, List.cons_append, List.nil_append]
    · have hd : decide ((k : Int) < (l.length : Int)) = false := by simp; omega
      rw [List.drop_eq_nil_of_le (by omega)] at hinv
      have hq : fmPs l = (pre, 0) := by rw [hinv]; simp [fmPs]
      repeat' (first | (refine a_seq (fun K hK => ?_)) | ((first | refine a_regionS ?_ | refine a_ret ?_); simp (maxSteps := 2000000) only [Ty.w, simprocAttr, g9, g10, g11, g4, hd]) | (refine a_exit ?_; (try simp only [pst0, simprocAttr])) | (refine a_cond _ (by (try simp (maxSteps := 2000000) only [Ty.w, simprocAttr, g9, g10, g11, g4, hd]); rfl) (fun hb => ?_) (fun hb => ?_) <;> (try simp only [hb0, decide_eq_true_eq, decide_eq_false_iff_not, simprocAttr] at hb) <;> (try (exfalso; omega))) | ((first | refine hK _ _ ?_ | (clear hK; refine hK _ _ ?_)); clear hK; (try simp only [pst0, simprocAttr])))
      have e2 : errP 0 = .sc .nilIface := rfl
      rw [hq]
      simp only [e2]
      refine ⟨?_, hg⟩
      have h1 := tl_frzF (Nat.le_refl _) tl
      unfold FrzTo
      refine ⟨_, rfl, ?_⟩
      unfold FrzL
      refine ⟨h1, ?_⟩
      unfold FrzL
      exact ⟨by simp only [FrzTo], by simp only [FrzL]⟩
end Go.Proofs.Ytjlkapgpjamnkaa
namespace Go.Proofs.Ytjlkapgpjamnkaa
open Go.AM
set_option maxHeartbeats 4000000
set_option maxRecDepth 20000
theorem compare_c {w : ByteArray} {x y : Sx} (hx : x.ok) (hy : y.ok)
    (cx : ∀ h : Heap, PCall Try.prog 75 [.agg x.cells] h fun r h' => r = .tup [.agg (exprP x).1.cells, errP (exprP x).2] ∧ h' = h)
    (cy : ∀ h : Heap, PCall Try.prog 75 [.agg y.cells] h fun r h' => r = .tup [.agg (exprP y).1.cells, errP (exprP y).2] ∧ h' = h) (h : Heap) :
    PCall Try.prog 117 [sPV w, .agg x.cells, .agg y.cells] h fun r h' => r = .tup [.agg (compareP w x y).1.cells, errP (compareP w x y).2] ∧ h' = h := by
  refine PCall.frz Ty.hb_117 ?_
  have ht := fun h : Heap => terms_c (l := [x, y]) (by simp) (by simp [hx, hy]) h
  generalize hF : compareP w x y = F
  unfold compareP at hF
  have hti := strs_in
  generalize termsM [x, y] = T at ht hF
  obtain ⟨t, c⟩ := T
  have hi1 := ex_in
  generalize exprP x = X at cx hF
  obtain ⟨ex, c1⟩ := X
  generalize exprP y = Y at cy hF
  obtain ⟨ey, c2⟩ := Y
  obtain ⟨kx, vx, lx, ox, tx, sx⟩ := x
  obtain ⟨ky, vy, ly, oy, ty, sy⟩ := y
  obtain ⟨aop, ana, an, aar, aki⟩ := ex
  obtain ⟨bop, bna, bn, bar, bki⟩ := ey
  simp only [kindOf] at hF
  simp only [Sx.rows, Sx.cells, Ex.cells] at ht cx cy ⊢
  have hgr : ∀ r, Grow h ((h.new (.arr 6 [[.sc (.string ⟨#[]⟩), .sc (.string ⟨#[]⟩), .sc (.slice none 0 0), .sc (.slice none 0 0), .sc (.slice none 0 0), .sc (.slice none 0 0)]])).set h.next r) := fun r => ((Grow.refl h).new _).set (Nat.le_refl _) _
  refine pcall_body (ow := fun _ => false) (wf := fun _ => false) Ty.mixed Try.func117 rfl Ty.hb_117 (by rw [Try.ntmps117]; simp) ?_
  rw [Try.ntmps117, Try.results117]
  repeat' (first | (with_reducible refine a_hold 1 ?_) | (refine a_seq (fun K hK => ?_)) | (refine a_regionS ?_; simp (maxSteps := 2000000) only [Ty.w, simprocAttr]) | (refine hK _ _ ?_; clear hK; (try simp only [pst0, simprocAttr])))
  refine ⟨?_⟩
  refine a_cut (fun S h' => S 0 = sPV w ∧ S 4 = .cptr (Sx.mk kx vx lx ox tx sx).cells ∧ S 5 = .cptr (Sx.mk ky vy ly oy ty sy).cells ∧ S 6 = .ptr h.next 0 0 ∧ h' = h.new (.arr 6 [[.sc (.string ⟨#[]⟩), .sc (.string ⟨#[]⟩), .sc (.slice none 0 0), .sc (.slice none 0 0), .sc (.slice none 0 0), .sc (.slice none 0 0)]]) ∧ (bEq w opEq && kx == 1 && ky == 1) = false) ?_ ?_
  · clear cx cy
    simp only [Sx.cells]
    cases q1 : (w.data.toList == (#[61] : Array UInt8).toList) with
    | false =>
      have q1' : bEq w opEq = false := q1
      repeat' (first | (refine a_seq (fun K hK => ?_)) | (refine a_regionS ?_; simp (maxSteps := 2000000) only [Ty.w, simprocAttr, q1]) | (refine a_skip ?_; (try simp only [pst0, simprocAttr])) | (refine a_cond _ (by (try simp (maxSteps := 2000000) only [Ty.w, simprocAttr, q1]); rfl) (fun hb => ?_) (fun hb => ?_) <;> (try simp only [hb0, decide_eq_true_eq, decide_eq_false_iff_not, simprocAttr] at hb) <;> (try (exfalso; omega))) | (refine hK _ _ ?_; clear hK; (try simp only [pst0, simprocAttr])))
      all_goals first | rfl | (simp only [Ty.w, simprocAttr, q1', Bool.false_and]; done)
    | true =>
      have q1' : bEq w opEq = true := q1
      cases q2 : (kx == 1) with
      | false =>
        repeat' (first | (refine a_seq (fun K hK => ?_)) | (refine a_regionS ?_; simp (maxSteps := 2000000) only [Ty.w, simprocAttr, q1, q2]) | (refine a_skip ?_; (try simp only [pst0, simprocAttr])) | (refine a_cond _ (by (try simp (maxSteps := 2000000) only [Ty.w, simprocAttr, q1, q2]); rfl) (fun hb => ?_) (fun hb => ?_) <;> (try simp only [hb0, decide_eq_true_eq, decide_eq_false_iff_not, simprocAttr] at hb) <;> (try (exfalso; omega))) | (refine hK _ _ ?_; clear hK; (try simp only [pst0, simprocAttr])))
        all_goals first | rfl | (simp only [Ty.w, simprocAttr, q1', q2, Bool.false_and, Bool.true_and]; done)
      | true =>
        cases q3 : (ky == 1) with
        | false =>
          repeat' (first | (refine a_seq (fun K hK => ?_)) | (refine a_regionS ?_; simp (maxSteps := 2000000) only [Ty.w, simprocAttr, q1, q2, q3]) | (refine a_skip ?_; (try simp only [pst0, simprocAttr])) | (refine a_cond _ (by (try simp (maxSteps := 2000000) only [Ty.w, simprocAttr, q1, q2, q3]); rfl) (fun hb => ?_) (fun hb => ?_) <;> (try simp only [hb0, decide_eq_true_eq, decide_eq_false_iff_not, simprocAttr] at hb) <;> (try (exfalso; omega))) | (refine hK _ _ ?_; clear hK; (try simp only [pst0, simprocAttr])))
          all_goals first | rfl | (simp only [Ty.w, simprocAttr, q1', q2, q3, Bool.true_and]; done)
        | true =>
          rw [q1', q2, q3] at hF
          simp only [Bool.and_true, cond_true] at hF
          subst hF
          cases hc : c == 0 with
          | true =>
            have e0 : errP c = .sc .nilIface := by simp only [errP, hc, cond_true]
            rw [e0] at ht ⊢
            repeat' (first | (refine a_seq (fun K hK => ?_)) | (refine a_regionS ?_; simp (maxSteps := 2000000) only [Ty.w, simprocAttr, q1, q2, q3]) | (refine hK _ _ ?_; clear hK; (try simp only [pst0, simprocAttr])))
            refine owp_useQ (ht _) (by (try simp only [Ty.w, simprocAttr, q1, q2, q3]); try rfl) ?_; simp (maxSteps := 2000000) only [Ty.w, simprocAttr, q1, q2, q3]
            repeat' (first | (refine a_seq (fun K hK => ?_)) | ((first | refine a_regionS ?_ | refine a_ret ?_); simp (maxSteps := 2000000) only [Ty.w, simprocAttr]) | (refine hK _ _ ?_; clear hK; (try simp only [pst0, simprocAttr])))
            refine ⟨?_, hgr _⟩
            simp only [opSame, Fm.cells, Ex.rows, Fm.rows, pmRows, List.map_nil, FrzTo, FrzL]
            exact ⟨_, rfl, ⟨_, rfl, rfl, rfl, .inl ⟨rfl, hti _ _⟩, .inr (.inl ⟨rfl, .inr rfl⟩), .inr (.inl ⟨rfl, .inr rfl⟩), .inr (.inl ⟨rfl, .inr rfl⟩), trivial⟩, rfl, trivial⟩
          | false =>
            have e0 : errP c = errV c := by simp only [errP, hc, cond_false]
            rw [e0] at ht ⊢
            simp only [errV] at ht ⊢
            repeat' (first | (refine a_seq (fun K hK => ?_)) | (refine a_regionS ?_; simp (maxSteps := 2000000) only [Ty.w, simprocAttr, q1, q2, q3]) | (refine hK _ _ ?_; clear hK; (try simp only [pst0, simprocAttr])))
            refine owp_useQ (ht _) (by (try simp only [Ty.w, simprocAttr, q1, q2, q3]); try rfl) ?_; simp (maxSteps := 2000000) only [Ty.w, simprocAttr, q1, q2, q3]
            repeat' (first | (refine a_seq (fun K hK => ?_)) | ((first | refine a_regionS ?_ | refine a_ret ?_); simp (maxSteps := 2000000) only [Ty.w, simprocAttr]) | (refine hK _ _ ?_; clear hK; (try simp only [pst0, simprocAttr])))
            refine ⟨?_, hgr _⟩
            simp only [opSame, Fm.cells, Ex.rows, Fm.rows, pmRows, List.map_nil, FrzTo, FrzL]
            exact ⟨_, rfl, ⟨_, rfl, rfl, rfl, .inl ⟨rfl, hti _ _⟩, .inr (.inl ⟨rfl, .inr rfl⟩), .inr (.inl ⟨rfl, .inr rfl⟩), .inr (.inl ⟨rfl, .inr rfl⟩), trivial⟩, rfl, trivial⟩
  · rintro S h' ⟨g0, g4, g5, g6, rfl, hq⟩
    rw [hq] at hF
    clear ht hq
    simp only [cond_false] at hF
    simp only [Sx.cells] at g4 g5
    have n1 : (h.next = h.next + 1) = False := by simp
    have n2 : (h.next = h.next + 1 + 1) = False := by simp; omega
    have n3 : (h.next + 1 = h.next + 1 + 1) = False := by simp
    have hgr2 : ∀ o1 o2 r, Grow h ((((h.new (.arr 6 [[.sc (.string ⟨#[]⟩), .sc (.string ⟨#[]⟩), .sc (.slice none 0 0), .sc (.slice none 0 0), .sc (.slice none 0 0), .sc (.slice none 0 0)]])).new o1).set (h.next + 1) o2).set h.next r) := fun o1 o2 r => ((((Grow.refl h).new _).new _).set (Nat.le_succ _) _).set (Nat.le_refl _) _
    have hgr3 : ∀ o1 o2 o3 o4 r, Grow h ((((((h.new (.arr 6 [[.sc (.string ⟨#[]⟩), .sc (.string ⟨#[]⟩), .sc (.slice none 0 0), .sc (.slice none 0 0), .sc (.slice none 0 0), .sc (.slice none 0 0)]])).new o1).set (h.next + 1) o2).new o3).set (h.next + 1 + 1) o4).set h.next r) := fun o1 o2 o3 o4 r => ((((((Grow.refl h).new _).new _).set (Nat.le_succ _) _).new _).set (by omega) _).set (Nat.le_refl _) _
    cases hc1 : c1 == 0 with
    | false =>
      rw [hc1] at hF
      simp only [cond_false] at hF
      subst hF
      have e0 : errP c1 = errV c1 := by simp only [errP, hc1, cond_false]
      rw [e0] at cx ⊢
      simp only [errV] at cx ⊢
      repeat' (first | (refine a_seq (fun K hK => ?_)) | (refine a_regionS ?_; simp (maxSteps := 2000000) only [Ty.w, simprocAttr, g0, g4, g5, g6]))
      refine owp_useQ (cx _) (by (try simp only [Ty.w, simprocAttr, g0, g4, g5, g6]); try rfl) ?_; simp (maxSteps := 2000000) only [Ty.w, simprocAttr, g0, g4, g5, g6]
      repeat' (first | (refine a_seq (fun K hK => ?_)) | ((first | refine a_regionS ?_ | refine a_ret ?_); simp (maxSteps := 2000000) only [Ty.w, simprocAttr, g0, g4, g5, g6, n1, nsucc]) | (refine hK _ _ ?_; clear hK; (try simp only [pst0, simprocAttr])))
      refine ⟨?_, hgr2 _ _ _⟩
      simp only [zeroFm, Fm.cells, Ex.rows, Fm.rows, pmRows, strRows, List.map_nil, FrzTo, FrzL]
      exact ⟨_, rfl, ⟨_, rfl, rfl, rfl, .inr (.inl ⟨rfl, .inr rfl⟩), .inr (.inl ⟨rfl, .inr rfl⟩), .inr (.inl ⟨rfl, .inr rfl⟩), .inr (.inl ⟨rfl, .inr rfl⟩), trivial⟩, rfl, trivial⟩
    | true =>
      rw [hc1] at hF
      simp only [cond_true] at hF
      have e0 : errP c1 = .sc .nilIface := by simp only [errP, hc1, cond_true]
      rw [e0] at cx
      cases hc2 : c2 == 0 with
      | false =>
        rw [hc2] at hF
        simp only [cond_false] at hF
        subst hF
        have e1 : errP c2 = errV c2 := by simp only [errP, hc2, cond_false]
        rw [e1] at cy ⊢
        simp only [errV] at cy ⊢
        repeat' (first | (refine a_seq (fun K hK => ?_)) | (refine a_regionS ?_; simp (maxSteps := 2000000) only [Ty.w, simprocAttr, g0, g4, g5, g6]))
        refine owp_useQ (cx _) (by (try simp only [Ty.w, simprocAttr, g0, g4, g5, g6]); try rfl) ?_; simp (maxSteps := 2000000) only [Ty.w, simprocAttr, g0, g4, g5, g6]
        repeat' (first | (refine a_seq (fun K hK => ?_)) | (refine a_regionS ?_; simp (maxSteps := 2000000) only [Ty.w, simprocAttr, g0, g4, g5, g6, n1, nsucc]) | (refine a_skip ?_; (try simp only [pst0, simprocAttr])) | (refine a_cond _ (by (try simp (maxSteps := 2000000) only [Ty.w, simprocAttr, g0, g4, g5, g6, n1, nsucc]); rfl) (fun hb => ?_) (fun hb => ?_) <;> (try simp only [hb0, decide_eq_true_eq, decide_eq_false_iff_not, simprocAttr] at hb) <;> (try (exfalso; omega))) | (refine hK _ _ ?_; clear hK; (try simp only [pst0, simprocAttr])))
        refine owp_useQ (cy _) (by (try simp only [Ty.w, simprocAttr, g0, g4, g5, g6]); try rfl) ?_; simp (maxSteps := 2000000) only [Ty.w, simprocAttr, g0, g4, g5, g6]
        repeat' (first | (refine a_seq (fun K hK => ?_)) | ((first | refine a_regionS ?_ | refine a_ret ?_); simp (maxSteps := 2000000) only [Ty.w, simprocAttr, g0, g4, g5, g6, n1, n2, n3, nsucc]) | (refine hK _ _ ?_; clear hK; (try simp only [pst0, simprocAttr])))
        refine ⟨?_, hgr3 _ _ _ _ _⟩
        simp only [zeroFm, Fm.cells, Ex.rows, Fm.rows, pmRows, strRows, List.map_nil, FrzTo, FrzL]
        exact ⟨_, rfl, ⟨_, rfl, rfl, rfl, .inr (.inl ⟨rfl, .inr rfl⟩), .inr (.inl ⟨rfl, .inr rfl⟩), .inr (.inl ⟨rfl, .inr rfl⟩), .inr (.inl ⟨rfl, .inr rfl⟩), trivial⟩, rfl, trivial⟩
      | true =>
        rw [hc2] at hF
        simp only [cond_true] at hF
        have e1 : errP c2 = .sc .nilIface := by simp only [errP, hc2, cond_true]
        rw [e1] at cy
        have e2 : errP 0 = .sc .nilIface := rfl
        cases p1 : (w.data.toList == (#[62] : Array UInt8).toList) with
        | true =>
          rw [if_pos (show bEq w opGt = true from p1)] at hF
          subst hF
          repeat' (first | (refine a_seq (fun K hK => ?_)) | (refine a_regionS ?_; simp (maxSteps := 2000000) only [Ty.w, simprocAttr, g0, g4, g5, g6]))
          refine owp_useQ (cx _) (by (try simp only [Ty.w, simprocAttr, g0, g4, g5, g6]); try rfl) ?_; simp (maxSteps := 2000000) only [Ty.w, simprocAttr, g0, g4, g5, g6]
          repeat' (first | (refine a_seq (fun K hK => ?_)) | (refine a_regionS ?_; simp (maxSteps := 2000000) only [Ty.w, simprocAttr, g0, g4, g5, g6, n1, nsucc]) | (refine a_skip ?_; (try simp only [pst0, simprocAttr])) | (refine a_cond _ (by (try simp (maxSteps := 2000000) only [Ty.w, simprocAttr, g0, g4, g5, g6, n1, nsucc]); rfl) (fun hb => ?_) (fun hb => ?_) <;> (try simp only [hb0, decide_eq_true_eq, decide_eq_false_iff_not, simprocAttr] at hb) <;> (try (exfalso; omega))) | (refine hK _ _ ?_; clear hK; (try simp only [pst0, simprocAttr])))
          refine owp_useQ (cy _) (by (try simp only [Ty.w, simprocAttr, g0, g4, g5, g6]); try rfl) ?_; simp (maxSteps := 2000000) only [Ty.w, simprocAttr, g0, g4, g5, g6]
          repeat' (first | (refine a_seq (fun K hK => ?_)) | ((first | refine a_regionS ?_ | refine a_ret ?_); simp (maxSteps := 2000000) only [Ty.w, simprocAttr, g0, g4, g5, g6, n1, n2, n3, nsucc, p1]) | (refine a_skip ?_; (try simp only [pst0, simprocAttr])) | (refine a_cond _ (by (try simp (maxSteps := 2000000) only [Ty.w, simprocAttr, g0, g4, g5, g6, n1, n2, n3, nsucc, p1]); rfl) (fun hb => ?_) (fun hb => ?_) <;> (try simp only [hb0, decide_eq_true_eq, decide_eq_false_iff_not, simprocAttr] at hb) <;> (try (exfalso; omega))) | (refine hK _ _ ?_; clear hK; (try simp only [pst0, simprocAttr])))
          refine ⟨?_, hgr3 _ _ _ _ _⟩
          simp only [e2, opLt, Fm.cells, Ex.cells, Ex.rows, Fm.rows, pmRows, strRows, List.map_nil, FrzTo, FrzL]
          exact ⟨_, rfl, ⟨_, rfl, rfl, rfl, .inr (.inl ⟨rfl, .inr rfl⟩), .inr (.inl ⟨rfl, .inr rfl⟩), .inl ⟨rfl, exs_in _ [.mk bop bna bn bar bki, .mk aop ana an aar aki]⟩, .inr (.inl ⟨rfl, .inr rfl⟩), trivial⟩, rfl, trivial⟩
        | false =>
          rw [if_neg (show ¬ bEq w opGt = true by rw [show bEq w opGt = false from p1]; simp)] at hF
          cases p2 : (w.data.toList == (#[62, 61] : Array UInt8).toList) with
          | true =>
            rw [if_pos (show bEq w opGe = true from p2)] at hF
            subst hF
            repeat' (first | (refine a_seq (fun K hK => ?_)) | (refine a_regionS ?_; simp (maxSteps := 2000000) only [Ty.w, simprocAttr, g0, g4, g5, g6]))
            refine owp_useQ (cx _) (by (try simp only [Ty.w, simprocAttr, g0, g4, g5, g6]); try rfl) ?_; simp (maxSteps := 2000000) only [Ty.w, simprocAttr, g0, g4, g5, g6]
            repeat' (first | (refine a_seq (fun K hK => ?_)) | (refine a_regionS ?_; simp (maxSteps := 2000000) only [Ty.w, simprocAttr, g0, g4, g5, g6, n1, nsucc]) | (refine a_skip ?_; (try simp only [pst0, simprocAttr])) | (refine a_cond _ (by (try simp (maxSteps := 2000000) only [Ty.w, simprocAttr, g0, g4, g5, g6, n1, nsucc]); rfl) (fun hb => ?_) (fun hb => ?_) <;> (try simp only [hb0, decide_eq_true_eq, decide_eq_false_iff_not, simprocAttr] at hb) <;> (try (exfalso; omega))) | (refine hK _ _ ?_; clear hK; (try simp only [pst0, simprocAttr])))
            refine owp_useQ (cy _) (by (try simp only [Ty.w, simprocAttr, g0, g4, g5, g6]); try rfl) ?_; simp (maxSteps := 2000000) only [Ty.w, simprocAttr, g0, g4, g5, g6]
            repeat' (first | (refine a_seq (fun K hK => ?_)) | ((first | refine a_regionS ?_ | refine a_ret ?_); simp (maxSteps := 2000000) only [Ty.w, simprocAttr, g0, g4, g5, g6, n1, n2, n3, nsucc, p1, p2]) | (refine a_skip ?_; (try simp only [pst0, simprocAttr])) | (refine a_cond _ (by (try simp (maxSteps := 2000000) only [Ty.w, simprocAttr, g0, g4, g5, g6, n1, n2, n3, nsucc, p1, p2]); rfl) (fun hb => ?_) (fun hb => ?_) <;> (try simp only [hb0, decide_eq_true_eq, decide_eq_false_iff_not, simprocAttr] at hb) <;> (try (exfalso; omega))) | (refine hK _ _ ?_; clear hK; (try simp only [pst0, simprocAttr])))
            refine ⟨?_, hgr3 _ _ _ _ _⟩
            simp only [e2, opLe, Fm.cells, Ex.cells, Ex.rows, Fm.rows, pmRows, strRows, List.map_nil, FrzTo, FrzL]
            exact ⟨_, rfl, ⟨_, rfl, rfl, rfl, .inr (.inl ⟨rfl, .inr rfl⟩), .inr (.inl ⟨rfl, .inr rfl⟩), .inl ⟨rfl, exs_in _ [.mk bop bna bn bar bki, .mk aop ana an aar aki]⟩, .inr (.inl ⟨rfl, .inr rfl⟩), trivial⟩, rfl, trivial⟩
          | false =>
            rw [if_neg (show ¬ bEq w opGe = true by rw [show bEq w opGe = false from p2]; simp)] at hF
            subst hF
            repeat' (first | (refine a_seq (fun K hK => ?_)) | (refine a_regionS ?_; simp (maxSteps := 2000000) only [Ty.w, simprocAttr, g0, g4, g5, g6]))
            refine owp_useQ (cx _) (by (try simp only [Ty.w, simprocAttr, g0, g4, g5, g6]); try rfl) ?_; simp (maxSteps := 2000000) only [Ty.w, simprocAttr, g0, g4, g5, g6]
            repeat' (first | (refine a_seq (fun K hK => ?_)) | (refine a_regionS ?_; simp (maxSteps := 2000000) only [Ty.w, simprocAttr, g0, g4, g5, g6, n1, nsucc]) | (refine a_skip ?_; (try simp only [pst0, simprocAttr])) | (refine a_cond _ (by (try simp (maxSteps := 2000000) only [Ty.w, simprocAttr, g0, g4, g5, g6, n1, nsucc]); rfl) (fun hb => ?_) (fun hb => ?_) <;> (try simp only [hb0, decide_eq_true_eq, decide_eq_false_iff_not, simprocAttr] at hb) <;> (try (exfalso; omega))) | (refine hK _ _ ?_; clear hK; (try simp only [pst0, simprocAttr])))
            refine owp_useQ (cy _) (by (try simp only [Ty.w, simprocAttr, g0, g4, g5, g6]); try rfl) ?_; simp (maxSteps := 2000000) only [Ty.w, simprocAttr, g0, g4, g5, g6]
            repeat' (first | (refine a_seq (fun K hK => ?_)) | (refine a_block ?_) | ((first | refine a_regionS ?_ | refine a_ret ?_); simp (maxSteps := 2000000) only [Ty.w, simprocAttr, g0, g4, g5, g6, n1, n2, n3, nsucc, p1, p2]) | (refine a_skip ?_; (try simp only [pst0, simprocAttr])) | (refine a_cond _ (by (try simp (maxSteps := 2000000) only [Ty.w, simprocAttr, g0, g4, g5, g6, n1, n2, n3, nsucc, p1, p2]); rfl) (fun hb => ?_) (fun hb => ?_) <;> (try simp only [hb0, decide_eq_true_eq, decide_eq_false_iff_not, simprocAttr] at hb) <;> (try (exfalso; omega))) | (refine hK _ _ ?_; clear hK; (try simp only [pst0, simprocAttr])))
            refine ⟨?_, hgr3 _ _ _ _ _⟩
            simp only [e2, Fm.cells, Ex.cells, Ex.rows, Fm.rows, pmRows, strRows, List.map_nil, FrzTo, FrzL]
            exact ⟨_, rfl, ⟨_, rfl, rfl, rfl, .inr (.inl ⟨rfl, .inr rfl⟩), .inr (.inl ⟨rfl, .inr rfl⟩), .inl ⟨rfl, exs_in _ [.mk aop ana an aar aki, .mk bop bna bn bar bki]⟩, .inr (.inl ⟨rfl, .inr rfl⟩), trivial⟩, rfl, trivial⟩
end Go.Proofs.Ytjlkapgpjamnkaa
namespace Go.Proofs.Ytjlkapgpjamnkaa
open Go.AM
set_option maxHeartbeats 4000000
set_option maxRecDepth 20000
theorem pms_step {don : List Pm} {pen : List ByteArray} {t s : ByteArray} {j : Nat} (hj : pen[j]? = some s) :
    (pmRows (don ++ pmsOf t (pen.take j) ++ pmsOf opObj (pen.drop j)))[don.length + j]? = some [sPV s, sPV opObj] ∧
    (pmRows (don ++ pmsOf t (pen.take j) ++ pmsOf opObj (pen.drop j))).set (don.length + j) [sPV s, sPV t] = pmRows (don ++ pmsOf t (pen.take (j + 1)) ++ pmsOf opObj (pen.drop (j + 1))) := by
  have hjl : j < pen.length := (List.getElem?_eq_some_iff.1 hj).1
  have hA : (pmRows (don ++ pmsOf t (pen.take j))).length = don.length + j := by simp [pmRows, pmsOf]; omega
  have e1 : pmRows (don ++ pmsOf t (pen.take j) ++ pmsOf opObj (pen.drop j)) = pmRows (don ++ pmsOf t (pen.take j)) ++ ([sPV s, sPV opObj] :: pmRows (pmsOf opObj (pen.drop (j + 1)))) := by
    rw [drop_of_get hj]; simp [pmRows, pmsOf, pmRow]
  have e2 : pmRows (don ++ pmsOf t (pen.take (j + 1)) ++ pmsOf opObj (pen.drop (j + 1))) = pmRows (don ++ pmsOf t (pen.take j)) ++ ([sPV s, sPV t] :: pmRows (pmsOf opObj (pen.drop (j + 1)))) := by
    rw [List.take_add_one, hj]; simp [pmRows, pmsOf, pmRow]
  rw [e1, e2]
  constructor
  · rw [List.getElem?_append_right (by omega), hA]; simp
  · rw [List.set_append_right _ _ (by omega), hA]; simp
theorem paramsL_cons (vars : Bool) (x : Sx) (l : List Sx) (don : List Pm) (pen : List ByteArray) : paramsL vars (x :: l) don pen = (bif isWrd x then
      (bif bEq (textOf x) opMin then (match l with
        | [] => ([], 2)
        | t :: l' => bif !pen.isEmpty && isWrd t then (bif typedB (textOf t) then paramsL vars l' (don ++ pmsOf (textOf t) pen) [] else ([], 8)) else ([], 2))
      else bif (bif vars then varB (textOf x) else nameB (textOf x)) then paramsL vars l don (pen ++ [textOf x]) else ([], 8))
    else ([], 2)) := by
  cases l <;> (conv => lhs; unfold paramsL)
theorem a_gen {P : Program} {ow : Nat → Bool} {wf : FuncId → Bool} {n : Nat} {Q : Post} {s : Slots} {h : Heap} {c : Code} (I : Slots → Heap → Prop) (hi : I s h) (hh : ∀ s h, I s h → awp P ow wf n c Q s h) : awp P ow wf n c Q s h := hh _ _ hi
theorem pms_scal (l : List Pm) : ∀ r ∈ pmRows l, ∀ p ∈ r, ∃ v, p = PV.sc v := by
  intro r hr p hp
  simp only [pmRows, List.mem_map] at hr
  obtain ⟨x, _, rfl⟩ := hr
  simp only [pmRow, List.mem_cons, List.not_mem_nil, or_false] at hp
  rcases hp with rfl | rfl
  · exact ⟨_, rfl⟩
  · exact ⟨_, rfl⟩
theorem pms_frzP {h : Heap} {id0 : Nat} {p : PV} {l : List Pm} (t : Tl h id0 2 p (pmRows l)) : FrzTo id0 h (.imm 2 (pmRows l)) p := t.frz (pms_scal l)
theorem parseParams_c {vars : Bool} {l : List Sx} (hl : l.length ≤ 1048576) (hok : ∀ x ∈ l, x.ok) (h : Heap) :
    PCall Try.prog 115 [.imm 6 (Sx.rows l), .sc (.bool vars)] h fun r h' => r = .tup [.imm 2 (pmRows (paramsP vars l).1), errP (paramsP vars l).2] ∧ h' = h := by
  refine PCall.frz Ty.hb_115 ?_
  have hll := Sx.rows_len l
  generalize hF : paramsP vars l = F
  have bad : ∀ (c : Int) (h' : Heap), c = 2 ∨ c = 8 → Grow h h' → F = ([], c) → FrzTo h.next h' (.tup [.imm 2 (pmRows F.1), errP F.2]) (.tup [.sc (.slice none 0 0), errV c]) ∧ Grow h h' := by
    intro c h' hc hg hf
    subst hf
    have : errP c = errV c := by rcases hc with rfl | rfl <;> rfl
    simp only [this]
    refine ⟨?_, hg⟩
    simp only [errV, pmRows, List.map_nil, FrzTo, FrzL]
    exact ⟨_, rfl, .inr (.inl ⟨rfl, .inr rfl⟩), rfl, trivial⟩
  simp only [errV] at bad
  refine pcall_body (ow := fun _ => false) (wf := fun _ => false) Ty.mixed Try.func115 rfl Ty.hb_115 (by rw [Try.ntmps115]; simp) ?_
  rw [Try.ntmps115, Try.results115]
  repeat' (first | (refine a_seq (fun K hK => ?_)) | (refine a_block ?_) | (refine a_regionS ?_; simp (maxSteps := 2000000) only [Ty.w, simprocAttr]) | (refine hK _ _ ?_; clear hK; (try simp only [pst0, simprocAttr])))
  refine a_loop (fun m S h' => S 0 = .imm 6 (Sx.rows l) ∧ S 1 = .sc (.bool vars) ∧ ∃ (k : Nat) (o : PV) (don : List Pm) (pen : List ByteArray), S 8 = .sc (.int .i64 k) ∧ S 6 = o ∧ S 7 = .sc (.int .i64 don.length) ∧ k ≤ l.length ∧ m = l.length - k ∧ don.length + pen.length ≤ k ∧ Grow h h' ∧ Tl h' h.next 2 o (pmRows (don ++ pmsOf opObj pen)) ∧ F = paramsL vars (l.drop k) don pen) l.length ?_ ?_
  · simp only [Ty.w, simprocAttr]
    exact ⟨0, _, [], [], rfl, rfl, rfl, by omega, rfl, by simp, Grow.refl _, Tl.nil, by rw [← hF]; try rfl⟩
  · rintro m S h' ⟨g0, g1, k, o, don, pen, g8, g6, g7, hk, rfl, hdp, hg, tl, hinv⟩
    clear hF
    by_cases hlt : k < l.length
    · have hd : decide ((k : Int) < (l.length : Int)) = true := by simp; omega
      have w7 : IntKind.i64.wrap ((k : Int) + 1) = k + 1 := by rw [wrap64 (by omega) (by omega)]
      obtain ⟨x, hx⟩ : ∃ x, l[k]? = some x := ⟨_, List.getElem?_eq_getElem hlt⟩
      have hr := Sx.rows_get hx
      have hxk := hok x (List.mem_of_getElem? hx)
      have hv := fun h : Heap => svalid_c hxk h
      have hte := textOf_okQ hxk
      rw [drop_of_get hx] at hinv
      simp only [paramsL_cons, isWrd] at hinv
      generalize svalid x 0 0 = V at hv hinv
      obtain ⟨vb, vn⟩ := V
      obtain ⟨ki, va, li, co, te, ks⟩ := x
      simp only [kindOf, textOf] at hinv hte
      simp only [Sx.cells] at hr hv
      have hte' : te.size ≤ 9223372036854775807 := by unfold bigN at hte; omega
      cases q1 : (ki != 1) with
      | true =>
        rw [show (ki == 1) = false by simpa using q1] at hinv
        simp only [Bool.false_and, cond_false] at hinv
        repeat' (first | (refine a_seq (fun K hK => ?_)) | ((first | refine a_regionS ?_ | refine a_ret ?_); simp (maxSteps := 2000000) only [Ty.w, simprocAttr, g0, g1, g6, g7, g8, hll, hd, hr, q1]) | (refine a_skip ?_; (try simp only [pst0, simprocAttr])) | (refine a_cond _ (by (try simp (maxSteps := 2000000) only [Ty.w, simprocAttr, g0, g1, g6, g7, g8, hll, hd, hr, q1]); rfl) (fun hb => ?_) (fun hb => ?_) <;> (try simp only [hb0, decide_eq_true_eq, decide_eq_false_iff_not, simprocAttr] at hb) <;> (try (exfalso; omega))) | (refine hK _ _ ?_; clear hK; (try simp only [pst0, simprocAttr])))
        exact bad 2 _ (.inl rfl) hg hinv
      | false =>
        rw [show (ki == 1) = true by simpa using q1] at hinv
        cases vb with
        | false =>
          simp only [Bool.and_false, cond_false] at hinv
          repeat' (first | (refine a_seq (fun K hK => ?_)) | (refine a_regionS ?_; simp (maxSteps := 2000000) only [Ty.w, simprocAttr, g0, g1, g6, g7, g8, hll, hd, hr, q1]) | (refine a_skip ?_; (try simp only [pst0, simprocAttr])) | (refine a_cond _ (by (try simp (maxSteps := 2000000) only [Ty.w, simprocAttr, g0, g1, g6, g7, g8, hll, hd, hr, q1]); rfl) (fun hb => ?_) (fun hb => ?_) <;> (try simp only [hb0, decide_eq_true_eq, decide_eq_false_iff_not, simprocAttr] at hb) <;> (try (exfalso; omega))) | (refine hK _ _ ?_; clear hK; (try simp only [pst0, simprocAttr])))
          refine owp_useQ (hv _) (by (try simp only [Ty.w, simprocAttr, g0, g1, g6, g7, g8, hll, hd, hr, q1, Bool.not_false]); try rfl) ?_; simp (maxSteps := 2000000) only [Ty.w, simprocAttr, g0, g1, g6, g7, g8, hll, hd, hr, q1, Bool.not_false]
          repeat' (first | (refine a_seq (fun K hK => ?_)) | ((first | refine a_regionS ?_ | refine a_ret ?_); simp (maxSteps := 2000000) only [Ty.w, simprocAttr, g0, g1, g6, g7, g8, Bool.not_false]) | (refine hK _ _ ?_; clear hK; (try simp only [pst0, simprocAttr])))
          exact bad 2 _ (.inl rfl) hg hinv
        | true =>
          simp only [Bool.and_self, cond_true] at hinv
          repeat' (first | (with_reducible refine a_hold 9 ?_) | (refine a_seq (fun K hK => ?_)) | (refine a_regionS ?_; simp (maxSteps := 2000000) only [Ty.w, simprocAttr, g0, g1, g6, g7, g8, hll, hd, hr, q1]) | (refine a_skip ?_; (try simp only [pst0, simprocAttr])) | (refine a_cond _ (by (try simp (maxSteps := 2000000) only [Ty.w, simprocAttr, g0, g1, g6, g7, g8, hll, hd, hr, q1]); rfl) (fun hb => ?_) (fun hb => ?_) <;> (try simp only [hb0, decide_eq_true_eq, decide_eq_false_iff_not, simprocAttr] at hb) <;> (try (exfalso; omega))) | (refine hK _ _ ?_; clear hK; (try simp only [pst0, simprocAttr])))
          refine owp_useQ (hv _) (by (try simp only [Ty.w, simprocAttr, g0, g1, g6, g7, g8, hll, hd, hr, q1, Bool.not_true]); try rfl) ?_; simp (maxSteps := 2000000) only [Ty.w, simprocAttr, g0, g1, g6, g7, g8, hll, hd, hr, q1, Bool.not_true]
          repeat' (first | (with_reducible refine a_hold 9 ?_) | (refine a_seq (fun K hK => ?_)) | (refine a_regionS ?_; simp (maxSteps := 2000000) only [Ty.w, simprocAttr, g0, g1, g6, g7, g8, hr, Bool.not_true]) | (refine a_skip ?_; (try simp only [pst0, simprocAttr])) | (refine a_cond _ (by (try simp (maxSteps := 2000000) only [Ty.w, simprocAttr, g0, g1, g6, g7, g8, hr, Bool.not_true]); rfl) (fun hb => ?_) (fun hb => ?_) <;> (try simp only [hb0, decide_eq_true_eq, decide_eq_false_iff_not, simprocAttr] at hb) <;> (try (exfalso; omega))) | (refine hK _ _ ?_; clear hK; (try simp only [pst0, simprocAttr])))
          refine ⟨?_⟩
          refine a_gen (fun S h2 => S 0 = .imm 6 (Sx.rows l) ∧ S 1 = .sc (.bool vars) ∧ S 6 = o ∧ S 7 = .sc (.int .i64 don.length) ∧ S 8 = .sc (.int .i64 k) ∧ S 9 = sPV te ∧ h2 = h') ?_ ?_
          · simp only [Ty.w, simprocAttr, g0, g1, g6, g7, g8]
          clear g0 g1 g6 g7 g8 hv hr q1
          rintro S h' ⟨g0, g1, g6, g7, g8, g9, rfl⟩
          have hrl : (pmRows (don ++ pmsOf opObj pen)).length = don.length + pen.length := by rw [pmRows_len]; simp [pmsOf]
          obtain ⟨n, hn⟩ : ∃ n, n = don.length + pen.length := ⟨_, rfl⟩
          rw [← hn] at hrl
          cases q2 : (te.data.toList == (#[45] : Array UInt8).toList) with
          | false =>
            rw [show bEq te opMin = false from q2] at hinv
            simp only [cond_false] at hinv
            have hap : pmRows (don ++ pmsOf opObj pen) ++ [[.sc (.string te), .sc (.string ⟨#[111, 98, 106, 101, 99, 116]⟩)]] = pmRows (don ++ pmsOf opObj (pen ++ [te])) := by simp [pmRows, pmsOf, pmRow, opObj]
            have hb : (n + 1) * 32 ≤ 140737488355328 := by omega
            obtain ⟨H, t1, t2, t3, t4, t5⟩ := tl.tail
            have hkp := t5 h ⟨hg.le, hg.old⟩ (Nat.le_refl _)
            have hgH : Grow h H := ⟨hkp.1, hkp.2⟩
            have fin2 : Grow h (H.new (.arr 2 (pmRows (don ++ pmsOf opObj (pen ++ [te]))))) ∧ Tl (H.new (.arr 2 (pmRows (don ++ pmsOf opObj (pen ++ [te]))))) h.next 2 (.own H.next 0 (n + 1)) (pmRows (don ++ pmsOf opObj (pen ++ [te]))) :=
              ⟨hgH.new _, Tl.grow hkp.1 (by rw [pmRows_len]; simp [pmsOf]; omega)⟩
            rw [t3] at fin2
            cases vars with
            | true =>
              simp only [cond_true] at hinv
              have hc := fun h : Heap => fvariable_c (h := h) hte'
              cases v1 : varB te with
              | false =>
                rw [v1] at hinv hc
                simp only [cond_false] at hinv
                repeat' (first | (refine a_seq (fun K hK => ?_)) | (refine a_regionS ?_; simp (maxSteps := 2000000) only [Ty.w, simprocAttr, g0, g1, g6, g7, g8, g9, q2, Bool.not_true, Bool.not_false]) | (refine hK _ _ ?_; clear hK; (try simp only [pst0, simprocAttr])))
                refine owp_useQ (hc _) (by (try simp only [Ty.w, simprocAttr, g0, g1, g6, g7, g8, g9, Bool.not_false]); try rfl) ?_; simp (maxSteps := 2000000) only [Ty.w, simprocAttr, g0, g1, g6, g7, g8, g9, Bool.not_false]
                repeat' (first | (refine a_seq (fun K hK => ?_)) | ((first | refine a_regionS ?_ | refine a_ret ?_); simp (maxSteps := 2000000) only [Ty.w, simprocAttr, g0, g1, g6, g7, g8, g9, Bool.not_false]) | (refine hK _ _ ?_; clear hK; (try simp only [pst0, simprocAttr])))
                exact bad 8 _ (.inr rfl) hg hinv
              | true =>
                rw [v1] at hinv hc
                simp only [cond_true] at hinv
                repeat' (first | (refine a_seq (fun K hK => ?_)) | (refine a_regionS ?_; simp (maxSteps := 2000000) only [Ty.w, simprocAttr, g0, g1, g6, g7, g8, g9, q2, Bool.not_true, Bool.not_false]) | (refine hK _ _ ?_; clear hK; (try simp only [pst0, simprocAttr])))
                refine owp_useQ (hc _) (by (try simp only [Ty.w, simprocAttr, g0, g1, g6, g7, g8, g9, Bool.not_true]); try rfl) ?_; simp (maxSteps := 2000000) only [Ty.w, simprocAttr, g0, g1, g6, g7, g8, g9, Bool.not_true]
                repeat' (first | (refine a_seq (fun K hK => ?_)) | (refine a_regionS ?_; simp (maxSteps := 2000000) only [Ty.w, simprocAttr, g0, g1, g6, g7, g8, g9, Bool.not_true, t1, t2, hrl, hb, hap, w7]) | ((first | refine a_skip ?_ | refine a_exit ?_); (try simp only [pst0, simprocAttr])) | (refine a_cond _ (by (try simp (maxSteps := 2000000) only [Ty.w, simprocAttr, g0, g1, g6, g7, g8, g9, Bool.not_true, t1, t2, hrl, hb, hap, w7]); rfl) (fun hb => ?_) (fun hb => ?_) <;> (try simp only [hb0, decide_eq_true_eq, decide_eq_false_iff_not, simprocAttr] at hb) <;> (try (exfalso; omega))) | ((first | refine hK _ _ ?_ | (clear hK; refine hK _ _ ?_)); clear hK; (try simp only [pst0, simprocAttr])) | (rw [if_pos]; rotate_left 1; omega; simp (maxSteps := 2000000) only [Ty.w, simprocAttr, g0, g1, g6, g7, g8, g9, Bool.not_true, t1, t2, hrl, hb, hap, w7]))
                exact ⟨l.length - (k + 1), by omega, k + 1, _, don, pen ++ [te], by simp, rfl, rfl, by omega, rfl, by simp; omega, fin2.1, fin2.2, hinv⟩
            | false =>
              simp only [cond_false] at hinv
              have hc := fun h : Heap => fname_c (h := h) hte'
              cases v1 : nameB te with
              | false =>
                rw [v1] at hinv hc
                simp only [cond_false] at hinv
                repeat' (first | (refine a_seq (fun K hK => ?_)) | (refine a_regionS ?_; simp (maxSteps := 2000000) only [Ty.w, simprocAttr, g0, g1, g6, g7, g8, g9, q2, Bool.not_true, Bool.not_false]) | (refine hK _ _ ?_; clear hK; (try simp only [pst0, simprocAttr])))
                refine owp_useQ (hc _) (by (try simp only [Ty.w, simprocAttr, g0, g1, g6, g7, g8, g9, Bool.not_false]); try rfl) ?_; simp (maxSteps := 2000000) only [Ty.w, simprocAttr, g0, g1, g6, g7, g8, g9, Bool.not_false]
                repeat' (first | (refine a_seq (fun K hK => ?_)) | ((first | refine a_regionS ?_ | refine a_ret ?_); simp (maxSteps := 2000000) only [Ty.w, simprocAttr, g0, g1, g6, g7, g8, g9, Bool.not_false]) | (refine hK _ _ ?_; clear hK; (try simp only [pst0, simprocAttr])))
                exact bad 8 _ (.inr rfl) hg hinv
              | true =>
                rw [v1] at hinv hc
                simp only [cond_true] at hinv
                repeat' (first | (refine a_seq (fun K hK => ?_)) | (refine a_regionS ?_; simp (maxSteps := 2000000) only [Ty.w, simprocAttr, g0, g1, g6, g7, g8, g9, q2, Bool.not_true, Bool.not_false]) | (refine hK _ _ ?_; clear hK; (try simp only [pst0, simprocAttr])))
                refine owp_useQ (hc _) (by (try simp only [Ty.w, simprocAttr, g0, g1, g6, g7, g8, g9, Bool.not_true]); try rfl) ?_; simp (maxSteps := 2000000) only [Ty.w, simprocAttr, g0, g1, g6, g7, g8, g9, Bool.not_true]
                repeat' (first | (refine a_seq (fun K hK => ?_)) | (refine a_regionS ?_; simp (maxSteps := 2000000) only [Ty.w, simprocAttr, g0, g1, g6, g7, g8, g9, Bool.not_true, t1, t2, hrl, hb, hap, w7]) | ((first | refine a_skip ?_ | refine a_exit ?_); (try simp only [pst0, simprocAttr])) | (refine a_cond _ (by (try simp (maxSteps := 2000000) only [Ty.w, simprocAttr, g0, g1, g6, g7, g8, g9, Bool.not_true, t1, t2, hrl, hb, hap, w7]); rfl) (fun hb => ?_) (fun hb => ?_) <;> (try simp only [hb0, decide_eq_true_eq, decide_eq_false_iff_not, simprocAttr] at hb) <;> (try (exfalso; omega))) | ((first | refine hK _ _ ?_ | (clear hK; refine hK _ _ ?_)); clear hK; (try simp only [pst0, simprocAttr])) | (rw [if_pos]; rotate_left 1; omega; simp (maxSteps := 2000000) only [Ty.w, simprocAttr, g0, g1, g6, g7, g8, g9, Bool.not_true, t1, t2, hrl, hb, hap, w7]))
                exact ⟨l.length - (k + 1), by omega, k + 1, _, don, pen ++ [te], by simp, rfl, rfl, by omega, rfl, by simp; omega, fin2.1, fin2.2, hinv⟩
          | true =>
            rw [show bEq te opMin = true from q2] at hinv
            simp only [cond_true] at hinv
            have hsl := tl.sl
            have hlo := hsl.len
            rw [hrl] at hlo
            have hlk := hsl.lk
            repeat' (first | (with_reducible refine a_hold 14 ?_) | (refine a_seq (fun K hK => ?_)) | (refine a_regionS ?_; simp (maxSteps := 2000000) only [Ty.w, simprocAttr, g0, g1, g6, g7, g8, g9, q2, w7, Bool.not_true]) | (refine a_skip ?_; (try simp only [pst0, simprocAttr])) | (refine a_cond _ (by (try simp (maxSteps := 2000000) only [Ty.w, simprocAttr, g0, g1, g6, g7, g8, g9, q2, w7, Bool.not_true]); rfl) (fun hb => ?_) (fun hb => ?_) <;> (try simp only [hb0, decide_eq_true_eq, decide_eq_false_iff_not, simprocAttr] at hb) <;> (try (exfalso; omega))) | (refine hK _ _ ?_; clear hK; (try simp only [pst0, simprocAttr])))
            refine ⟨?_⟩
            refine a_gen (fun S h2 => S 0 = .imm 6 (Sx.rows l) ∧ S 1 = .sc (.bool vars) ∧ S 6 = o ∧ S 7 = .sc (.int .i64 don.length) ∧ S 8 = .sc (.int .i64 ((k : Int) + 1)) ∧ h2 = h') ?_ ?_
            · simp only [Ty.w, simprocAttr, g0, g1, g6, g7, g8]
            clear g0 g1 g6 g7 g8 g9 w7
            rintro S h' ⟨g0, g1, g6, g7, g8, rfl⟩
            obtain ⟨k1, hk1⟩ : ∃ k1 : Int, k1 = (k : Int) + 1 := ⟨_, rfl⟩
            rw [← hk1] at g8
            cases hpe : pen.isEmpty with
            | true =>
              have hpe' : pen = [] := List.isEmpty_iff.1 hpe
              have hF2 : F = ([], 2) := by
                rw [hinv, hpe]
                split
                · rfl
                · rfl
              have hdd : ((don.length : Int) == (n : Int)) = true := by rw [hn, hpe']; simp
              repeat' (first | (refine a_seq (fun K hK => ?_)) | ((first | refine a_regionS ?_ | refine a_ret ?_); simp (maxSteps := 2000000) only [Ty.w, simprocAttr, g0, g1, g6, g7, g8, hlo, hlk, hdd]) | (refine hK _ _ ?_; clear hK; (try simp only [pst0, simprocAttr])))
              exact bad 2 _ (.inl rfl) hg hF2
            | false =>
              rw [hpe] at hinv
              simp only [Bool.not_false, Bool.true_and] at hinv
              have hp0 : 0 < pen.length := by
                cases pen with
                | nil => simp at hpe
                | cons _ _ => simp
              have hdd : ((don.length : Int) == (n : Int)) = false := by rw [hn]; simp; omega
              by_cases hl2 : k + 1 < l.length
              · have hd2 : (k1 == (l.length : Int)) = false := by rw [hk1]; simp; omega
                obtain ⟨y, hy⟩ : ∃ y, l[k + 1]? = some y := ⟨_, List.getElem?_eq_getElem hl2⟩
                have hyk := hok y (List.mem_of_getElem? hy)
                have hvy := fun h : Heap => svalid_c hyk h
                have htey := textOf_okQ hyk
                rw [drop_of_get hy] at hinv
                simp only at hinv
                have hry : (Sx.rows l)[k1.toNat]? = some y.cells := by rw [hk1]; exact Sx.rows_get hy
                generalize svalid y 0 0 = V2 at hvy hinv
                obtain ⟨vb2, vn2⟩ := V2
                obtain ⟨ki2, va2, li2, co2, te2, ks2⟩ := y
                simp only [kindOf, textOf] at hinv htey
                simp only [Sx.cells] at hry hvy
                have hcy := fun h : Heap => typed_c (h := h) htey
                have hk0 : (0 : Int) ≤ k1 := by omega
                cases q3 : (ki2 != 1) with
                | true =>
                  rw [show (ki2 == 1) = false by simpa using q3] at hinv
                  simp only [Bool.false_and, cond_false] at hinv
                  repeat' (first | (refine a_seq (fun K hK => ?_)) | ((first | refine a_regionS ?_ | refine a_ret ?_); simp (maxSteps := 2000000) only [Ty.w, simprocAttr, g0, g1, g6, g7, g8, hlo, hlk, hdd, hll, hd2, hry, hk0, q3]) | (refine hK _ _ ?_; clear hK; (try simp only [pst0, simprocAttr])))
                  exact bad 2 _ (.inl rfl) hg hinv
                | false =>
                  rw [show (ki2 == 1) = true by simpa using q3] at hinv
                  simp only [Bool.true_and] at hinv
                  cases vb2 with
                  | false =>
                    simp only [cond_false] at hinv
                    repeat' (first | (refine a_seq (fun K hK => ?_)) | (refine a_regionS ?_; simp (maxSteps := 2000000) only [Ty.w, simprocAttr, g0, g1, g6, g7, g8, hlo, hlk, hdd, hll, hd2, hry, hk0, q3]))
                    refine owp_useQ (hvy _) (by (try simp only [Ty.w, simprocAttr, g0, g1, g6, g7, g8, hry, hk0, Bool.not_false]); try rfl) ?_; simp (maxSteps := 2000000) only [Ty.w, simprocAttr, g0, g1, g6, g7, g8, hry, hk0, Bool.not_false]
                    repeat' (first | (refine a_seq (fun K hK => ?_)) | ((first | refine a_regionS ?_ | refine a_ret ?_); simp (maxSteps := 2000000) only [Ty.w, simprocAttr, g0, g1, g6, g7, g8, Bool.not_false]) | (refine hK _ _ ?_; clear hK; (try simp only [pst0, simprocAttr])))
                    exact bad 2 _ (.inl rfl) hg hinv
                  | true =>
                    simp only [cond_true] at hinv
                    cases v3 : typedB te2 with
                    | false =>
                      rw [v3] at hinv hcy
                      simp only [cond_false] at hinv
                      repeat' (first | (refine a_seq (fun K hK => ?_)) | (refine a_regionS ?_; simp (maxSteps := 2000000) only [Ty.w, simprocAttr, g0, g1, g6, g7, g8, hlo, hlk, hdd, hll, hd2, hry, hk0, q3]))
                      refine owp_useQ (hvy _) (by (try simp only [Ty.w, simprocAttr, g0, g1, g6, g7, g8, hry, hk0, Bool.not_true]); try rfl) ?_; simp (maxSteps := 2000000) only [Ty.w, simprocAttr, g0, g1, g6, g7, g8, hry, hk0, Bool.not_true]
                      repeat' (first | (refine a_seq (fun K hK => ?_)) | (refine a_regionS ?_; simp (maxSteps := 2000000) only [Ty.w, simprocAttr, g0, g1, g6, g7, g8, hry, hk0, Bool.not_true]) | (refine a_skip ?_; (try simp only [pst0, simprocAttr])) | (refine a_cond _ (by (try simp (maxSteps := 2000000) only [Ty.w, simprocAttr, g0, g1, g6, g7, g8, hry, hk0, Bool.not_true]); rfl) (fun hb => ?_) (fun hb => ?_) <;> (try simp only [hb0, decide_eq_true_eq, decide_eq_false_iff_not, simprocAttr] at hb) <;> (try (exfalso; omega))) | (refine hK _ _ ?_; clear hK; (try simp only [pst0, simprocAttr])))
                      refine owp_useQ (hcy _) (by (try simp only [Ty.w, simprocAttr, g0, g1, g6, g7, g8, hry, hk0, Bool.not_false]); try rfl) ?_; simp (maxSteps := 2000000) only [Ty.w, simprocAttr, g0, g1, g6, g7, g8, hry, hk0, Bool.not_false]
                      repeat' (first | (refine a_seq (fun K hK => ?_)) | ((first | refine a_regionS ?_ | refine a_ret ?_); simp (maxSteps := 2000000) only [Ty.w, simprocAttr, g0, g1, g6, g7, g8, Bool.not_false]) | (refine hK _ _ ?_; clear hK; (try simp only [pst0, simprocAttr])))
                      exact bad 8 _ (.inr rfl) hg hinv
                    | true =>
                      rw [v3] at hinv hcy
                      simp only [cond_true] at hinv
                      obtain ⟨id, i1, i2, ho, i4⟩ : ∃ id, h.next ≤ id ∧ id < h'.next ∧ o = .own id 0 n ∧ h'.obj id = some (.arr 2 (pmRows (don ++ pmsOf opObj pen))) := by
                        rcases tl with ⟨hn0, _⟩ | ⟨id, i1, i2, i3, i4⟩
                        · rw [hn0] at hrl; simp at hrl; omega
                        · rw [hrl] at i3; exact ⟨id, i1, i2, i3, i4⟩
                      subst ho
                      clear tl hsl
                      repeat' (first | (refine a_seq (fun K hK => ?_)) | (refine a_regionS ?_; simp (maxSteps := 2000000) only [Ty.w, simprocAttr, g0, g1, g6, g7, g8, hlo, hlk, hdd, hll, hd2, hry, hk0, q3]))
                      refine owp_useQ (hvy _) (by (try simp only [Ty.w, simprocAttr, g0, g1, g6, g7, g8, hry, hk0, Bool.not_true]); try rfl) ?_; simp (maxSteps := 2000000) only [Ty.w, simprocAttr, g0, g1, g6, g7, g8, hry, hk0, Bool.not_true]
                      repeat' (first | (refine a_seq (fun K hK => ?_)) | (refine a_regionS ?_; simp (maxSteps := 2000000) only [Ty.w, simprocAttr, g0, g1, g6, g7, g8, hry, hk0, Bool.not_true]) | (refine a_skip ?_; (try simp only [pst0, simprocAttr])) | (refine a_cond _ (by (try simp (maxSteps := 2000000) only [Ty.w, simprocAttr, g0, g1, g6, g7, g8, hry, hk0, Bool.not_true]); rfl) (fun hb => ?_) (fun hb => ?_) <;> (try simp only [hb0, decide_eq_true_eq, decide_eq_false_iff_not, simprocAttr] at hb) <;> (try (exfalso; omega))) | (refine hK _ _ ?_; clear hK; (try simp only [pst0, simprocAttr])))
                      refine owp_useQ (hcy _) (by (try simp only [Ty.w, simprocAttr, g0, g1, g6, g7, g8, hry, hk0, Bool.not_true]); try rfl) ?_; simp (maxSteps := 2000000) only [Ty.w, simprocAttr, g0, g1, g6, g7, g8, hry, hk0, Bool.not_true]
                      repeat' (first | (refine a_block ?_) | (refine a_skip ?_; (try simp only [pst0, simprocAttr])) | (refine a_cond _ (by (try simp (maxSteps := 2000000) only [Ty.w, simprocAttr, g0, g1, g6, g7, g8, hry, hk0, Bool.not_true]); rfl) (fun hb => ?_) (fun hb => ?_) <;> (try simp only [hb0, decide_eq_true_eq, decide_eq_false_iff_not, simprocAttr] at hb) <;> (try (exfalso; omega))) | (refine hK _ _ ?_; clear hK; (try simp only [pst0, simprocAttr])))
                      refine a_loop (fun m S h2 => S 0 = .imm 6 (Sx.rows l) ∧ S 1 = .sc (.bool vars) ∧ S 8 = .sc (.int .i64 k1) ∧ S 6 = .own id 0 n ∧ ∃ j : Nat, S 7 = .sc (.int .i64 ((don.length + j : Nat) : Int)) ∧ j ≤ pen.length ∧ m = pen.length - j ∧ Grow h h2 ∧ h2.next = h'.next ∧ h2.obj id = some (.arr 2 (pmRows (don ++ pmsOf te2 (pen.take j) ++ pmsOf opObj (pen.drop j))))) pen.length ?_ ?_
                      · simp only [Ty.w, simprocAttr, g0, g1, g6, g7, g8]
                        exact ⟨0, by simp, by omega, rfl, hg, by simpa [pmsOf] using i4⟩
                      · clear g0 g1 g6 g7 g8 i4
                        rintro m S h2 ⟨g0, g1, g8, g6, j, g7, hj, rfl, hg2, hn2, ob⟩
                        by_cases hjl : j < pen.length
                        · obtain ⟨q, hqn⟩ : ∃ q, q = don.length + j := ⟨_, rfl⟩
                          obtain ⟨s, hs⟩ : ∃ s, pen[j]? = some s := ⟨_, List.getElem?_eq_getElem hjl⟩
                          obtain ⟨hp1, hp2⟩ := pms_step (don := don) (t := te2) hs
                          rw [← hqn] at g7 hp1 hp2
                          have hdj : decide ((q : Int) < (n : Int)) = true := by simp; omega
                          have wj : IntKind.i64.wrap ((q : Int) + 1) = ((q + 1 : Nat) : Int) := by rw [wrap64 (by omega) (by omega)]; try rfl
                          have hjl2 : q < n := by omega
                          generalize hR : pmRows (don ++ pmsOf te2 (pen.take j) ++ pmsOf opObj (pen.drop j)) = R at ob hp1 hp2
                          repeat' (first | (refine a_seq (fun K hK => ?_)) | (refine a_block ?_) | ((first | refine a_regionS ?_ | refine a_region (fun K hK => ?_)); simp (maxSteps := 2000000) only [Ty.w, simprocAttr, g0, g1, g6, g7, g8, hdj, wj, hry, hk0, ob, hp1, hp2, hjl2]) | (refine a_skip ?_; (try simp only [pst0, simprocAttr])) | (refine a_cond _ (by (try simp (maxSteps := 2000000) only [Ty.w, simprocAttr, g0, g1, g6, g7, g8, hdj, wj, hry, hk0, ob, hp1, hp2, hjl2]); rfl) (fun hb => ?_) (fun hb => ?_) <;> (try simp only [hb0, decide_eq_true_eq, decide_eq_false_iff_not, simprocAttr] at hb) <;> (try (exfalso; omega))) | (refine hK _ _ ?_; clear hK; (try simp only [pst0, simprocAttr])))
                          refine ⟨pen.length - (j + 1), by omega, j + 1, by rw [hqn]; try rfl, by omega, rfl, hg2.set i1 _, hn2, ?_⟩
                          try simp [Heap.set]
                        · have hje : j = pen.length := by omega
                          subst hje
                          rw [← hn] at g7
                          have hdj : decide ((n : Int) < (n : Int)) = false := by simp
                          have w8 : IntKind.i64.wrap (k1 + 1) = ((k + 2 : Nat) : Int) := by rw [hk1, wrap64 (by omega) (by omega)]; omega
                          rw [List.take_length, List.drop_length] at ob
                          have hz : pmRows (don ++ pmsOf te2 pen ++ pmsOf opObj []) = pmRows (don ++ pmsOf te2 pen) := by simp [pmsOf]
                          rw [hz] at ob
                          repeat' (first | (refine a_seq (fun K hK => ?_)) | (refine a_regionS ?_; simp (maxSteps := 2000000) only [Ty.w, simprocAttr, g0, g1, g6, g7, g8, hdj, w8]) | (refine a_exit ?_; (try simp only [pst0, simprocAttr])) | (refine a_cond _ (by (try simp (maxSteps := 2000000) only [Ty.w, simprocAttr, g0, g1, g6, g7, g8, hdj, w8]); rfl) (fun hb => ?_) (fun hb => ?_) <;> (try simp only [hb0, decide_eq_true_eq, decide_eq_false_iff_not, simprocAttr] at hb) <;> (try (exfalso; omega))) | ((first | refine hK _ _ ?_ | (clear hK; refine hK _ _ ?_)); clear hK; (try simp only [pst0, simprocAttr])))
                          refine ⟨l.length - (k + 2), by omega, k + 2, _, don ++ pmsOf te2 pen, [], rfl, rfl, by rw [hn]; simp [pmsOf], by omega, rfl, by simp [pmsOf]; omega, hg2, ?_, hinv⟩
                          refine .inr ⟨id, i1, by omega, ?_, ?_⟩
                          · rw [pmRows_len, hn]; simp [pmsOf]
                          · rw [ob]; simp [pmsOf]
              · have hke : k + 1 = l.length := by omega
                have hd2 : (k1 == (l.length : Int)) = true := by rw [hk1]; simp; omega
                rw [List.drop_eq_nil_of_le (by omega)] at hinv
                simp only at hinv
                repeat' (first | (refine a_seq (fun K hK => ?_)) | ((first | refine a_regionS ?_ | refine a_ret ?_); simp (maxSteps := 2000000) only [Ty.w, simprocAttr, g0, g1, g6, g7, g8, hlo, hlk, hdd, hll, hd2]) | (refine hK _ _ ?_; clear hK; (try simp only [pst0, simprocAttr])))
                exact bad 2 _ (.inl rfl) hg hinv
    · have hd : decide ((k : Int) < (l.length : Int)) = false := by simp; omega
      rw [List.drop_eq_nil_of_le (by omega)] at hinv
      simp only [paramsL] at hinv
      subst hinv
      repeat' (first | (refine a_seq (fun K hK => ?_)) | ((first | refine a_regionS ?_ | refine a_ret ?_); simp (maxSteps := 2000000) only [Ty.w, simprocAttr, g0, g1, g6, g7, g8, hll, hd]) | (refine a_exit ?_; (try simp only [pst0, simprocAttr])) | (refine a_cond _ (by (try simp (maxSteps := 2000000) only [Ty.w, simprocAttr, g0, g1, g6, g7, g8, hll, hd]); rfl) (fun hb => ?_) (fun hb => ?_) <;> (try simp only [hb0, decide_eq_true_eq, decide_eq_false_iff_not, simprocAttr] at hb) <;> (try (exfalso; omega))) | ((first | refine hK _ _ ?_ | (clear hK; refine hK _ _ ?_)); clear hK; (try simp only [pst0, simprocAttr])))
      have e2 : errP 0 = .sc .nilIface := rfl
      simp only [e2]
      refine ⟨?_, hg⟩
      have h1 := pms_frzP tl
      unfold FrzTo
      refine ⟨_, rfl, ?_⟩
      unfold FrzL
      refine ⟨h1, ?_⟩
      unfold FrzL
      exact ⟨by simp only [FrzTo], by simp only [FrzL]⟩
end Go.Proofs.Ytjlkapgpjamnkaa
namespace Go.Proofs.Ytjlkapgpjamnkaa
open Go.AM
set_option maxHeartbeats 8000000
set_option maxRecDepth 20000
/-- behind the head: the form by its word -/
def fmBody (w : ByteArray) (rest : List Sx) : Fm × Int :=
  bif isQ w then (match rest with
    | [] => (zeroFm, 2)
    | p :: body => bif kindOf p == 3 then (bif (paramsP true (kidsOf p)).2 == 0 then (match fmPs body with
        | (ks, c) => bif c == 0 then (.mk w ⟨#[]⟩ [] (paramsP true (kidsOf p)).1 [] ks, 0) else (zeroFm, c))
      else (zeroFm, (paramsP true (kidsOf p)).2)) else (zeroFm, 2))
  else bif isLst w then (match fmPs rest with
    | (ks, c) => bif c == 0 then (.mk w ⟨#[]⟩ [] [] [] ks, 0) else (zeroFm, c))
  else bif isCmp5 w then (match rest with
    | [a, b] => fin (compareP w a b)
    | _ => (zeroFm, 2))
  else bif nameB w then (bif (termsM rest).2 == 0 then (.mk opAtom w (termsM rest).1 [] [] [], 0) else (zeroFm, (termsM rest).2))
  else (zeroFm, 8)
theorem fmP_head (x : Sx) : fmP x = (bif kindOf x == 3 && (kidsOf x).isEmpty then (.mk opAnd ⟨#[]⟩ [] [] [] [], 0) else (match headM x with
    | none => (zeroFm, 2)
    | some (w, rest) => bif decide (countW w ≥ 0) && !(decide (countW w = rest.length)) then (zeroFm, 2) else fmBody w rest)) := by
  obtain ⟨kind, value, line, col, text, kids⟩ := x
  conv => lhs; unfold fmP
  have kk : kindOf (.mk kind value line col text kids) = kind := rfl
  have k5 : kidsOf (.mk kind value line col text kids) = kids := rfl
  rw [kk, k5]
  simp only [headM]
  by_cases h3 : kind = 3
  · rw [if_pos h3, if_pos h3]
    cases kids with
    | nil => simp [h3]
    | cons y rest =>
      simp only [List.isEmpty_cons, Bool.and_false, cond_false]
      cases hk : kindOf y == 1 <;> simp only [hk, cond_true, cond_false] <;> rfl
  · rw [if_neg h3, if_neg h3]
    rw [show (kind == 3) = false by simpa using h3]
    try rfl
theorem count_two {w : ByteArray} {n : Nat} (hw : isQ w = true ∨ isCmp5 w = true) (hc : (decide (countW w ≥ 0) && !(decide (countW w = n))) = false) : n = 2 := by
  have : countW w = 2 := by
    rw [countW_eq]
    unfold isQ isCmp5 isCmp at hw
    simp only [Bool.or_eq_true] at hw
    rcases hw with (h | h) | (((h | h) | h) | h) | h <;> (have h := bEq_eq h; subst h; decide)
  rw [this] at hc
  simp at hc
  omega
def fmZ : AObj := .arr 6 [[.sc (.string ⟨#[]⟩), .sc (.string ⟨#[]⟩), .sc (.slice none 0 0), .sc (.slice none 0 0), .sc (.slice none 0 0), .sc (.slice none 0 0)]]
structure PI (h : Heap) (w : ByteArray) (h' : Heap) : Prop where
  grow : Grow h h'
  nxt : h'.next = h.next + 2
  o1 : h'.obj h.next = some fmZ
  o2 : h'.obj (h.next + 1) = some (.arr 6 [[sPV w, .sc (.string ⟨#[]⟩), .sc (.slice none 0 0), .sc (.slice none 0 0), .sc (.slice none 0 0), .sc (.slice none 0 0)]])
/-- behind the switch -/
def PJ (h : Heap) (F : Fm × Int) (S : Slots) (h' : Heap) : Prop := S 2 = .ptr h.next 0 0 ∧ S 8 = .ptr (h.next + 1) 0 0 ∧ Grow h h' ∧ ∃ (c : Int) (a b : ByteArray) (p2 p3 p4 p5 : PV), S 9 = errP c ∧ h'.obj h.next = some fmZ ∧ h'.obj (h.next + 1) = some (.arr 6 [[sPV a, sPV b, p2, p3, p4, p5]]) ∧
  (oneC p2 = true ∧ oneC p3 = true ∧ oneC p4 = true ∧ oneC p5 = true) ∧ ((c == 0) = false → F = (zeroFm, c)) ∧ ((c == 0) = true → F.2 = 0 ∧ ∀ hh, FrzL h.next hh F.1.cells [sPV a, sPV b, p2, p3, p4, p5])
theorem PJ.mk2 {h h' : Heap} {w : ByteArray} {F : Fm × Int} {S : Slots} (hp : PI h w h') (c : Int) (a b : ByteArray) (p2 p3 p4 p5 : PV) (g2 : S 2 = .ptr h.next 0 0) (g8 : S 8 = .ptr (h.next + 1) 0 0) (g9 : S 9 = errP c)
    (ho : oneC p2 = true ∧ oneC p3 = true ∧ oneC p4 = true ∧ oneC p5 = true) (hc : (c == 0) = false → F = (zeroFm, c)) (hd : (c == 0) = true → F.2 = 0 ∧ ∀ hh, FrzL h.next hh F.1.cells [sPV a, sPV b, p2, p3, p4, p5]) :
    PJ h F S (h'.set (h.next + 1) (.arr 6 [[sPV a, sPV b, p2, p3, p4, p5]])) := by
  refine ⟨g2, g8, hp.grow.set (Nat.le_succ _) _, c, a, b, p2, p3, p4, p5, g9, ?_, by simp [Heap.set], ho, hc, hd⟩
  simp only [Heap.set]
  rw [if_neg (by omega)]
  exact hp.o1
/-- behind the switch: the walk -/
theorem errRet {h h' : Heap} {c : Int} {F : Fm × Int} (hc : c = 2 ∨ c = 8) (hg : Grow h h') (hF : F = (zeroFm, c)) :
    FrzTo h.next h' (.tup [.agg F.1.cells, errP F.2]) (.tup [.agg [.sc (.string ⟨#[]⟩), .sc (.string ⟨#[]⟩), .sc (.slice none 0 0), .sc (.slice none 0 0), .sc (.slice none 0 0), .sc (.slice none 0 0)], errV c]) ∧ Grow h h' := by
  subst hF
  have : errP c = errV c := by rcases hc with rfl | rfl <;> rfl
  simp only [this]
  refine ⟨?_, hg⟩
  simp only [errV, zeroFm, Fm.cells, Ex.rows, Fm.rows, pmRows, strRows, List.map_nil, FrzTo, FrzL]
  exact ⟨_, rfl, ⟨_, rfl, rfl, rfl, .inr (.inl ⟨rfl, .inr rfl⟩), .inr (.inl ⟨rfl, .inr rfl⟩), .inr (.inl ⟨rfl, .inr rfl⟩), .inr (.inl ⟨rfl, .inr rfl⟩), trivial⟩, rfl, trivial⟩
end Go.Proofs.Ytjlkapgpjamnkaa
namespace Go.Proofs.Ytjlkapgpjamnkaa
open Go.AM
set_option maxHeartbeats 8000000
set_option maxRecDepth 20000
theorem parse_step {kind value line col : Int} {text : ByteArray} {kids : List Sx} (hok : (Sx.mk kind value line col text kids).ok) (hsm : (Sx.mk kind value line col text kids).small)
    (ih : ∀ x ∈ kids, ∀ h : Heap, PCall Try.prog 73 [.agg x.cells] h fun r h' => r = .tup [.agg (fmP x).1.cells, errP (fmP x).2] ∧ h' = h) (h : Heap) :
    PCall Try.prog 73 [.agg (Sx.mk kind value line col text kids).cells] h fun r h' => r = .tup [.agg (fmP (.mk kind value line col text kids)).1.cells, errP (fmP (.mk kind value line col text kids)).2] ∧ h' = h := by
  refine PCall.frz Ty.hb_73 ?_
  have hok' := hok
  simp only [Sx.ok] at hok'
  obtain ⟨_, _, _, hkl, hks⟩ := hok'
  rw [Sx.oks_iff] at hks
  simp only [Sx.small] at hsm
  obtain ⟨hl, hss⟩ := hsm
  rw [Sx.smalls_iff] at hss
  have hh := head_c hok
  have hX := fmP_head (.mk kind value line col text kids)
  generalize fmP (.mk kind value line col text kids) = F at hX
  have hMo := fun w rest e => headM_ok (w := w) (rest := rest) hok e
  have hMr := fun w rest e => headM_rest (kind := kind) (value := value) (line := line) (col := col) (text := text) (kids := kids) (w := w) (rest := rest) e
  generalize headM (.mk kind value line col text kids) = M at hh hX hMo hMr
  have kk : kindOf (.mk kind value line col text kids) = kind := rfl
  have k5 : kidsOf (.mk kind value line col text kids) = kids := rfl
  rw [kk, k5] at hX
  have hlk := Sx.rows_len kids
  have hg1 : ∀ r, Grow h ((h.new (.arr 6 [[.sc (.string ⟨#[]⟩), .sc (.string ⟨#[]⟩), .sc (.slice none 0 0), .sc (.slice none 0 0), .sc (.slice none 0 0), .sc (.slice none 0 0)]])).set h.next r) := fun r => ((Grow.refl h).new _).set (Nat.le_refl _) _
  refine pcall_body (ow := fun _ => false) (wf := fun _ => false) Ty.mixed Try.func73 rfl Ty.hb_73 (by rw [Try.ntmps73]; simp) ?_
  rw [Try.ntmps73, Try.results73]
  simp only [Sx.cells] at hh ⊢
  repeat' (first | (with_reducible refine a_hold 1 ?_) | (refine a_seq (fun K hK => ?_)) | (refine a_regionS ?_; simp (maxSteps := 2000000) only [Ty.w, simprocAttr]) | (refine hK _ _ ?_; clear hK; (try simp only [pst0, simprocAttr])))
  refine ⟨?_⟩
  refine a_cut (fun S h' => S 1 = .cptr (Sx.mk kind value line col text kids).cells ∧ S 2 = .ptr h.next 0 0 ∧ h' = h.new fmZ ∧ (kind == 3 && kids.isEmpty) = false) ?_ ?_
  · clear hh
    simp only [Sx.cells, fmZ]
    cases k3 : (kind == 3) with
    | false =>
      repeat' (first | (refine a_seq (fun K hK => ?_)) | (refine a_regionS ?_; simp (maxSteps := 2000000) only [Ty.w, simprocAttr, k3]) | (refine a_skip ?_; (try simp only [pst0, simprocAttr])) | (refine a_cond _ (by (try simp (maxSteps := 2000000) only [Ty.w, simprocAttr, k3]); rfl) (fun hb => ?_) (fun hb => ?_) <;> (try simp only [hb0, decide_eq_true_eq, decide_eq_false_iff_not, simprocAttr] at hb) <;> (try (exfalso; omega))) | (refine hK _ _ ?_; clear hK; (try simp only [pst0, simprocAttr])))
      all_goals first | rfl | (simp only [Ty.w, simprocAttr, Bool.false_and]; done)
    | true =>
      cases q : (((Sx.rows kids).length : Int) == 0) with
      | false =>
        have q' : kids.isEmpty = false := by
          cases kids with
          | nil => simp [Sx.rows] at q
          | cons _ _ => rfl
        repeat' (first | (refine a_seq (fun K hK => ?_)) | (refine a_regionS ?_; simp (maxSteps := 2000000) only [Ty.w, simprocAttr, k3, q]) | (refine a_skip ?_; (try simp only [pst0, simprocAttr])) | (refine a_cond _ (by (try simp (maxSteps := 2000000) only [Ty.w, simprocAttr, k3, q]); rfl) (fun hb => ?_) (fun hb => ?_) <;> (try simp only [hb0, decide_eq_true_eq, decide_eq_false_iff_not, simprocAttr] at hb) <;> (try (exfalso; omega))) | (refine hK _ _ ?_; clear hK; (try simp only [pst0, simprocAttr])))
        all_goals first | rfl | (simp only [Ty.w, simprocAttr, q', Bool.true_and]; done)
      | true =>
        have q' : kids.isEmpty = true := by
          cases kids with
          | nil => rfl
          | cons _ _ => simp [Sx.rows] at q; omega
        rw [k3, q'] at hX
        simp only [Bool.and_self, cond_true] at hX
        subst hX
        repeat' (first | (refine a_seq (fun K hK => ?_)) | ((first | refine a_regionS ?_ | refine a_ret ?_); simp (maxSteps := 2000000) only [Ty.w, simprocAttr, k3, q]) | (refine hK _ _ ?_; clear hK; (try simp only [pst0, simprocAttr])))
        refine ⟨?_, hg1 _⟩
        have e2 : errP 0 = .sc .nilIface := rfl
        simp only [e2, opAnd, Fm.cells, Ex.rows, Fm.rows, pmRows, strRows, List.map_nil, FrzTo, FrzL]
        exact ⟨_, rfl, ⟨_, rfl, rfl, rfl, .inr (.inl ⟨rfl, .inr rfl⟩), .inr (.inl ⟨rfl, .inr rfl⟩), .inr (.inl ⟨rfl, .inr rfl⟩), .inr (.inl ⟨rfl, .inr rfl⟩), trivial⟩, rfl, trivial⟩
  · rintro S h' ⟨g1, g2, rfl, hq⟩
    rw [hq] at hX
    simp only [cond_false] at hX
    simp only [Sx.cells] at g1
    simp only [fmZ]
    clear hq
    cases M with
    | none =>
      simp only at hX
      simp only [headV] at hh
      repeat' (first | (refine a_seq (fun K hK => ?_)) | (refine a_regionS ?_; simp (maxSteps := 2000000) only [Ty.w, simprocAttr, g1, g2]))
      refine owp_useQ (hh _) (by (try simp only [Ty.w, simprocAttr, g1, g2]); try rfl) ?_; simp (maxSteps := 2000000) only [Ty.w, simprocAttr, g1, g2]
      repeat' (first | (refine a_seq (fun K hK => ?_)) | ((first | refine a_regionS ?_ | refine a_ret ?_); simp (maxSteps := 2000000) only [Ty.w, simprocAttr, g1, g2, Bool.not_false]) | (refine hK _ _ ?_; clear hK; (try simp only [pst0, simprocAttr])))
      exact errRet (.inl rfl) (hg1 _) hX
    | some wr =>
      obtain ⟨w, rest⟩ := wr
      obtain ⟨hw, hro⟩ := hMo w rest rfl
      obtain ⟨y0, hy0⟩ := hMr w rest rfl
      have hrl : rest.length ≤ 1048576 := by rw [hy0] at hl; simp at hl; omega
      have ihr : ∀ x ∈ rest, ∀ h : Heap, PCall Try.prog 73 [.agg x.cells] h fun r h' => r = .tup [.agg (fmP x).1.cells, errP (fmP x).2] ∧ h' = h := fun x hx => ih x (by rw [hy0]; simp [hx])
      have hsr : ∀ x ∈ rest, x.small := fun x hx => hss x (by rw [hy0]; simp [hx])
      clear ih hMo hMr hks hss hl hkl hlk hy0 y0
      simp only at hX
      simp only [headV] at hh
      have hlr := Sx.rows_len rest
      repeat' (first | (with_reducible refine a_hold 6 ?_) | (refine a_seq (fun K hK => ?_)) | (refine a_regionS ?_; simp (maxSteps := 2000000) only [Ty.w, simprocAttr, g1, g2]))
      refine owp_useQ (hh _) (by (try simp only [Ty.w, simprocAttr, g1, g2]); try rfl) ?_; simp (maxSteps := 2000000) only [Ty.w, simprocAttr, g1, g2]
      repeat' (first | (with_reducible refine a_hold 6 ?_) | (refine a_seq (fun K hK => ?_)) | (refine a_regionS ?_; simp (maxSteps := 2000000) only [Ty.w, simprocAttr, g1, g2, Bool.not_true]) | (refine a_skip ?_; (try simp only [pst0, simprocAttr])) | (refine a_cond _ (by (try simp (maxSteps := 2000000) only [Ty.w, simprocAttr, g1, g2, Bool.not_true]); rfl) (fun hb => ?_) (fun hb => ?_) <;> (try simp only [hb0, decide_eq_true_eq, decide_eq_false_iff_not, simprocAttr] at hb) <;> (try (exfalso; omega))) | (refine hK _ _ ?_; clear hK; (try simp only [pst0, simprocAttr])))
      refine ⟨?_⟩
      refine a_cut (fun S h' => S 2 = .ptr h.next 0 0 ∧ S 4 = sPV w ∧ S 5 = .imm 6 (Sx.rows rest) ∧ h' = h.new fmZ ∧ (decide (countW w ≥ 0) && !(decide (countW w = rest.length))) = false) ?_ ?_
      · have hcn := fun h : Heap => count_c (h := h) (op := w)
        simp only [fmZ]
        generalize countW w = n at hcn hX
        cases c1 : decide (n ≥ 0) with
        | false =>
          repeat' (first | (refine a_seq (fun K hK => ?_)) | (refine a_regionS ?_; simp (maxSteps := 2000000) only [Ty.w, simprocAttr, g1, g2]))
          refine owp_useQ (hcn _) (by (try simp only [Ty.w, simprocAttr, g1, g2]); try rfl) ?_; simp (maxSteps := 2000000) only [Ty.w, simprocAttr, g1, g2]
          repeat' (first | (refine a_seq (fun K hK => ?_)) | (refine a_regionS ?_; simp (maxSteps := 2000000) only [Ty.w, simprocAttr, g1, g2, c1]) | (refine a_skip ?_; (try simp only [pst0, simprocAttr])) | (refine a_cond _ (by (try simp (maxSteps := 2000000) only [Ty.w, simprocAttr, g1, g2, c1]); rfl) (fun hb => ?_) (fun hb => ?_) <;> (try simp only [hb0, decide_eq_true_eq, decide_eq_false_iff_not, simprocAttr] at hb) <;> (try (exfalso; omega))) | (refine hK _ _ ?_; clear hK; (try simp only [pst0, simprocAttr])))
          all_goals first | rfl | (simp only [Ty.w, simprocAttr, g2, Bool.false_and]; done)
        | true =>
          cases c2 : (n != (rest.length : Int)) with
          | false =>
            have c2' : decide (n = (rest.length : Int)) = true := by simpa using c2
            repeat' (first | (refine a_seq (fun K hK => ?_)) | (refine a_regionS ?_; simp (maxSteps := 2000000) only [Ty.w, simprocAttr, g1, g2]))
            refine owp_useQ (hcn _) (by (try simp only [Ty.w, simprocAttr, g1, g2]); try rfl) ?_; simp (maxSteps := 2000000) only [Ty.w, simprocAttr, g1, g2]
            repeat' (first | (refine a_seq (fun K hK => ?_)) | (refine a_regionS ?_; simp (maxSteps := 2000000) only [Ty.w, simprocAttr, g1, g2, c1, hlr, c2]) | (refine a_skip ?_; (try simp only [pst0, simprocAttr])) | (refine a_cond _ (by (try simp (maxSteps := 2000000) only [Ty.w, simprocAttr, g1, g2, c1, hlr, c2]); rfl) (fun hb => ?_) (fun hb => ?_) <;> (try simp only [hb0, decide_eq_true_eq, decide_eq_false_iff_not, simprocAttr] at hb) <;> (try (exfalso; omega))) | (refine hK _ _ ?_; clear hK; (try simp only [pst0, simprocAttr])))
            all_goals first | rfl | (simp only [Ty.w, simprocAttr, g2, c2', Bool.true_and, Bool.not_true]; done)
          | true =>
            have c2' : decide (n = (rest.length : Int)) = false := by simpa using c2
            rw [c1, c2'] at hX
            simp only [Bool.not_false, Bool.and_self, cond_true] at hX
            repeat' (first | (refine a_seq (fun K hK => ?_)) | (refine a_regionS ?_; simp (maxSteps := 2000000) only [Ty.w, simprocAttr, g1, g2]))
            refine owp_useQ (hcn _) (by (try simp only [Ty.w, simprocAttr, g1, g2]); try rfl) ?_; simp (maxSteps := 2000000) only [Ty.w, simprocAttr, g1, g2]
            repeat' (first | (refine a_seq (fun K hK => ?_)) | ((first | refine a_regionS ?_ | refine a_ret ?_); simp (maxSteps := 2000000) only [Ty.w, simprocAttr, g1, g2, c1, hlr, c2]) | (refine hK _ _ ?_; clear hK; (try simp only [pst0, simprocAttr])))
            exact errRet (.inl rfl) (hg1 _) hX
      · clear g1 g2 hh
        rintro S h' ⟨g2, g4, g5, rfl, hcnt⟩
        rw [hcnt] at hX
        simp only [cond_false] at hX
        simp only [fmZ]
        have n1 : (h.next = h.next + 1) = False := by simp
        repeat' (first | (with_reducible refine a_hold 11 ?_) | (refine a_seq (fun K hK => ?_)) | (refine a_regionS ?_; simp (maxSteps := 2000000) only [Ty.w, simprocAttr, g2, g4, g5]) | (refine hK _ _ ?_; clear hK; (try simp only [pst0, simprocAttr])))
        refine ⟨?_⟩
        refine a_gen (fun S h' => S 2 = .ptr h.next 0 0 ∧ S 4 = sPV w ∧ S 5 = .imm 6 (Sx.rows rest) ∧ S 8 = .ptr (h.next + 1) 0 0 ∧ S 9 = .sc .nilIface ∧ PI h w h') ?_ ?_
        · simp only [Ty.w, simprocAttr, g2, g4, g5]
          refine ⟨(((Grow.refl h).new _).new _).set (Nat.le_succ _) _, rfl, ?_, ?_⟩
          · simp [Heap.new, Heap.set, fmZ]
          · simp [Heap.new, Heap.set]
        · clear g2 g4 g5
          rintro S h' ⟨g2, g4, g5, g8, g9, hpi⟩
          refine a_cut (PJ h F) ?_ ?_
          · have o1 := hpi.o1
            have o2 := hpi.o2
            simp only [fmZ] at o1
            have hN := hpi.nxt
            have n1 : (h.next = h.next + 1) = False := by simp
            have n2 : (h.next + 1 = h.next) = False := by simp
            have hz2 : errP 0 = .sc .nilIface := rfl
            repeat' (refine a_hold 16 ?_)
            refine ⟨?_⟩
            refine a_cut (fun S h2 => h2 = h' ∧ S 2 = .ptr h.next 0 0 ∧ S 4 = sPV w ∧ S 5 = .imm 6 (Sx.rows rest) ∧ S 8 = .ptr (h.next + 1) 0 0 ∧ S 9 = .sc .nilIface ∧ S 44 = sPV w ∧ S 59 = .sc (.bool (isQ w))) ?_ ?_
            · cases u1 : (w.data.toList == (#[102, 111, 114, 97, 108, 108] : Array UInt8).toList) with
              | true =>
                have hq : isQ w = true := by unfold isQ; simp [show bEq w opAll = true from u1]
                rw [hq]
                repeat' (first | (refine a_seq (fun K hK => ?_)) | (refine a_regionS ?_; simp (maxSteps := 2000000) only [Ty.w, simprocAttr, g2, g4, g5, g8, g9, u1]) | (refine a_skip ?_; (try simp only [pst0, simprocAttr])) | (refine a_cond _ (by (try simp (maxSteps := 2000000) only [Ty.w, simprocAttr, g2, g4, g5, g8, g9, u1]); rfl) (fun hb => ?_) (fun hb => ?_) <;> (try simp only [hb0, decide_eq_true_eq, decide_eq_false_iff_not, simprocAttr] at hb) <;> (try (exfalso; omega))) | (refine hK _ _ ?_; clear hK; (try simp only [pst0, simprocAttr])))
                all_goals first | rfl | (simp only [Ty.w, simprocAttr, g2, g4, g5, g8, g9]; done)
              | false =>
                cases u2 : (w.data.toList == (#[101, 120, 105, 115, 116, 115] : Array UInt8).toList) with
                | true =>
                  have hq : isQ w = true := by unfold isQ; simp [show bEq w opAll = false from u1, show bEq w opSome = true from u2]
                  rw [hq]
                  repeat' (first | (refine a_seq (fun K hK => ?_)) | (refine a_regionS ?_; simp (maxSteps := 2000000) only [Ty.w, simprocAttr, g2, g4, g5, g8, g9, u1, u2]) | (refine a_cond _ (by (try simp (maxSteps := 2000000) only [Ty.w, simprocAttr, g2, g4, g5, g8, g9, u1, u2]); rfl) (fun hb => ?_) (fun hb => ?_) <;> (try simp only [hb0, decide_eq_true_eq, decide_eq_false_iff_not, simprocAttr] at hb) <;> (try (exfalso; omega))) | (refine hK _ _ ?_; clear hK; (try simp only [pst0, simprocAttr])))
                  all_goals first | rfl | (simp only [Ty.w, simprocAttr, g2, g4, g5, g8, g9]; done)
                | false =>
                  have hq : isQ w = false := by unfold isQ; simp [show bEq w opAll = false from u1, show bEq w opSome = false from u2]
                  rw [hq]
                  repeat' (first | (refine a_seq (fun K hK => ?_)) | (refine a_regionS ?_; simp (maxSteps := 2000000) only [Ty.w, simprocAttr, g2, g4, g5, g8, g9, u1, u2]) | (refine a_cond _ (by (try simp (maxSteps := 2000000) only [Ty.w, simprocAttr, g2, g4, g5, g8, g9, u1, u2]); rfl) (fun hb => ?_) (fun hb => ?_) <;> (try simp only [hb0, decide_eq_true_eq, decide_eq_false_iff_not, simprocAttr] at hb) <;> (try (exfalso; omega))) | (refine hK _ _ ?_; clear hK; (try simp only [pst0, simprocAttr])))
                  all_goals first | rfl | (simp only [Ty.w, simprocAttr, g2, g4, g5, g8, g9]; done)
            · clear g2 g4 g5 g8 g9
              rintro S h' ⟨rfl, g2, g4, g5, g8, g9, g44, g59⟩
              cases hQ : isQ w with
              | true =>
                rw [hQ] at g59
                simp only [fmBody, hQ, cond_true] at hX
                obtain ⟨p, b, rfl⟩ : ∃ p b, rest = [p, b] := by
                  have h2 := count_two (.inl hQ) hcnt
                  match rest, h2 with
                  | [p, b], _ => exact ⟨p, b, rfl⟩
                simp only at hX
                have hpo := hro p (by simp)
                have hps := hsr p (by simp)
                have hck := fun h => kids_c (l := [b]) (by simp) (fun x hx => ihr x (by simp at hx ⊢; exact .inr hx)) h
                obtain ⟨pk, pv, pl, pc, pt, pks⟩ := p
                simp only [kindOf, kidsOf] at hX
                simp only [Sx.ok] at hpo
                simp only [Sx.small] at hps
                have hcp := fun h => parseParams_c (vars := true) (l := pks) hps.1 (Sx.oks_iff.1 hpo.2.2.2.2) h
                have r0 := Sx.rows_get (l := [.mk pk pv pl pc pt pks, b]) (i := 0) rfl
                have hq1 : (1 : Int) ≤ ((Sx.rows [.mk pk pv pl pc pt pks, b]).length : Int) := by rw [hlr]; simp
                have ht : List.take (((Sx.rows [.mk pk pv pl pc pt pks, b]).length : Int) - 1).toNat (List.drop 1 (Sx.rows [.mk pk pv pl pc pt pks, b])) = Sx.rows [b] := by rw [hlr]; try rfl
                generalize Sx.rows [.mk pk pv pl pc pt pks, b] = R at g5 r0 hq1 ht hlr
                generalize Sx.rows [b] = R1 at ht hck
                simp only [Sx.cells] at r0
                cases q3 : (pk != 3) with
                | true =>
                  rw [show (pk == 3) = false by simpa using q3] at hX
                  simp only [cond_false] at hX
                  repeat' (first | (refine a_seq (fun K hK => ?_)) | ((first | refine a_regionS ?_ | refine a_ret ?_); simp (maxSteps := 2000000) only [Ty.w, simprocAttr, g2, g4, g5, g8, g9, g44, g59, r0, q3, o1, o2]) | (refine a_cond _ (by (try simp (maxSteps := 2000000) only [Ty.w, simprocAttr, g2, g4, g5, g8, g9, g44, g59, r0, q3, o1, o2]); rfl) (fun hb => ?_) (fun hb => ?_) <;> (try simp only [hb0, decide_eq_true_eq, decide_eq_false_iff_not, simprocAttr] at hb) <;> (try (exfalso; omega))) | (refine hK _ _ ?_; clear hK; (try simp only [pst0, simprocAttr])))
                  exact errRet (.inl rfl) (hpi.grow.set (Nat.le_refl _) _) hX
                | false =>
                  rw [show (pk == 3) = true by simpa using q3] at hX
                  simp only [cond_true] at hX
                  generalize paramsP true pks = PP at hcp hX
                  obtain ⟨pms, c⟩ := PP
                  simp only at hcp hX
                  cases hc : c == 0 with
                  | false =>
                    rw [hc] at hX
                    simp only [cond_false] at hX
                    have e0 : errP c = errV c := by simp only [errP, hc, cond_false]
                    rw [e0] at hcp
                    simp only [errV] at hcp e0
                    repeat' (first | (refine a_seq (fun K hK => ?_)) | (refine a_regionS ?_; simp (maxSteps := 2000000) only [Ty.w, simprocAttr, g2, g4, g5, g8, g9, g44, g59, r0, q3, o1, o2]) | (refine a_skip ?_; (try simp only [pst0, simprocAttr])) | (refine a_cond _ (by (try simp (maxSteps := 2000000) only [Ty.w, simprocAttr, g2, g4, g5, g8, g9, g44, g59, r0, q3, o1, o2]); rfl) (fun hb => ?_) (fun hb => ?_) <;> (try simp only [hb0, decide_eq_true_eq, decide_eq_false_iff_not, simprocAttr] at hb) <;> (try (exfalso; omega))) | (refine hK _ _ ?_; clear hK; (try simp only [pst0, simprocAttr])))
                    refine owp_useQ (hcp _) (by (try simp only [Ty.w, simprocAttr, g2, g4, g5, g8, g9, g44, r0, o1, o2, n1, n2, set_set]); try rfl) ?_; simp (maxSteps := 2000000) only [Ty.w, simprocAttr, g2, g4, g5, g8, g9, g44, r0, o1, o2, n1, n2, set_set]
                    repeat' (first | (refine a_seq (fun K hK => ?_)) | (refine a_block ?_) | (refine a_regionS ?_; simp (maxSteps := 2000000) only [Ty.w, simprocAttr, g2, g4, g5, g8, g9, g44, r0, o1, o2, n1, n2]) | (refine a_skip ?_; (try simp only [pst0, simprocAttr])) | (refine hK _ _ ?_; clear hK; (try simp only [pst0, simprocAttr])))
                    refine PJ.mk2 hpi c w ⟨#[]⟩ _ _ _ _ ?_ ?_ ?_ ?_ ?_ ?_
                    · simp only [Ty.w, simprocAttr, g2]
                    · simp only [Ty.w, simprocAttr, g8]
                    · simp only [Ty.w, simprocAttr]; first | exact e0.symm | rfl
                    · exact ⟨rfl, rfl, rfl, rfl⟩
                    · exact fun _ => hX
                    · intro hh; rw [hc] at hh; exact absurd hh (by simp)
                  | true =>
                    rw [hc] at hX
                    simp only [cond_true] at hX
                    have e0 : errP c = .sc .nilIface := by simp only [errP, hc, cond_true]
                    rw [e0] at hcp
                    clear e0
                    generalize fmPs [b] = KK at hck hX
                    obtain ⟨ks, c2⟩ := KK
                    simp only at hck hX
                    cases hc2 : c2 == 0 with
                    | false =>
                      rw [hc2] at hX
                      simp only [cond_false] at hX
                      have e0 : errP c2 = errV c2 := by simp only [errP, hc2, cond_false]
                      rw [e0] at hck
                      simp only [errV] at hck e0
                      repeat' (first | (refine a_seq (fun K hK => ?_)) | (refine a_regionS ?_; simp (maxSteps := 2000000) only [Ty.w, simprocAttr, g2, g4, g5, g8, g9, g44, g59, r0, q3, o1, o2]) | (refine a_skip ?_; (try simp only [pst0, simprocAttr])) | (refine a_cond _ (by (try simp (maxSteps := 2000000) only [Ty.w, simprocAttr, g2, g4, g5, g8, g9, g44, g59, r0, q3, o1, o2]); rfl) (fun hb => ?_) (fun hb => ?_) <;> (try simp only [hb0, decide_eq_true_eq, decide_eq_false_iff_not, simprocAttr] at hb) <;> (try (exfalso; omega))) | (refine hK _ _ ?_; clear hK; (try simp only [pst0, simprocAttr])))
                      refine owp_useQ (hcp _) (by (try simp only [Ty.w, simprocAttr, g2, g4, g5, g8, g9, g44, r0, o1, o2, n1, n2, set_set]); try rfl) ?_; simp (maxSteps := 2000000) only [Ty.w, simprocAttr, g2, g4, g5, g8, g9, g44, r0, o1, o2, n1, n2, set_set]
                      repeat' (first | (refine a_seq (fun K hK => ?_)) | (refine a_block ?_) | ((first | refine a_regionS ?_ | refine a_region (fun K hK => ?_)); simp (maxSteps := 2000000) only [Ty.w, simprocAttr, g2, g4, g5, g8, g9, g44, r0, o1, o2, n1, n2, hq1, ht, Option.getD_some, Option.getD_none, Int.le_refl, Int.toNat_one]) | (refine hK _ _ ?_; clear hK; (try simp only [pst0, simprocAttr])))
                      refine owp_useQ (hck _) (by (try simp only [Ty.w, simprocAttr, g2, g4, g5, g8, g9, g44, r0, o1, o2, n1, n2, hq1, ht, Option.getD_some, Option.getD_none, Int.le_refl, Int.toNat_one, set_set]); try rfl) ?_; simp (maxSteps := 2000000) only [Ty.w, simprocAttr, g2, g4, g5, g8, g9, g44, r0, o1, o2, n1, n2, hq1, ht, Option.getD_some, Option.getD_none, Int.le_refl, Int.toNat_one, set_set]
                      repeat' (refine hK _ _ ?_; clear hK; (try simp only [pst0, simprocAttr]))
                      try rw [set_set]
                      refine PJ.mk2 hpi c2 w ⟨#[]⟩ _ _ _ _ ?_ ?_ ?_ ?_ ?_ ?_
                      · simp only [Ty.w, simprocAttr, g2]
                      · simp only [Ty.w, simprocAttr, g8]
                      · simp only [Ty.w, simprocAttr]; first | exact e0.symm | rfl
                      · exact ⟨rfl, rfl, rfl, rfl⟩
                      · exact fun _ => hX
                      · intro hh; rw [hc2] at hh; exact absurd hh (by simp)
                    | true =>
                      rw [hc2] at hX
                      simp only [cond_true] at hX
                      have e0 : errP c2 = .sc .nilIface := by simp only [errP, hc2, cond_true]
                      rw [e0] at hck
                      repeat' (first | (refine a_seq (fun K hK => ?_)) | (refine a_regionS ?_; simp (maxSteps := 2000000) only [Ty.w, simprocAttr, g2, g4, g5, g8, g9, g44, g59, r0, q3, o1, o2]) | (refine a_skip ?_; (try simp only [pst0, simprocAttr])) | (refine a_cond _ (by (try simp (maxSteps := 2000000) only [Ty.w, simprocAttr, g2, g4, g5, g8, g9, g44, g59, r0, q3, o1, o2]); rfl) (fun hb => ?_) (fun hb => ?_) <;> (try simp only [hb0, decide_eq_true_eq, decide_eq_false_iff_not, simprocAttr] at hb) <;> (try (exfalso; omega))) | (refine hK _ _ ?_; clear hK; (try simp only [pst0, simprocAttr])))
                      refine owp_useQ (hcp _) (by (try simp only [Ty.w, simprocAttr, g2, g4, g5, g8, g9, g44, r0, o1, o2, n1, n2, set_set]); try rfl) ?_; simp (maxSteps := 2000000) only [Ty.w, simprocAttr, g2, g4, g5, g8, g9, g44, r0, o1, o2, n1, n2, set_set]
                      repeat' (first | (refine a_seq (fun K hK => ?_)) | (refine a_block ?_) | ((first | refine a_regionS ?_ | refine a_region (fun K hK => ?_)); simp (maxSteps := 2000000) only [Ty.w, simprocAttr, g2, g4, g5, g8, g9, g44, r0, o1, o2, n1, n2, hq1, ht, Option.getD_some, Option.getD_none, Int.le_refl, Int.toNat_one]) | (refine hK _ _ ?_; clear hK; (try simp only [pst0, simprocAttr])))
                      refine owp_useQ (hck _) (by (try simp only [Ty.w, simprocAttr, g2, g4, g5, g8, g9, g44, r0, o1, o2, n1, n2, hq1, ht, Option.getD_some, Option.getD_none, Int.le_refl, Int.toNat_one, set_set]); try rfl) ?_; simp (maxSteps := 2000000) only [Ty.w, simprocAttr, g2, g4, g5, g8, g9, g44, r0, o1, o2, n1, n2, hq1, ht, Option.getD_some, Option.getD_none, Int.le_refl, Int.toNat_one, set_set]
                      repeat' (refine hK _ _ ?_; clear hK; (try simp only [pst0, simprocAttr]))
                      try rw [set_set]
                      refine PJ.mk2 hpi c2 w ⟨#[]⟩ _ _ _ _ ?_ ?_ ?_ ?_ ?_ ?_
                      · simp only [Ty.w, simprocAttr, g2]
                      · simp only [Ty.w, simprocAttr, g8]
                      · simp only [Ty.w, simprocAttr]; first | exact e0.symm | rfl
                      · exact ⟨rfl, rfl, rfl, rfl⟩
                      · intro hh; rw [hc2] at hh; exact absurd hh (by simp)
                      · subst hX; refine fun _ => ⟨rfl, fun hh => ?_⟩; simp only [Fm.cells, FrzL]; refine ⟨?_, ?_, ?_, ?_, ?_, ?_, trivial⟩ <;> (unfold FrzTo; first | rfl | exact .inr (.inl ⟨rfl, .inr rfl⟩) | exact .inl ⟨rfl, strs_in _ _⟩ | exact .inl ⟨rfl, pms_in _ _⟩ | exact .inl ⟨rfl, fms_in _ _⟩)
              | false =>
                rw [hQ] at g59
                simp only [fmBody, hQ, cond_false] at hX
                repeat' (first | (refine a_hold 23 ?_) | (refine a_cond _ (by (try simp (maxSteps := 2000000) only [Ty.w, simprocAttr, g2, g4, g5, g8, g9, g44, g59]); rfl) (fun hb => ?_) (fun hb => ?_) <;> (try simp only [hb0, decide_eq_true_eq, decide_eq_false_iff_not, simprocAttr] at hb) <;> (try (exfalso; omega))))
                refine ⟨?_⟩
                refine a_cut (fun S h2 => h2 = h' ∧ S 2 = .ptr h.next 0 0 ∧ S 4 = sPV w ∧ S 5 = .imm 6 (Sx.rows rest) ∧ S 8 = .ptr (h.next + 1) 0 0 ∧ S 9 = .sc .nilIface ∧ S 44 = sPV w ∧ S 87 = .sc (.bool (isLst w))) ?_ ?_
                · cases u1 : (w.data.toList == (#[110, 111, 116] : Array UInt8).toList) with
                  | true =>
                    have hq : isLst w = true := by unfold isLst; simp [show bEq w opNot = true from u1]
                    rw [hq]
                    repeat' (first | (refine a_seq (fun K hK => ?_)) | (refine a_regionS ?_; simp (maxSteps := 2000000) only [Ty.w, simprocAttr, g2, g4, g5, g8, g9, g44, g59, u1]) | (refine a_skip ?_; (try simp only [pst0, simprocAttr])) | (refine a_cond _ (by (try simp (maxSteps := 2000000) only [Ty.w, simprocAttr, g2, g4, g5, g8, g9, g44, g59, u1]); rfl) (fun hb => ?_) (fun hb => ?_) <;> (try simp only [hb0, decide_eq_true_eq, decide_eq_false_iff_not, simprocAttr] at hb) <;> (try (exfalso; omega))) | (refine hK _ _ ?_; clear hK; (try simp only [pst0, simprocAttr])))
                    all_goals first | rfl | (simp only [Ty.w, simprocAttr, g2, g4, g5, g8, g9, g44]; done)
                  | false =>
                    cases u2 : (w.data.toList == (#[105, 109, 112, 108, 121] : Array UInt8).toList) with
                    | true =>
                      have hq : isLst w = true := by unfold isLst; simp [show bEq w opNot = false from u1, show bEq w opImp = true from u2]
                      rw [hq]
                      repeat' (first | (refine a_seq (fun K hK => ?_)) | (refine a_regionS ?_; simp (maxSteps := 2000000) only [Ty.w, simprocAttr, g2, g4, g5, g8, g9, g44, g59, u1, u2]) | (refine a_skip ?_; (try simp only [pst0, simprocAttr])) | (refine a_cond _ (by (try simp (maxSteps := 2000000) only [Ty.w, simprocAttr, g2, g4, g5, g8, g9, g44, g59, u1, u2]); rfl) (fun hb => ?_) (fun hb => ?_) <;> (try simp only [hb0, decide_eq_true_eq, decide_eq_false_iff_not, simprocAttr] at hb) <;> (try (exfalso; omega))) | (refine hK _ _ ?_; clear hK; (try simp only [pst0, simprocAttr])))
                      all_goals first | rfl | (simp only [Ty.w, simprocAttr, g2, g4, g5, g8, g9, g44]; done)
                    | false =>
                      cases u3 : (w.data.toList == (#[97, 110, 100] : Array UInt8).toList) with
                      | true =>
                        have hq : isLst w = true := by unfold isLst; simp [show bEq w opNot = false from u1, show bEq w opImp = false from u2, show bEq w opAnd = true from u3]
                        rw [hq]
                        repeat' (first | (refine a_seq (fun K hK => ?_)) | (refine a_regionS ?_; simp (maxSteps := 2000000) only [Ty.w, simprocAttr, g2, g4, g5, g8, g9, g44, g59, u1, u2, u3]) | (refine a_skip ?_; (try simp only [pst0, simprocAttr])) | (refine a_cond _ (by (try simp (maxSteps := 2000000) only [Ty.w, simprocAttr, g2, g4, g5, g8, g9, g44, g59, u1, u2, u3]); rfl) (fun hb => ?_) (fun hb => ?_) <;> (try simp only [hb0, decide_eq_true_eq, decide_eq_false_iff_not, simprocAttr] at hb) <;> (try (exfalso; omega))) | (refine hK _ _ ?_; clear hK; (try simp only [pst0, simprocAttr])))
                        all_goals first | rfl | (simp only [Ty.w, simprocAttr, g2, g4, g5, g8, g9, g44]; done)
                      | false =>
                        cases u4 : (w.data.toList == (#[111, 114] : Array UInt8).toList) with
                        | true =>
                          have hq : isLst w = true := by unfold isLst; simp [show bEq w opNot = false from u1, show bEq w opImp = false from u2, show bEq w opAnd = false from u3, show bEq w opOr = true from u4]
                          rw [hq]
                          repeat' (first | (refine a_seq (fun K hK => ?_)) | (refine a_regionS ?_; simp (maxSteps := 2000000) only [Ty.w, simprocAttr, g2, g4, g5, g8, g9, g44, g59, u1, u2, u3, u4]) | (refine a_cond _ (by (try simp (maxSteps := 2000000) only [Ty.w, simprocAttr, g2, g4, g5, g8, g9, g44, g59, u1, u2, u3, u4]); rfl) (fun hb => ?_) (fun hb => ?_) <;> (try simp only [hb0, decide_eq_true_eq, decide_eq_false_iff_not, simprocAttr] at hb) <;> (try (exfalso; omega))) | (refine hK _ _ ?_; clear hK; (try simp only [pst0, simprocAttr])))
                          all_goals first | rfl | (simp only [Ty.w, simprocAttr, g2, g4, g5, g8, g9, g44]; done)
                        | false =>
                          have hq : isLst w = false := by unfold isLst; simp [show bEq w opNot = false from u1, show bEq w opImp = false from u2, show bEq w opAnd = false from u3, show bEq w opOr = false from u4]
                          rw [hq]
                          repeat' (first | (refine a_seq (fun K hK => ?_)) | (refine a_regionS ?_; simp (maxSteps := 2000000) only [Ty.w, simprocAttr, g2, g4, g5, g8, g9, g44, g59, u1, u2, u3, u4]) | (refine a_cond _ (by (try simp (maxSteps := 2000000) only [Ty.w, simprocAttr, g2, g4, g5, g8, g9, g44, g59, u1, u2, u3, u4]); rfl) (fun hb => ?_) (fun hb => ?_) <;> (try simp only [hb0, decide_eq_true_eq, decide_eq_false_iff_not, simprocAttr] at hb) <;> (try (exfalso; omega))) | (refine hK _ _ ?_; clear hK; (try simp only [pst0, simprocAttr])))
                          all_goals first | rfl | (simp only [Ty.w, simprocAttr, g2, g4, g5, g8, g9, g44]; done)
                · clear g2 g4 g5 g8 g9 g44 g59
                  rintro S h' ⟨rfl, g2, g4, g5, g8, g9, g44, g87⟩
                  cases hL : isLst w with
                  | true =>
                    rw [hL] at g87 hX
                    simp only [cond_true] at hX
                    have hck := fun h => kids_c (l := rest) hrl ihr h
                    generalize fmPs rest = KK at hck hX
                    obtain ⟨ks, c2⟩ := KK
                    simp only at hck hX
                    cases hc2 : c2 == 0 with
                    | false =>
                      rw [hc2] at hX
                      simp only [cond_false] at hX
                      have e0 : errP c2 = errV c2 := by simp only [errP, hc2, cond_false]
                      rw [e0] at hck
                      simp only [errV] at hck e0
                      repeat' (first | (refine a_region (fun K hK => ?_); simp (maxSteps := 2000000) only [Ty.w, simprocAttr, g2, g4, g5, g8, g9, g44, g87, o1, o2]) | (refine a_cond _ (by (try simp (maxSteps := 2000000) only [Ty.w, simprocAttr, g2, g4, g5, g8, g9, g44, g87, o1, o2]); rfl) (fun hb => ?_) (fun hb => ?_) <;> (try simp only [hb0, decide_eq_true_eq, decide_eq_false_iff_not, simprocAttr] at hb) <;> (try (exfalso; omega))))
                      refine owp_useQ (hck _) (by (try simp only [Ty.w, simprocAttr, g2, g4, g5, g8, g9, g44, g87, o1, o2, n1, n2, set_set]); try rfl) ?_; simp (maxSteps := 2000000) only [Ty.w, simprocAttr, g2, g4, g5, g8, g9, g44, g87, o1, o2, n1, n2, set_set]
                      repeat' (refine hK _ _ ?_; clear hK; (try simp only [pst0, simprocAttr]))
                      refine PJ.mk2 hpi c2 w ⟨#[]⟩ _ _ _ _ ?_ ?_ ?_ ?_ ?_ ?_
                      · simp only [Ty.w, simprocAttr, g2]
                      · simp only [Ty.w, simprocAttr, g8]
                      · simp only [Ty.w, simprocAttr]; first | exact e0.symm | rfl
                      · exact ⟨rfl, rfl, rfl, rfl⟩
                      · exact fun _ => hX
                      · intro hh; rw [hc2] at hh; exact absurd hh (by simp)
                    | true =>
                      rw [hc2] at hX
                      simp only [cond_true] at hX
                      have e0 : errP c2 = .sc .nilIface := by simp only [errP, hc2, cond_true]
                      rw [e0] at hck
                      repeat' (first | (refine a_region (fun K hK => ?_); simp (maxSteps := 2000000) only [Ty.w, simprocAttr, g2, g4, g5, g8, g9, g44, g87, o1, o2]) | (refine a_cond _ (by (try simp (maxSteps := 2000000) only [Ty.w, simprocAttr, g2, g4, g5, g8, g9, g44, g87, o1, o2]); rfl) (fun hb => ?_) (fun hb => ?_) <;> (try simp only [hb0, decide_eq_true_eq, decide_eq_false_iff_not, simprocAttr] at hb) <;> (try (exfalso; omega))))
                      refine owp_useQ (hck _) (by (try simp only [Ty.w, simprocAttr, g2, g4, g5, g8, g9, g44, g87, o1, o2, n1, n2, set_set]); try rfl) ?_; simp (maxSteps := 2000000) only [Ty.w, simprocAttr, g2, g4, g5, g8, g9, g44, g87, o1, o2, n1, n2, set_set]
                      repeat' (refine hK _ _ ?_; clear hK; (try simp only [pst0, simprocAttr]))
                      refine PJ.mk2 hpi c2 w ⟨#[]⟩ _ _ _ _ ?_ ?_ ?_ ?_ ?_ ?_
                      · simp only [Ty.w, simprocAttr, g2]
                      · simp only [Ty.w, simprocAttr, g8]
                      · simp only [Ty.w, simprocAttr]; first | exact e0.symm | rfl
                      · exact ⟨rfl, rfl, rfl, rfl⟩
                      · intro hh; rw [hc2] at hh; exact absurd hh (by simp)
                      · subst hX; refine fun _ => ⟨rfl, fun hh => ?_⟩; simp only [Fm.cells, FrzL]; refine ⟨?_, ?_, ?_, ?_, ?_, ?_, trivial⟩ <;> (unfold FrzTo; first | rfl | exact .inr (.inl ⟨rfl, .inr rfl⟩) | exact .inl ⟨rfl, strs_in _ _⟩ | exact .inl ⟨rfl, pms_in _ _⟩ | exact .inl ⟨rfl, fms_in _ _⟩)
                  | false =>
                    rw [hL] at g87 hX
                    simp only [cond_false] at hX
                    repeat' (first | (refine a_hold 28 ?_) | (refine a_cond _ (by (try simp (maxSteps := 2000000) only [Ty.w, simprocAttr, g2, g4, g5, g8, g9, g44, g87]); rfl) (fun hb => ?_) (fun hb => ?_) <;> (try simp only [hb0, decide_eq_true_eq, decide_eq_false_iff_not, simprocAttr] at hb) <;> (try (exfalso; omega))))
                    refine ⟨?_⟩
                    refine a_cut (fun S h2 => h2 = h' ∧ S 2 = .ptr h.next 0 0 ∧ S 4 = sPV w ∧ S 5 = .imm 6 (Sx.rows rest) ∧ S 8 = .ptr (h.next + 1) 0 0 ∧ S 9 = .sc .nilIface ∧ S 44 = sPV w ∧ S 98 = .sc (.bool (isCmp5 w))) ?_ ?_
                    · cases u1 : (w.data.toList == (#[61] : Array UInt8).toList) with
                      | true =>
                        have hq : isCmp5 w = true := by unfold isCmp5 isCmp; simp [show bEq w opEq = true from u1]
                        rw [hq]
                        repeat' (first | (refine a_seq (fun K hK => ?_)) | (refine a_regionS ?_; simp (maxSteps := 2000000) only [Ty.w, simprocAttr, g2, g4, g5, g8, g9, g44, g87, u1]) | (refine a_skip ?_; (try simp only [pst0, simprocAttr])) | (refine a_cond _ (by (try simp (maxSteps := 2000000) only [Ty.w, simprocAttr, g2, g4, g5, g8, g9, g44, g87, u1]); rfl) (fun hb => ?_) (fun hb => ?_) <;> (try simp only [hb0, decide_eq_true_eq, decide_eq_false_iff_not, simprocAttr] at hb) <;> (try (exfalso; omega))) | (refine hK _ _ ?_; clear hK; (try simp only [pst0, simprocAttr])))
                        all_goals first | rfl | (simp only [Ty.w, simprocAttr, g2, g4, g5, g8, g9, g44]; done)
                      | false =>
                        cases u2 : (w.data.toList == (#[60] : Array UInt8).toList) with
                        | true =>
                          have hq : isCmp5 w = true := by unfold isCmp5 isCmp; simp [show bEq w opEq = false from u1, show bEq w opLt = true from u2]
                          rw [hq]
                          repeat' (first | (refine a_seq (fun K hK => ?_)) | (refine a_regionS ?_; simp (maxSteps := 2000000) only [Ty.w, simprocAttr, g2, g4, g5, g8, g9, g44, g87, u1, u2]) | (refine a_skip ?_; (try simp only [pst0, simprocAttr])) | (refine a_cond _ (by (try simp (maxSteps := 2000000) only [Ty.w, simprocAttr, g2, g4, g5, g8, g9, g44, g87, u1, u2]); rfl) (fun hb => ?_) (fun hb => ?_) <;> (try simp only [hb0, decide_eq_true_eq, decide_eq_false_iff_not, simprocAttr] at hb) <;> (try (exfalso; omega))) | (refine hK _ _ ?_; clear hK; (try simp only [pst0, simprocAttr])))
                          all_goals first | rfl | (simp only [Ty.w, simprocAttr, g2, g4, g5, g8, g9, g44]; done)
                        | false =>
                          cases u3 : (w.data.toList == (#[60, 61] : Array UInt8).toList) with
                          | true =>
                            have hq : isCmp5 w = true := by unfold isCmp5 isCmp; simp [show bEq w opEq = false from u1, show bEq w opLt = false from u2, show bEq w opLe = true from u3]
                            rw [hq]
                            repeat' (first | (refine a_seq (fun K hK => ?_)) | (refine a_regionS ?_; simp (maxSteps := 2000000) only [Ty.w, simprocAttr, g2, g4, g5, g8, g9, g44, g87, u1, u2, u3]) | (refine a_skip ?_; (try simp only [pst0, simprocAttr])) | (refine a_cond _ (by (try simp (maxSteps := 2000000) only [Ty.w, simprocAttr, g2, g4, g5, g8, g9, g44, g87, u1, u2, u3]); rfl) (fun hb => ?_) (fun hb => ?_) <;> (try simp only [hb0, decide_eq_true_eq, decide_eq_false_iff_not, simprocAttr] at hb) <;> (try (exfalso; omega))) | (refine hK _ _ ?_; clear hK; (try simp only [pst0, simprocAttr])))
                            all_goals first | rfl | (simp only [Ty.w, simprocAttr, g2, g4, g5, g8, g9, g44]; done)
                          | false =>
                            cases u4 : (w.data.toList == (#[62] : Array UInt8).toList) with
                            | true =>
                              have hq : isCmp5 w = true := by unfold isCmp5 isCmp; simp [show bEq w opEq = false from u1, show bEq w opLt = false from u2, show bEq w opLe = false from u3, show bEq w opGt = true from u4]
                              rw [hq]
                              repeat' (first | (refine a_seq (fun K hK => ?_)) | (refine a_regionS ?_; simp (maxSteps := 2000000) only [Ty.w, simprocAttr, g2, g4, g5, g8, g9, g44, g87, u1, u2, u3, u4]) | (refine a_skip ?_; (try simp only [pst0, simprocAttr])) | (refine a_cond _ (by (try simp (maxSteps := 2000000) only [Ty.w, simprocAttr, g2, g4, g5, g8, g9, g44, g87, u1, u2, u3, u4]); rfl) (fun hb => ?_) (fun hb => ?_) <;> (try simp only [hb0, decide_eq_true_eq, decide_eq_false_iff_not, simprocAttr] at hb) <;> (try (exfalso; omega))) | (refine hK _ _ ?_; clear hK; (try simp only [pst0, simprocAttr])))
                              all_goals first | rfl | (simp only [Ty.w, simprocAttr, g2, g4, g5, g8, g9, g44]; done)
                            | false =>
                              cases u5 : (w.data.toList == (#[62, 61] : Array UInt8).toList) with
                              | true =>
                                have hq : isCmp5 w = true := by unfold isCmp5 isCmp; simp [show bEq w opEq = false from u1, show bEq w opLt = false from u2, show bEq w opLe = false from u3, show bEq w opGt = false from u4, show bEq w opGe = true from u5]
                                rw [hq]
                                repeat' (first | (refine a_seq (fun K hK => ?_)) | (refine a_regionS ?_; simp (maxSteps := 2000000) only [Ty.w, simprocAttr, g2, g4, g5, g8, g9, g44, g87, u1, u2, u3, u4, u5]) | (refine a_cond _ (by (try simp (maxSteps := 2000000) only [Ty.w, simprocAttr, g2, g4, g5, g8, g9, g44, g87, u1, u2, u3, u4, u5]); rfl) (fun hb => ?_) (fun hb => ?_) <;> (try simp only [hb0, decide_eq_true_eq, decide_eq_false_iff_not, simprocAttr] at hb) <;> (try (exfalso; omega))) | (refine hK _ _ ?_; clear hK; (try simp only [pst0, simprocAttr])))
                                all_goals first | rfl | (simp only [Ty.w, simprocAttr, g2, g4, g5, g8, g9, g44]; done)
                              | false =>
                                have hq : isCmp5 w = false := by unfold isCmp5 isCmp; simp [show bEq w opEq = false from u1, show bEq w opLt = false from u2, show bEq w opLe = false from u3, show bEq w opGt = false from u4, show bEq w opGe = false from u5]
                                rw [hq]
                                repeat' (first | (refine a_seq (fun K hK => ?_)) | (refine a_regionS ?_; simp (maxSteps := 2000000) only [Ty.w, simprocAttr, g2, g4, g5, g8, g9, g44, g87, u1, u2, u3, u4, u5]) | (refine a_cond _ (by (try simp (maxSteps := 2000000) only [Ty.w, simprocAttr, g2, g4, g5, g8, g9, g44, g87, u1, u2, u3, u4, u5]); rfl) (fun hb => ?_) (fun hb => ?_) <;> (try simp only [hb0, decide_eq_true_eq, decide_eq_false_iff_not, simprocAttr] at hb) <;> (try (exfalso; omega))) | (refine hK _ _ ?_; clear hK; (try simp only [pst0, simprocAttr])))
                                all_goals first | rfl | (simp only [Ty.w, simprocAttr, g2, g4, g5, g8, g9, g44]; done)
                    · clear g2 g4 g5 g8 g9 g44 g87
                      rintro S h' ⟨rfl, g2, g4, g5, g8, g9, g44, g98⟩
                      cases hC : isCmp5 w with
                      | true =>
                        rw [hC] at g98 hX
                        simp only [cond_true] at hX
                        obtain ⟨x, y, rfl⟩ : ∃ x y, rest = [x, y] := by
                          have h2 := count_two (.inr hC) hcnt
                          match rest, h2 with
                          | [p, b], _ => exact ⟨p, b, rfl⟩
                        simp only at hX
                        have hcc := fun h => compare_c (w := w) (hro x (by simp)) (hro y (by simp)) (expr_c x (hro x (by simp)) (hsr x (by simp))) (expr_c y (hro y (by simp)) (hsr y (by simp))) h
                        have hfz := fun hh => fm_frz h.next hh (compareP w x y).1
                        generalize compareP w x y = CC at hcc hX hfz
                        obtain ⟨f, c⟩ := CC
                        simp only at hcc hfz
                        have r0 := Sx.rows_get (l := [x, y]) (i := 0) rfl
                        have r1 := Sx.rows_get (l := [x, y]) (i := 1) rfl
                        generalize Sx.rows [x, y] = R at g5 r0 r1 hlr
                        obtain ⟨xk, xv, xl, xc, xt, xks⟩ := x
                        obtain ⟨yk, yv, yl, yc, yt, yks⟩ := y
                        obtain ⟨fop, fna, far, fpa, fex, fki⟩ := f
                        simp only [Sx.cells] at r0 r1 hcc
                        simp only [Fm.cells] at hcc hfz
                        cases hc2 : c == 0 with
                        | false =>
                          simp only [fin, hc2, cond_false] at hX
                          have e0 : errP c = errV c := by simp only [errP, hc2, cond_false]
                          rw [e0] at hcc
                          simp only [errV] at hcc e0
                          repeat' (first | (refine a_draw (by decide +kernel) (fun K hK => ?_); simp (maxSteps := 2000000) only [Ty.w, simprocAttr, g2, g4, g5, g8, g9, g44, g98, r0, r1, o1, o2]) | (refine a_cond _ (by (try simp (maxSteps := 2000000) only [Ty.w, simprocAttr, g2, g4, g5, g8, g9, g44, g98, r0, r1, o1, o2]); rfl) (fun hb => ?_) (fun hb => ?_) <;> (try simp only [hb0, decide_eq_true_eq, decide_eq_false_iff_not, simprocAttr] at hb) <;> (try (exfalso; omega))))
                          (first | refine a_dcall0 (hcc _) (by (try simp only [Ty.w, simprocAttr, g2, g4, g5, g8, g9, g44, g98, r0, r1, o1, o2, n1, n2, set_set]); try rfl) ?_ | refine a_dcallA (hcc _) (by (try simp only [Ty.w, simprocAttr, g2, g4, g5, g8, g9, g44, g98, r0, r1, o1, o2, n1, n2, set_set]); try rfl) (by simp only [Ty.w, simprocAttr, g2, g4, g5, g8, g9, g44, g98, r0, r1, o1, o2, n1, n2, set_set]; try trivial) ?_); simp (maxSteps := 2000000) only [Ty.w, simprocAttr, Option.getD_some, g2, g4, g5, g8, g9, g44, g98, r0, r1, o1, o2, n1, n2, set_set]
                          repeat' (first | (refine hK _ _ ?_; clear hK; (try simp only [pst0, simprocAttr])) | (with_reducible refine a_past2 (by simp only [List.forall_mem_cons, Ty.w, simprocAttr, g2, g4, g5, g8, g9, g44, g98, o1, o2, n1, n2]; (repeat' apply And.intro) <;> first | trivial | exact .inl (by decide +kernel)) ?_; try simp (maxSteps := 2000000) only [Ty.w, simprocAttr, g2, g4, g5, g8, g9, g44, g98, o1, o2, n1, n2]))
                          refine PJ.mk2 hpi c fop fna _ _ _ _ ?_ ?_ ?_ ?_ ?_ ?_
                          · simp only [Ty.w, simprocAttr, g2]
                          · simp only [Ty.w, simprocAttr, g8]
                          · simp only [Ty.w, simprocAttr]; first | exact e0.symm | rfl
                          · exact ⟨rfl, rfl, rfl, rfl⟩
                          · exact fun _ => hX
                          · intro hh; rw [hc2] at hh; exact absurd hh (by simp)
                        | true =>
                          simp only [fin, hc2, cond_true] at hX
                          have e0 : errP c = .sc .nilIface := by simp only [errP, hc2, cond_true]
                          rw [e0] at hcc
                          repeat' (first | (refine a_draw (by decide +kernel) (fun K hK => ?_); simp (maxSteps := 2000000) only [Ty.w, simprocAttr, g2, g4, g5, g8, g9, g44, g98, r0, r1, o1, o2]) | (refine a_cond _ (by (try simp (maxSteps := 2000000) only [Ty.w, simprocAttr, g2, g4, g5, g8, g9, g44, g98, r0, r1, o1, o2]); rfl) (fun hb => ?_) (fun hb => ?_) <;> (try simp only [hb0, decide_eq_true_eq, decide_eq_false_iff_not, simprocAttr] at hb) <;> (try (exfalso; omega))))
                          (first | refine a_dcall0 (hcc _) (by (try simp only [Ty.w, simprocAttr, g2, g4, g5, g8, g9, g44, g98, r0, r1, o1, o2, n1, n2, set_set]); try rfl) ?_ | refine a_dcallA (hcc _) (by (try simp only [Ty.w, simprocAttr, g2, g4, g5, g8, g9, g44, g98, r0, r1, o1, o2, n1, n2, set_set]); try rfl) (by simp only [Ty.w, simprocAttr, g2, g4, g5, g8, g9, g44, g98, r0, r1, o1, o2, n1, n2, set_set]; try trivial) ?_); simp (maxSteps := 2000000) only [Ty.w, simprocAttr, Option.getD_some, g2, g4, g5, g8, g9, g44, g98, r0, r1, o1, o2, n1, n2, set_set]
                          repeat' (first | (refine hK _ _ ?_; clear hK; (try simp only [pst0, simprocAttr])) | (with_reducible refine a_past2 (by simp only [List.forall_mem_cons, Ty.w, simprocAttr, g2, g4, g5, g8, g9, g44, g98, o1, o2, n1, n2]; (repeat' apply And.intro) <;> first | trivial | exact .inl (by decide +kernel)) ?_; try simp (maxSteps := 2000000) only [Ty.w, simprocAttr, g2, g4, g5, g8, g9, g44, g98, o1, o2, n1, n2]))
                          refine PJ.mk2 hpi c fop fna _ _ _ _ ?_ ?_ ?_ ?_ ?_ ?_
                          · simp only [Ty.w, simprocAttr, g2]
                          · simp only [Ty.w, simprocAttr, g8]
                          · simp only [Ty.w, simprocAttr]; first | exact e0.symm | rfl
                          · exact ⟨rfl, rfl, rfl, rfl⟩
                          · intro hh; rw [hc2] at hh; exact absurd hh (by simp)
                          · subst hX; exact fun _ => ⟨by simpa using hc2, fun hh => by simpa only [Fm.cells] using hfz hh⟩
                      | false =>
                        rw [hC] at g98 hX
                        simp only [cond_false] at hX
                        have hw' : w.size ≤ 9223372036854775807 := by unfold bigN at hw; omega
                        have hn := fun h : Heap => fname_c (h := h) hw'
                        cases hN1 : nameB w with
                        | false =>
                          rw [hN1] at hn hX
                          simp only [cond_false] at hX
                          repeat' (first | (refine a_seq (fun K hK => ?_)) | (refine a_regionS ?_; simp (maxSteps := 2000000) only [Ty.w, simprocAttr, g2, g4, g5, g8, g9, g44, g98, o1, o2]) | (refine a_cond _ (by (try simp (maxSteps := 2000000) only [Ty.w, simprocAttr, g2, g4, g5, g8, g9, g44, g98, o1, o2]); rfl) (fun hb => ?_) (fun hb => ?_) <;> (try simp only [hb0, decide_eq_true_eq, decide_eq_false_iff_not, simprocAttr] at hb) <;> (try (exfalso; omega))))
                          refine owp_useQ (hn _) (by (try simp only [Ty.w, simprocAttr, g2, g4, g5, g8, g9, g44, g98]); try rfl) ?_; simp (maxSteps := 2000000) only [Ty.w, simprocAttr, g2, g4, g5, g8, g9, g44, g98]
                          repeat' (first | (refine a_seq (fun K hK => ?_)) | ((first | refine a_regionS ?_ | refine a_ret ?_); simp (maxSteps := 2000000) only [Ty.w, simprocAttr, g2, g4, g5, g8, g9, g44, g98, o1, o2, Bool.not_false]) | (refine hK _ _ ?_; clear hK; (try simp only [pst0, simprocAttr])))
                          exact errRet (.inr rfl) (hpi.grow.set (Nat.le_refl _) _) hX
                        | true =>
                          rw [hN1] at hn hX
                          simp only [cond_true] at hX
                          have ht := fun h : Heap => terms_c hrl hro h
                          generalize termsM rest = T at ht hX
                          obtain ⟨t, c⟩ := T
                          simp only at ht hX
                          cases hc2 : c == 0 with
                          | false =>
                            rw [hc2] at hX
                            simp only [cond_false] at hX
                            have e0 : errP c = errV c := by simp only [errP, hc2, cond_false]
                            rw [e0] at ht
                            simp only [errV] at ht e0
                            repeat' (first | (refine a_seq (fun K hK => ?_)) | (refine a_regionS ?_; simp (maxSteps := 2000000) only [Ty.w, simprocAttr, g2, g4, g5, g8, g9, g44, g98, o1, o2]) | (refine a_cond _ (by (try simp (maxSteps := 2000000) only [Ty.w, simprocAttr, g2, g4, g5, g8, g9, g44, g98, o1, o2]); rfl) (fun hb => ?_) (fun hb => ?_) <;> (try simp only [hb0, decide_eq_true_eq, decide_eq_false_iff_not, simprocAttr] at hb) <;> (try (exfalso; omega))))
                            refine owp_useQ (hn _) (by (try simp only [Ty.w, simprocAttr, g2, g4, g5, g8, g9, g44, g98]); try rfl) ?_; simp (maxSteps := 2000000) only [Ty.w, simprocAttr, g2, g4, g5, g8, g9, g44, g98]
                            repeat' (first | (refine a_seq (fun K hK => ?_)) | ((first | refine a_regionS ?_ | refine a_region (fun K hK => ?_)); simp (maxSteps := 2000000) only [Ty.w, simprocAttr, g2, g4, g5, g8, g9, g44, o1, o2, n1, n2, Bool.not_true]) | (refine a_skip ?_; (try simp only [pst0, simprocAttr])) | (refine a_cond _ (by (try simp (maxSteps := 2000000) only [Ty.w, simprocAttr, g2, g4, g5, g8, g9, g44, o1, o2, n1, n2, Bool.not_true]); rfl) (fun hb => ?_) (fun hb => ?_) <;> (try simp only [hb0, decide_eq_true_eq, decide_eq_false_iff_not, simprocAttr] at hb) <;> (try (exfalso; omega))) | (refine hK _ _ ?_; clear hK; (try simp only [pst0, simprocAttr])))
                            refine owp_useQ (ht _) (by (try simp only [Ty.w, simprocAttr, g2, g4, g5, g8, g9, g44, o1, o2, n1, n2, set_set]); try rfl) ?_; simp (maxSteps := 2000000) only [Ty.w, simprocAttr, g2, g4, g5, g8, g9, g44, o1, o2, n1, n2, set_set]
                            repeat' (refine hK _ _ ?_; clear hK; (try simp only [pst0, simprocAttr]))
                            try simp only [set_set]
                            refine PJ.mk2 hpi c ⟨#[97, 116, 111, 109]⟩ w _ _ _ _ ?_ ?_ ?_ ?_ ?_ ?_
                            · simp only [Ty.w, simprocAttr, g2]
                            · simp only [Ty.w, simprocAttr, g8]
                            · simp only [Ty.w, simprocAttr]; first | exact e0.symm | rfl
                            · exact ⟨rfl, rfl, rfl, rfl⟩
                            · exact fun _ => hX
                            · intro hh; rw [hc2] at hh; exact absurd hh (by simp)
                          | true =>
                            rw [hc2] at hX
                            simp only [cond_true] at hX
                            have e0 : errP c = .sc .nilIface := by simp only [errP, hc2, cond_true]
                            rw [e0] at ht
                            repeat' (first | (refine a_seq (fun K hK => ?_)) | (refine a_regionS ?_; simp (maxSteps := 2000000) only [Ty.w, simprocAttr, g2, g4, g5, g8, g9, g44, g98, o1, o2]) | (refine a_cond _ (by (try simp (maxSteps := 2000000) only [Ty.w, simprocAttr, g2, g4, g5, g8, g9, g44, g98, o1, o2]); rfl) (fun hb => ?_) (fun hb => ?_) <;> (try simp only [hb0, decide_eq_true_eq, decide_eq_false_iff_not, simprocAttr] at hb) <;> (try (exfalso; omega))))
                            refine owp_useQ (hn _) (by (try simp only [Ty.w, simprocAttr, g2, g4, g5, g8, g9, g44, g98]); try rfl) ?_; simp (maxSteps := 2000000) only [Ty.w, simprocAttr, g2, g4, g5, g8, g9, g44, g98]
                            repeat' (first | (refine a_seq (fun K hK => ?_)) | ((first | refine a_regionS ?_ | refine a_region (fun K hK => ?_)); simp (maxSteps := 2000000) only [Ty.w, simprocAttr, g2, g4, g5, g8, g9, g44, o1, o2, n1, n2, Bool.not_true]) | (refine a_skip ?_; (try simp only [pst0, simprocAttr])) | (refine a_cond _ (by (try simp (maxSteps := 2000000) only [Ty.w, simprocAttr, g2, g4, g5, g8, g9, g44, o1, o2, n1, n2, Bool.not_true]); rfl) (fun hb => ?_) (fun hb => ?_) <;> (try simp only [hb0, decide_eq_true_eq, decide_eq_false_iff_not, simprocAttr] at hb) <;> (try (exfalso; omega))) | (refine hK _ _ ?_; clear hK; (try simp only [pst0, simprocAttr])))
                            refine owp_useQ (ht _) (by (try simp only [Ty.w, simprocAttr, g2, g4, g5, g8, g9, g44, o1, o2, n1, n2, set_set]); try rfl) ?_; simp (maxSteps := 2000000) only [Ty.w, simprocAttr, g2, g4, g5, g8, g9, g44, o1, o2, n1, n2, set_set]
                            repeat' (refine hK _ _ ?_; clear hK; (try simp only [pst0, simprocAttr]))
                            try simp only [set_set]
                            refine PJ.mk2 hpi c ⟨#[97, 116, 111, 109]⟩ w _ _ _ _ ?_ ?_ ?_ ?_ ?_ ?_
                            · simp only [Ty.w, simprocAttr, g2]
                            · simp only [Ty.w, simprocAttr, g8]
                            · simp only [Ty.w, simprocAttr]; first | exact e0.symm | rfl
                            · exact ⟨rfl, rfl, rfl, rfl⟩
                            · intro hh; rw [hc2] at hh; exact absurd hh (by simp)
                            · subst hX; refine fun _ => ⟨rfl, fun hh => ?_⟩; simp only [Fm.cells, FrzL]; refine ⟨?_, ?_, ?_, ?_, ?_, ?_, trivial⟩ <;> (unfold FrzTo; first | rfl | exact .inr (.inl ⟨rfl, .inr rfl⟩) | exact .inl ⟨rfl, strs_in _ _⟩ | exact .inl ⟨rfl, pms_in _ _⟩ | exact .inl ⟨rfl, fms_in _ _⟩)
          · clear g2 g4 g5 g8 g9 hpi
            rintro S h' ⟨g2, g8, hg, c, a, b, p2, p3, p4, p5, g9, o1, o2, ⟨z2, z3, z4, z5⟩, hc, hd⟩
            simp only [fmZ] at o1
            cases hcc : c == 0 with
            | false =>
              have hF := hc hcc
              have e0 : errP c = errV c := by simp only [errP, hcc, cond_false]
              rw [e0] at g9
              simp only [errV] at g9
              subst hF
              rw [e0]
              simp only [errV]
              repeat' (first | (refine a_seq (fun K hK => ?_)) | ((first | refine a_regionS ?_ | refine a_ret ?_); simp (maxSteps := 2000000) only [Ty.w, simprocAttr, g2, g8, g9, o1, o2]) | (refine hK _ _ ?_; clear hK; (try simp only [pst0, simprocAttr])))
              refine ⟨?_, hg.set (Nat.le_refl _) _⟩
              simp only [zeroFm, Fm.cells, Ex.rows, Fm.rows, pmRows, strRows, List.map_nil, FrzTo, FrzL]
              exact ⟨_, rfl, ⟨_, rfl, rfl, rfl, .inr (.inl ⟨rfl, .inr rfl⟩), .inr (.inl ⟨rfl, .inr rfl⟩), .inr (.inl ⟨rfl, .inr rfl⟩), .inr (.inl ⟨rfl, .inr rfl⟩), trivial⟩, rfl, trivial⟩
            | true =>
              have hF := hd hcc
              have e0 : errP c = .sc .nilIface := by simp only [errP, hcc, cond_true]
              rw [e0] at g9
              have e2 : errP F.2 = .sc .nilIface := by rw [hF.1]; try rfl
              rw [e2]
              repeat' (first | (refine a_seq (fun K hK => ?_)) | ((first | refine a_regionS ?_ | refine a_ret ?_); simp (maxSteps := 2000000) only [Ty.w, simprocAttr, g2, g8, g9, o1, o2, z2, z3, z4, z5]) | (refine a_skip ?_; (try simp only [pst0, simprocAttr])) | (refine a_cond _ (by (try simp (maxSteps := 2000000) only [Ty.w, simprocAttr, g2, g8, g9, o1, o2, z2, z3, z4, z5]); rfl) (fun hb => ?_) (fun hb => ?_) <;> (try simp only [hb0, decide_eq_true_eq, decide_eq_false_iff_not, simprocAttr] at hb) <;> (try (exfalso; omega))) | (refine hK _ _ ?_; clear hK; (try simp only [pst0, simprocAttr])))
              refine ⟨?_, hg.set (Nat.le_refl _) _⟩
              have h1 := hF.2 (h'.set h.next (.arr 6 [[sPV a, sPV b, p2, p3, p4, p5]]))
              unfold FrzTo
              refine ⟨_, rfl, ?_⟩
              unfold FrzL
              refine ⟨?_, by unfold FrzL; exact ⟨by simp only [FrzTo], by simp only [FrzL]⟩⟩
              unfold FrzTo
              exact ⟨_, rfl, h1⟩
end Go.Proofs.Ytjlkapgpjamnkaa
