/- What the claim rests on, part 5: the abstract machine, contracts of the functions, plain data. -/
import Derived.OpenShut
import Derived.ChangeShapes
import Derived.SizedLaws
import Derived.Test.YtjlkapgpjamnkaaRows
import Derived.Test.YtjlkapgpjamnkaaZp4
set_option linter.unusedVariables false
set_option linter.unusedSimpArgs false
set_option linter.unusedSectionVars false
namespace Go.Proofs.Ytjlkapgpjamnkaa
open Go.AM
set_option maxHeartbeats 4000000
set_option maxRecDepth 20000
theorem rvalidS_c {x : Sx} (hok : x.ok) (hn : x.nodes ≤ bigN) (hd : x.depth ≤ bigN) (h : Heap) : PCall Try.prog 58 [.agg x.cells] h fun r h' => r = .sc (.bool (svalid x 0 0).1) ∧ h' = h := by
 rw [valid_same hn]
 exact rvalid_c hok hd h
theorem rparams_p {vars : Bool} {l : List Sx} (hl : l.length ≤ 1048576) (hok : ∀ x ∈ l, x.ok) (hnd : ∀ x ∈ l, x.nodes ≤ bigN ∧ x.depth ≤ bigN) (h : Heap) :
  PCall Try.prog 138 [.imm 6 (Sx.rows l), .sc (.bool vars)] h fun r h' => r = .tup [.imm 2 (pmRows (paramsP vars l).1), iN (paramsP vars l).2] ∧ h' = h := by
 refine PCall.frz Ty.hb_138 ?_
 have hll := Sx.rows_len l
 generalize hF : paramsP vars l = F
 have bad : ∀ (c : Int) (h' : Heap), Grow h h' → F = ([], c) → FrzTo h.next h' (.tup [.imm 2 (pmRows F.1), iN F.2]) (.tup [.sc (.slice none 0 0), iN c]) ∧ Grow h h' := by
  intro c h' hg hf
  subst hf
  exact ⟨frz_tup2 (by simpa only [pmRows, List.map_nil] using frz_nilslice), hg⟩
 refine pcall_body (ow := fun _ => false) (wf := fun _ => false) Ty.mixed Try.func138 rfl Ty.hb_138 (by rw [Try.ntmps138]; simp) ?_
 rw [Try.ntmps138, Try.results138]
 repeat' (first | refine a_seq fun K hK => ?_ | (refine a_block ?_) | (refine a_regionS ?_; simp only [Ty.w, simprocAttr]) | (refine hK _ _ ?_; clear hK; try simp only [pst0, simprocAttr]))
 refine a_loop (fun m S h' => S 0 = .imm 6 (Sx.rows l) ∧ S 1 = .sc (.bool vars) ∧ ∃ (k : Nat) (o : PV) (don : List Pm) (pen : List ByteArray), S 8 = .sc (.int .i64 k) ∧ S 6 = o ∧ S 7 = .sc (.int .i64 pen.length) ∧ k ≤ l.length ∧ m = l.length - k ∧ don.length + pen.length ≤ k ∧ Grow h h' ∧ Tl h' h.next 2 o (pmRows (don ++ pmsOf opObj pen)) ∧ F = paramsL vars (l.drop k) don pen) l.length ?_ ?_
 ·simp only [Ty.w, simprocAttr]
  exact ⟨0, _, [], [], rfl, rfl, rfl, by omega, rfl, by simp, Grow.refl _, Tl.nil, by rw [← hF]; try rfl⟩
 ·rintro m S h' ⟨g0, g1, k, o, don, pen, g8, g6, g7, hk, rfl, hdp, hg, tl, hinv⟩
  clear hF
  by_cases hlt : k < l.length
  ·have hd : decide ((k : Int) < (l.length : Int)) = true := by simp; omega
   have w7 : IntKind.i64.wrap ((k : Int) + 1) = k + 1 := by rw [wrap64 (by omega) (by omega)]
   obtain ⟨x, hx⟩ : ∃ x, l[k]? = some x := ⟨_, List.getElem?_eq_getElem hlt⟩
   have hr := Sx.rows_get hx
   have hxk := hok x (List.mem_of_getElem? hx)
   have hxn := hnd x (List.mem_of_getElem? hx)
   have hv := fun h : Heap => rvalidS_c hxk hxn.1 hxn.2 h
   have hte := textOf_okQ hxk
   rw [drop_of_get hx] at hinv
   simp only [paramsL_cons, isWrd] at hinv
   generalize svalid x 0 0 = V at hv hinv
   obtain ⟨vb, vn⟩ := V
   obtain ⟨ki, va, li, co, te, ks⟩ := x
   simp only [kindOf, textOf] at hinv hte
   simp only [Sx.cells] at hr hv
   have hte' : te.size ≤ 9223372036854775807 := by unfold bigN at hte; omega
   cases q1 : (ki != 1) with
   | true =>
    rw [show (ki == 1) = false by simpa using q1] at hinv
    simp only [Bool.false_and, cond_false] at hinv
    repeat' (first | refine a_seq fun K hK => ?_ | ((first | refine a_regionS ?_ | refine a_ret ?_); simp only [Ty.w, simprocAttr, g0, g1, g6, g7, g8, hll, hd, hr, q1]) | (refine a_skip ?_; try simp only [pst0, simprocAttr]) | (refine a_cond _ (by (try simp only [Ty.w, simprocAttr, g0, g1, g6, g7, g8, hll, hd, hr, q1]); rfl) (fun hb => ?_) (fun hb => ?_) <;> (try simp only [hb0, decide_eq_true_eq, decide_eq_false_iff_not, simprocAttr] at hb) <;> (try (exfalso; omega))) | (refine hK _ _ ?_; clear hK; try simp only [pst0, simprocAttr]))
    exact bad 2 _ hg hinv
   | false =>
    rw [show (ki == 1) = true by simpa using q1] at hinv
    cases vb with
    | false =>
     simp only [Bool.and_false, cond_false] at hinv
     repeat' (first | refine a_seq fun K hK => ?_ | (refine a_regionS ?_; simp only [Ty.w, simprocAttr, g0, g1, g6, g7, g8, hll, hd, hr, q1]) | (refine a_skip ?_; try simp only [pst0, simprocAttr]) | (refine a_cond _ (by (try simp only [Ty.w, simprocAttr, g0, g1, g6, g7, g8, hll, hd, hr, q1]); rfl) (fun hb => ?_) (fun hb => ?_) <;> (try simp only [hb0, decide_eq_true_eq, decide_eq_false_iff_not, simprocAttr] at hb) <;> (try (exfalso; omega))) | (refine hK _ _ ?_; clear hK; try simp only [pst0, simprocAttr]))
     refine owp_useQ (hv _) (by (try simp only [Ty.w, simprocAttr, g0, g1, g6, g7, g8, hll, hd, hr, q1, Bool.not_false]); try rfl) ?_; simp only [Ty.w, simprocAttr, g0, g1, g6, g7, g8, hll, hd, hr, q1, Bool.not_false]
     repeat' (first | refine a_seq fun K hK => ?_ | ((first | refine a_regionS ?_ | refine a_ret ?_); simp only [Ty.w, simprocAttr, g0, g1, g6, g7, g8, Bool.not_false]) | (refine hK _ _ ?_; clear hK; try simp only [pst0, simprocAttr]))
     exact bad 2 _ hg hinv
    | true =>
     simp only [Bool.and_self, cond_true] at hinv
     have W := And.intro g0 (And.intro g1 (And.intro g6 (And.intro g7 (And.intro g8 (And.intro hll (And.intro hd (And.intro hr q1)))))))
     repeat' (first | (with_reducible refine a_hold 9 ?_) | refine a_seq fun K hK => ?_ | (refine a_regionS ?_; simp only [Ty.w, simprocAttr, W]) | (refine a_skip ?_; try simp only [pst0, simprocAttr]) | (refine a_cond _ (by (try simp only [Ty.w, simprocAttr, W]); rfl) (fun hb => ?_) (fun hb => ?_) <;> (try simp only [hb0, decide_eq_true_eq, decide_eq_false_iff_not, simprocAttr] at hb) <;> (try (exfalso; omega))) | (refine hK _ _ ?_; clear hK; try simp only [pst0, simprocAttr]))
     refine owp_useQ (hv _) (by (try simp only [Ty.w, simprocAttr, W, Bool.not_true]); try rfl) ?_; simp only [Ty.w, simprocAttr, W, Bool.not_true]
     repeat' (first | (with_reducible refine a_hold 9 ?_) | refine a_seq fun K hK => ?_ | (refine a_regionS ?_; simp only [Ty.w, simprocAttr, W, Bool.not_true]) | (refine a_skip ?_; try simp only [pst0, simprocAttr]) | (refine a_cond _ (by (try simp only [Ty.w, simprocAttr, W, Bool.not_true]); rfl) (fun hb => ?_) (fun hb => ?_) <;> (try simp only [hb0, decide_eq_true_eq, decide_eq_false_iff_not, simprocAttr] at hb) <;> (try (exfalso; omega))) | (refine hK _ _ ?_; clear hK; try simp only [pst0, simprocAttr]))
     refine ⟨?_⟩
     refine a_gen (fun S h2 => S 0 = .imm 6 (Sx.rows l) ∧ S 1 = .sc (.bool vars) ∧ S 6 = o ∧ S 7 = .sc (.int .i64 pen.length) ∧ S 8 = .sc (.int .i64 k) ∧ S 9 = sPV te ∧ h2 = h') ?_ ?_
     ·simp only [Ty.w, simprocAttr, g0, g1, g6, g7, g8]
     clear g0 g1 g6 g7 g8 hv hr q1
     rintro S h' ⟨g0, g1, g6, g7, g8, g9, rfl⟩
     have hrl : (pmRows (don ++ pmsOf opObj pen)).length = don.length + pen.length := by rw [pmRows_len]; simp [pmsOf]
     obtain ⟨n, hn⟩ : ∃ n, n = don.length + pen.length := ⟨_, rfl⟩
     rw [← hn] at hrl
     cases q2 : (te.data.toList == (#[45] : Array UInt8).toList) with
     | false =>
      have q2' : (te.data.toList != (#[45] : Array UInt8).toList) = true := by simp only [bne, q2, Bool.not_false]
      rw [show bEq te opMin = false from q2] at hinv
      simp only [cond_false] at hinv
      have hap : pmRows (don ++ pmsOf opObj pen) ++ [[.sc (.string te), .sc (.string ⟨#[111, 98, 106, 101, 99, 116]⟩)]] = pmRows (don ++ pmsOf opObj (pen ++ [te])) := by simp [pmRows, pmsOf, pmRow, opObj]
      have hb : (n + 1) * 32 ≤ 140737488355328 := by omega
      have wp : IntKind.i64.wrap ((pen.length : Int) + 1) = ((pen ++ [te]).length : Nat) := by rw [wrap64 (by omega) (by omega)]; simp
      obtain ⟨H, t1, t2, t3, t4, t5⟩ := tl.tail
      have hkp := t5 h ⟨hg.le, hg.old⟩ (Nat.le_refl _)
      have hgH : Grow h H := ⟨hkp.1, hkp.2⟩
      have fin2 : Grow h (H.new (.arr 2 (pmRows (don ++ pmsOf opObj (pen ++ [te]))))) ∧ Tl (H.new (.arr 2 (pmRows (don ++ pmsOf opObj (pen ++ [te]))))) h.next 2 (.own H.next 0 (n + 1)) (pmRows (don ++ pmsOf opObj (pen ++ [te]))) :=
       ⟨hgH.new _, Tl.grow hkp.1 (by rw [pmRows_len]; simp [pmsOf]; omega)⟩
      rw [t3] at fin2
      cases vars with
      | true =>
       simp only [cond_true] at hinv
       have hc := fun h : Heap => rvariable_c (h := h) hte'
       cases v1 : varB te with
       | false =>
        rw [v1] at hinv hc
        simp only [cond_false] at hinv
        repeat' (first | refine a_seq fun K hK => ?_ | (refine a_regionS ?_; simp only [Ty.w, simprocAttr, g0, g1, g6, g7, g8, g9, q2, bne, Bool.not_true, Bool.not_false]) | (refine hK _ _ ?_; clear hK; try simp only [pst0, simprocAttr]))
        refine owp_useQ (hc _) (by (try simp only [Ty.w, simprocAttr, g0, g1, g6, g7, g8, g9, Bool.not_false]); try rfl) ?_; simp only [Ty.w, simprocAttr, g0, g1, g6, g7, g8, g9, Bool.not_false]
        repeat' (first | refine a_seq fun K hK => ?_ | ((first | refine a_regionS ?_ | refine a_ret ?_); simp only [Ty.w, simprocAttr, g0, g1, g6, g7, g8, g9, Bool.not_true, Bool.not_false]) | (refine hK _ _ ?_; clear hK; try simp only [pst0, simprocAttr]))
        exact bad 8 _ hg hinv
       | true =>
        rw [v1] at hinv hc
        simp only [cond_true] at hinv
        repeat' (first | refine a_seq fun K hK => ?_ | (refine a_regionS ?_; simp only [Ty.w, simprocAttr, g0, g1, g6, g7, g8, g9, q2, bne, Bool.not_true, Bool.not_false]) | (refine hK _ _ ?_; clear hK; try simp only [pst0, simprocAttr]))
        refine owp_useQ (hc _) (by (try simp only [Ty.w, simprocAttr, g0, g1, g6, g7, g8, g9, Bool.not_true]); try rfl) ?_; simp only [Ty.w, simprocAttr, g0, g1, g6, g7, g8, g9, Bool.not_true]
        repeat' (first | refine a_seq fun K hK => ?_ | (refine a_regionS ?_; simp only [Ty.w, simprocAttr, g0, g1, g6, g7, g8, g9, Bool.not_true, Bool.not_false, t1, t2, hrl, hb, hap, w7, wp]) | ((first | refine a_skip ?_ | refine a_exit ?_); try simp only [pst0, simprocAttr]) | (refine a_cond _ (by (try simp only [Ty.w, simprocAttr, g0, g1, g6, g7, g8, g9, Bool.not_true, Bool.not_false, t1, t2, hrl, hb, hap, w7, wp]); rfl) (fun hb => ?_) (fun hb => ?_) <;> (try simp only [hb0, decide_eq_true_eq, decide_eq_false_iff_not, simprocAttr] at hb) <;> (try (exfalso; omega))) | ((first | refine hK _ _ ?_ | (clear hK; refine hK _ _ ?_)); clear hK; try simp only [pst0, simprocAttr]) | (rw [if_pos]; rotate_left 1; omega; simp only [Ty.w, simprocAttr, g0, g1, g6, g7, g8, g9, Bool.not_true, Bool.not_false, t1, t2, hrl, hb, hap, w7, wp]))
        exact ⟨l.length - (k + 1), by omega, k + 1, _, don, pen ++ [te], by simp, rfl, rfl, by omega, rfl, by simp; omega, fin2.1, fin2.2, hinv⟩
      | false =>
       simp only [cond_false] at hinv
       have hc := fun h : Heap => rname_c (h := h) hte'
       cases v1 : nameB te with
       | false =>
        rw [v1] at hinv hc
        simp only [cond_false] at hinv
        repeat' (first | refine a_seq fun K hK => ?_ | (refine a_regionS ?_; simp only [Ty.w, simprocAttr, g0, g1, g6, g7, g8, g9, q2, bne, Bool.not_true, Bool.not_false]) | (refine hK _ _ ?_; clear hK; try simp only [pst0, simprocAttr]))
        refine owp_useQ (hc _) (by (try simp only [Ty.w, simprocAttr, g0, g1, g6, g7, g8, g9, Bool.not_false]); try rfl) ?_; simp only [Ty.w, simprocAttr, g0, g1, g6, g7, g8, g9, Bool.not_false]
        repeat' (first | refine a_seq fun K hK => ?_ | ((first | refine a_regionS ?_ | refine a_ret ?_); simp only [Ty.w, simprocAttr, g0, g1, g6, g7, g8, g9, Bool.not_true, Bool.not_false]) | (refine hK _ _ ?_; clear hK; try simp only [pst0, simprocAttr]))
        exact bad 8 _ hg hinv
       | true =>
        rw [v1] at hinv hc
        simp only [cond_true] at hinv
        repeat' (first | refine a_seq fun K hK => ?_ | (refine a_regionS ?_; simp only [Ty.w, simprocAttr, g0, g1, g6, g7, g8, g9, q2, bne, Bool.not_true, Bool.not_false]) | (refine hK _ _ ?_; clear hK; try simp only [pst0, simprocAttr]))
        refine owp_useQ (hc _) (by (try simp only [Ty.w, simprocAttr, g0, g1, g6, g7, g8, g9, Bool.not_true]); try rfl) ?_; simp only [Ty.w, simprocAttr, g0, g1, g6, g7, g8, g9, Bool.not_true]
        repeat' (first | refine a_seq fun K hK => ?_ | (refine a_regionS ?_; simp only [Ty.w, simprocAttr, g0, g1, g6, g7, g8, g9, Bool.not_true, Bool.not_false, t1, t2, hrl, hb, hap, w7, wp]) | ((first | refine a_skip ?_ | refine a_exit ?_); try simp only [pst0, simprocAttr]) | (refine a_cond _ (by (try simp only [Ty.w, simprocAttr, g0, g1, g6, g7, g8, g9, Bool.not_true, Bool.not_false, t1, t2, hrl, hb, hap, w7, wp]); rfl) (fun hb => ?_) (fun hb => ?_) <;> (try simp only [hb0, decide_eq_true_eq, decide_eq_false_iff_not, simprocAttr] at hb) <;> (try (exfalso; omega))) | ((first | refine hK _ _ ?_ | (clear hK; refine hK _ _ ?_)); clear hK; try simp only [pst0, simprocAttr]) | (rw [if_pos]; rotate_left 1; omega; simp only [Ty.w, simprocAttr, g0, g1, g6, g7, g8, g9, Bool.not_true, Bool.not_false, t1, t2, hrl, hb, hap, w7, wp]))
        exact ⟨l.length - (k + 1), by omega, k + 1, _, don, pen ++ [te], by simp, rfl, rfl, by omega, rfl, by simp; omega, fin2.1, fin2.2, hinv⟩
     | true =>
      rw [show bEq te opMin = true from q2] at hinv
      simp only [cond_true] at hinv
      have hsl := tl.sl
      have hlo := hsl.len
      rw [hrl] at hlo
      have hlk := hsl.lk
      obtain ⟨k1, hk1⟩ : ∃ k1 : Int, k1 = (k : Int) + 1 := ⟨_, rfl⟩
      have w7 := w7.trans hk1.symm
      cases hpe : pen.isEmpty with
      | true =>
       have hpe' : pen = [] := List.isEmpty_iff.1 hpe
       have hF2 : F = ([], 2) := by
        rw [hinv, hpe]
        split
        ·rfl
        ·rfl
       have hdd : ((pen.length : Int) == 0) = true := by rw [hpe']; simp
       repeat' (first | refine a_seq fun K hK => ?_ | ((first | refine a_regionS ?_ | refine a_ret ?_); simp only [Ty.w, simprocAttr, g0, g1, g6, g7, g8, g9, q2, bne, Bool.not_true, w7, hdd]) | (refine a_skip ?_; try simp only [pst0, simprocAttr]) | (refine a_cond _ (by (try simp only [Ty.w, simprocAttr, g0, g1, g6, g7, g8, g9, q2, bne, Bool.not_true, w7, hdd]); rfl) (fun hb => ?_) (fun hb => ?_) <;> (try simp only [hb0, decide_eq_true_eq, decide_eq_false_iff_not, simprocAttr] at hb) <;> (try (exfalso; omega))) | (refine hK _ _ ?_; clear hK; try simp only [pst0, simprocAttr]))
       exact bad 2 _ hg hF2
      | false =>
       rw [hpe] at hinv
       simp only [Bool.not_false, Bool.true_and] at hinv
       have hp0 : 0 < pen.length := by
        cases pen with
        | nil => simp at hpe
        | cons _ _ => simp
       have hdd : ((pen.length : Int) == 0) = false := by rw [beq_eq_false_iff_ne]; omega
       by_cases hl2 : k + 1 < l.length
       ·have hd2 : (k1 == (l.length : Int)) = false := by rw [hk1]; simp; omega
        obtain ⟨y, hy⟩ : ∃ y, l[k + 1]? = some y := ⟨_, List.getElem?_eq_getElem hl2⟩
        have hyk := hok y (List.mem_of_getElem? hy)
        have hyn := hnd y (List.mem_of_getElem? hy)
        have hvy := fun h : Heap => rvalidS_c hyk hyn.1 hyn.2 h
        have htey := textOf_okQ hyk
        rw [drop_of_get hy] at hinv
        simp only at hinv
        have hry : (Sx.rows l)[k1.toNat]? = some y.cells := by rw [hk1]; exact Sx.rows_get hy
        generalize svalid y 0 0 = V2 at hvy hinv
        obtain ⟨vb2, vn2⟩ := V2
        obtain ⟨ki2, va2, li2, co2, te2, ks2⟩ := y
        simp only [kindOf, textOf] at hinv htey
        simp only [Sx.cells] at hry hvy
        have htey' : te2.size ≤ 9223372036854775807 := by unfold bigN at htey; omega
        have hcy := fun h : Heap => rname_c (h := h) (s := te2) htey'
        have hk0 : (0 : Int) ≤ k1 := by omega
        cases q3 : (ki2 != 1) with
        | true =>
         rw [show (ki2 == 1) = false by simpa using q3] at hinv
         simp only [Bool.false_and, cond_false] at hinv
         repeat' (first | refine a_seq fun K hK => ?_ | ((first | refine a_regionS ?_ | refine a_ret ?_); simp only [Ty.w, simprocAttr, g0, g1, g6, g7, g8, g9, q2, bne, Bool.not_true, w7, hdd, hll, hd2, hry, hk0, show (!(ki2 == 1)) = true from q3]) | (refine a_skip ?_; try simp only [pst0, simprocAttr]) | (refine a_cond _ (by (try simp only [Ty.w, simprocAttr, g0, g1, g6, g7, g8, g9, q2, bne, Bool.not_true, w7, hdd, hll, hd2, hry, hk0, show (!(ki2 == 1)) = true from q3]); rfl) (fun hb => ?_) (fun hb => ?_) <;> (try simp only [hb0, decide_eq_true_eq, decide_eq_false_iff_not, simprocAttr] at hb) <;> (try (exfalso; omega))) | (refine hK _ _ ?_; clear hK; try simp only [pst0, simprocAttr]))
         exact bad 2 _ hg hinv
        | false =>
         rw [show (ki2 == 1) = true by simpa using q3] at hinv
         simp only [Bool.true_and] at hinv
         cases vb2 with
         | false =>
          simp only [cond_false] at hinv
          repeat' (first | refine a_seq fun K hK => ?_ | (refine a_regionS ?_; simp only [Ty.w, simprocAttr, g0, g1, g6, g7, g8, g9, q2, bne, Bool.not_true, w7, hdd, hll, hd2, hry, hk0, show (!(ki2 == 1)) = false from q3]) | (refine a_skip ?_; try simp only [pst0, simprocAttr]) | (refine a_cond _ (by (try simp only [Ty.w, simprocAttr, g0, g1, g6, g7, g8, g9, q2, bne, Bool.not_true, w7, hdd, hll, hd2, hry, hk0, show (!(ki2 == 1)) = false from q3]); rfl) (fun hb => ?_) (fun hb => ?_) <;> (try simp only [hb0, decide_eq_true_eq, decide_eq_false_iff_not, simprocAttr] at hb) <;> (try (exfalso; omega))) | (refine hK _ _ ?_; clear hK; try simp only [pst0, simprocAttr]))
          refine owp_useQ (hvy _) (by (try simp only [Ty.w, simprocAttr, g0, g1, g6, g7, g8, hry, hk0, Bool.not_false]); try rfl) ?_; simp only [Ty.w, simprocAttr, g0, g1, g6, g7, g8, hry, hk0, Bool.not_false]
          repeat' (first | refine a_seq fun K hK => ?_ | ((first | refine a_regionS ?_ | refine a_ret ?_); simp only [Ty.w, simprocAttr, g0, g1, g6, g7, g8, Bool.not_false]) | (refine hK _ _ ?_; clear hK; try simp only [pst0, simprocAttr]))
          exact bad 2 _ hg hinv
         | true =>
          simp only [cond_true] at hinv
          have hT : typedB te2 = (nameB te2 || (te2.data.toList == (#[111, 98, 106, 101, 99, 116] : Array UInt8).toList)) := rfl
          rw [hT] at hinv
          clear hT
          have W := And.intro g0 (And.intro g1 (And.intro g6 (And.intro g7 (And.intro g8 (And.intro w7 (And.intro hry hk0))))))
          repeat' (first | (with_reducible refine a_hold 18 ?_) | refine a_seq fun K hK => ?_ | (refine a_regionS ?_; simp only [Ty.w, simprocAttr, W, g9, q2, bne, Bool.not_true, hdd, hll, hd2, show (!(ki2 == 1)) = false from q3]) | (refine a_skip ?_; try simp only [pst0, simprocAttr]) | (refine a_cond _ (by (try simp only [Ty.w, simprocAttr, W, g9, q2, bne, Bool.not_true, hdd, hll, hd2, show (!(ki2 == 1)) = false from q3]); rfl) (fun hb => ?_) (fun hb => ?_) <;> (try simp only [hb0, decide_eq_true_eq, decide_eq_false_iff_not, simprocAttr] at hb) <;> (try (exfalso; omega))) | (refine hK _ _ ?_; clear hK; try simp only [pst0, simprocAttr]))
          refine owp_useQ (hvy _) (by (try simp only [Ty.w, simprocAttr, W, Bool.not_true]); try rfl) ?_; simp only [Ty.w, simprocAttr, W, Bool.not_true]
          repeat' (first | (with_reducible refine a_hold 18 ?_) | refine a_seq fun K hK => ?_ | (refine a_regionS ?_; simp only [Ty.w, simprocAttr, W, Bool.not_true]) | (refine a_skip ?_; try simp only [pst0, simprocAttr]) | (refine a_cond _ (by (try simp only [Ty.w, simprocAttr, W, Bool.not_true]); rfl) (fun hb => ?_) (fun hb => ?_) <;> (try simp only [hb0, decide_eq_true_eq, decide_eq_false_iff_not, simprocAttr] at hb) <;> (try (exfalso; omega))) | (refine hK _ _ ?_; clear hK; try simp only [pst0, simprocAttr]))
          refine ⟨?_⟩
          refine a_gen (fun S h2 => S 0 = .imm 6 (Sx.rows l) ∧ S 1 = .sc (.bool vars) ∧ S 6 = o ∧ S 7 = .sc (.int .i64 pen.length) ∧ S 8 = .sc (.int .i64 k1) ∧ S 10 = sPV te2 ∧ h2 = h') ?_ ?_
          ·simp only [Ty.w, simprocAttr, g0, g1, g6, g7, g8]
          clear g0 g1 g6 g7 g8 g9 w7 hry hvy hll
          rintro S h' ⟨g0, g1, g6, g7, g8, g10, rfl⟩
          refine a_cut (fun S h2 => S 0 = .imm 6 (Sx.rows l) ∧ S 1 = .sc (.bool vars) ∧ S 6 = o ∧ S 7 = .sc (.int .i64 pen.length) ∧ S 8 = .sc (.int .i64 k1) ∧ S 10 = sPV te2 ∧ h2 = h' ∧ F = paramsL vars (List.drop (k + 1 + 1) l) (don ++ pmsOf te2 pen) []) ?_ ?_
          ·cases v4 : (te2.data.toList == (#[111, 98, 106, 101, 99, 116] : Array UInt8).toList) with
           | true =>
            rw [v4] at hinv
            simp only [Bool.or_true, cond_true] at hinv
            repeat' (first | refine a_seq fun K hK => ?_ | (refine a_regionS ?_; simp only [Ty.w, simprocAttr, g0, g1, g6, g7, g8, g10, v4, bne, Bool.not_true]) | (refine a_skip ?_; try simp only [pst0, simprocAttr]) | (refine a_cond _ (by (try simp only [Ty.w, simprocAttr, g0, g1, g6, g7, g8, g10, v4, bne, Bool.not_true]); rfl) (fun hb => ?_) (fun hb => ?_) <;> (try simp only [hb0, decide_eq_true_eq, decide_eq_false_iff_not, simprocAttr] at hb) <;> (try (exfalso; omega))) | (refine hK _ _ ?_; clear hK; try simp only [pst0, simprocAttr]))
            (try simp only [Ty.w, simprocAttr, g0, g1, g6, g7, g8, g10])
            exact hinv
           | false =>
            rw [v4, Bool.or_false] at hinv
            cases v3 : nameB te2 with
            | false =>
             rw [v3] at hinv hcy
             simp only [cond_false] at hinv
             repeat' (first | refine a_seq fun K hK => ?_ | (refine a_regionS ?_; simp only [Ty.w, simprocAttr, g0, g1, g6, g7, g8, g10, v4, bne, Bool.not_false]))
             refine owp_useQ (hcy _) (by (try simp only [Ty.w, simprocAttr, g0, g1, g6, g7, g8, g10, v4, Bool.not_false]); try rfl) ?_; simp only [Ty.w, simprocAttr, g0, g1, g6, g7, g8, g10, v4, Bool.not_false]
             repeat' (first | refine a_seq fun K hK => ?_ | ((first | refine a_regionS ?_ | refine a_ret ?_); simp only [Ty.w, simprocAttr, g0, g1, g6, g7, g8, g10, Bool.not_false]) | (refine hK _ _ ?_; clear hK; try simp only [pst0, simprocAttr]))
             exact bad 8 _ hg hinv
            | true =>
             rw [v3] at hinv hcy
             simp only [cond_true] at hinv
             repeat' (first | refine a_seq fun K hK => ?_ | (refine a_regionS ?_; simp only [Ty.w, simprocAttr, g0, g1, g6, g7, g8, g10, v4, bne, Bool.not_false, Bool.not_true]))
             refine owp_useQ (hcy _) (by (try simp only [Ty.w, simprocAttr, g0, g1, g6, g7, g8, g10, v4, Bool.not_true]); try rfl) ?_; simp only [Ty.w, simprocAttr, g0, g1, g6, g7, g8, g10, v4, Bool.not_true]
             repeat' (first | (refine a_skip ?_; try simp only [pst0, simprocAttr]) | (refine a_cond _ (by (try simp only [Ty.w, simprocAttr, g0, g1, g6, g7, g8, g10, Bool.not_true]); rfl) (fun hb => ?_) (fun hb => ?_) <;> (try simp only [hb0, decide_eq_true_eq, decide_eq_false_iff_not, simprocAttr] at hb) <;> (try (exfalso; omega))) | (refine hK _ _ ?_; clear hK; try simp only [pst0, simprocAttr]))
             (try simp only [Ty.w, simprocAttr, g0, g1, g6, g7, g8, g10])
             exact hinv
          ·clear g0 g1 g6 g7 g8 g10 hinv hcy
           rintro S h' ⟨g0, g1, g6, g7, g8, g10, rfl, hinv⟩
           obtain ⟨id, i1, i2, ho, i4⟩ : ∃ id, h.next ≤ id ∧ id < h'.next ∧ o = .own id 0 n ∧ h'.obj id = some (.arr 2 (pmRows (don ++ pmsOf opObj pen))) := by
            rcases tl with ⟨hn0, _⟩ | ⟨id, i1, i2, i3, i4⟩
            ·rw [hn0] at hrl; simp at hrl; omega
            ·rw [hrl] at i3; exact ⟨id, i1, i2, i3, i4⟩
           subst ho
           clear tl hsl
           have ws : IntKind.i64.wrap ((n : Int) - (pen.length : Int)) = ((don.length + 0 : Nat) : Int) := by rw [wrap64 (by omega) (by omega)]; omega
           repeat' (first | refine a_seq fun K hK => ?_ | (refine a_block ?_) | (refine a_regionS ?_; simp only [Ty.w, simprocAttr, g0, g1, g6, g7, g8, g10, hlo, hlk, ws]) | (refine hK _ _ ?_; clear hK; try simp only [pst0, simprocAttr]))
           refine a_loop (fun m S h2 => S 0 = .imm 6 (Sx.rows l) ∧ S 1 = .sc (.bool vars) ∧ S 8 = .sc (.int .i64 k1) ∧ S 6 = .own id 0 n ∧ S 10 = sPV te2 ∧ ∃ j : Nat, S 11 = .sc (.int .i64 ((don.length + j : Nat) : Int)) ∧ j ≤ pen.length ∧ m = pen.length - j ∧ Grow h h2 ∧ h2.next = h'.next ∧ h2.obj id = some (.arr 2 (pmRows (don ++ pmsOf te2 (pen.take j) ++ pmsOf opObj (pen.drop j))))) pen.length ?_ ?_
           ·simp only [Ty.w, simprocAttr, g0, g1, g6, g7, g8, g10]
            exact ⟨0, rfl, by omega, rfl, hg, by simpa [pmsOf] using i4⟩
           ·clear g0 g1 g6 g7 g8 g10 i4
            rintro m S h2 ⟨g0, g1, g8, g6, g10, j, g11, hj, rfl, hg2, hn2, ob⟩
            by_cases hjl : j < pen.length
            ·obtain ⟨q, hqn⟩ : ∃ q, q = don.length + j := ⟨_, rfl⟩
             obtain ⟨s, hs⟩ : ∃ s, pen[j]? = some s := ⟨_, List.getElem?_eq_getElem hjl⟩
             obtain ⟨hp1, hp2⟩ := pms_step (don := don) (t := te2) hs
             rw [← hqn] at g11 hp1 hp2
             have hdj : decide ((q : Int) < (n : Int)) = true := by simp; omega
             have wj : IntKind.i64.wrap ((q : Int) + 1) = ((q + 1 : Nat) : Int) := by rw [wrap64 (by omega) (by omega)]; try rfl
             have hjl2 : q < n := by omega
             generalize hR : pmRows (don ++ pmsOf te2 (pen.take j) ++ pmsOf opObj (pen.drop j)) = R at ob hp1 hp2
             repeat' (first | refine a_seq fun K hK => ?_ | (refine a_block ?_) | ((first | refine a_regionS ?_ | refine a_region (fun K hK => ?_)); simp only [Ty.w, simprocAttr, g0, g1, g6, g8, g10, g11, hdj, wj, ob, hp1, hp2, hjl2]) | (refine a_skip ?_; try simp only [pst0, simprocAttr]) | (refine a_cond _ (by (try simp only [Ty.w, simprocAttr, g0, g1, g6, g8, g10, g11, hdj, wj, ob, hp1, hp2, hjl2]); rfl) (fun hb => ?_) (fun hb => ?_) <;> (try simp only [hb0, decide_eq_true_eq, decide_eq_false_iff_not, simprocAttr] at hb) <;> (try (exfalso; omega))) | (refine hK _ _ ?_; clear hK; try simp only [pst0, simprocAttr]))
             refine ⟨pen.length - (j + 1), by omega, j + 1, by rw [hqn]; try rfl, by omega, rfl, hg2.set i1 _, hn2, ?_⟩
             try simp [Heap.set]
            ·have hje : j = pen.length := by omega
             subst hje
             rw [← hn] at g11
             have hdj : decide ((n : Int) < (n : Int)) = false := by simp
             have w8 : IntKind.i64.wrap (k1 + 1) = ((k + 2 : Nat) : Int) := by rw [hk1, wrap64 (by omega) (by omega)]; omega
             rw [List.take_length, List.drop_length] at ob
             have hz : pmRows (don ++ pmsOf te2 pen ++ pmsOf opObj []) = pmRows (don ++ pmsOf te2 pen) := by simp [pmsOf]
             rw [hz] at ob
             repeat' (first | refine a_seq fun K hK => ?_ | ((first | refine a_regionS ?_ | refine a_region (fun K hK => ?_)); simp only [Ty.w, simprocAttr, g0, g1, g6, g8, g10, g11, hdj, w8]) | (refine a_exit ?_; try simp only [pst0, simprocAttr]) | (refine a_cond _ (by (try simp only [Ty.w, simprocAttr, g0, g1, g6, g8, g10, g11, hdj, w8]); rfl) (fun hb => ?_) (fun hb => ?_) <;> (try simp only [hb0, decide_eq_true_eq, decide_eq_false_iff_not, simprocAttr] at hb) <;> (try (exfalso; omega))) | ((first | refine hK _ _ ?_ | (clear hK; refine hK _ _ ?_)); clear hK; try simp only [pst0, simprocAttr]))
             refine ⟨l.length - (k + 2), by omega, k + 2, _, don ++ pmsOf te2 pen, [], rfl, rfl, rfl, by omega, rfl, by simp [pmsOf]; omega, hg2, ?_, hinv⟩
             refine .inr ⟨id, i1, by omega, ?_, ?_⟩
             ·rw [pmRows_len, hn]; simp [pmsOf]
             ·rw [ob]; simp [pmsOf]
       ·have hke : k + 1 = l.length := by omega
        have hd2 : (k1 == (l.length : Int)) = true := by rw [hk1]; simp; omega
        rw [List.drop_eq_nil_of_le (by omega)] at hinv
        simp only at hinv
        repeat' (first | refine a_seq fun K hK => ?_ | ((first | refine a_regionS ?_ | refine a_ret ?_); simp only [Ty.w, simprocAttr, g0, g1, g6, g7, g8, g9, q2, bne, Bool.not_true, w7, hdd, hll, hd2]) | (refine a_skip ?_; try simp only [pst0, simprocAttr]) | (refine a_cond _ (by (try simp only [Ty.w, simprocAttr, g0, g1, g6, g7, g8, g9, q2, bne, Bool.not_true, w7, hdd, hll, hd2]); rfl) (fun hb => ?_) (fun hb => ?_) <;> (try simp only [hb0, decide_eq_true_eq, decide_eq_false_iff_not, simprocAttr] at hb) <;> (try (exfalso; omega))) | (refine hK _ _ ?_; clear hK; try simp only [pst0, simprocAttr]))
        exact bad 2 _ hg hinv
  ·have hd : decide ((k : Int) < (l.length : Int)) = false := by simp; omega
   rw [List.drop_eq_nil_of_le (by omega)] at hinv
   simp only [paramsL] at hinv
   subst hinv
   repeat' (first | refine a_seq fun K hK => ?_ | ((first | refine a_regionS ?_ | refine a_ret ?_); simp only [Ty.w, simprocAttr, g0, g1, g6, g7, g8, hll, hd]) | (refine a_exit ?_; try simp only [pst0, simprocAttr]) | (refine a_cond _ (by (try simp only [Ty.w, simprocAttr, g0, g1, g6, g7, g8, hll, hd]); rfl) (fun hb => ?_) (fun hb => ?_) <;> (try simp only [hb0, decide_eq_true_eq, decide_eq_false_iff_not, simprocAttr] at hb) <;> (try (exfalso; omega))) | ((first | refine hK _ _ ?_ | (clear hK; refine hK _ _ ?_)); clear hK; try simp only [pst0, simprocAttr]))
   exact ⟨frz_tup2 (pms_frzP tl), hg⟩
end Go.Proofs.Ytjlkapgpjamnkaa
namespace Go.Proofs.Ytjlkapgpjamnkaa
open Go.AM
set_option maxHeartbeats 4000000
set_option maxRecDepth 20000
theorem fmz_frz (c : Int) (n : Nat) (H : Heap) : FrzTo n H (.tup [.agg zeroFm.cells, iN c]) (.tup [.agg [.sc (.string ⟨#[]⟩), .sc (.string ⟨#[]⟩), .sc (.slice none 0 0), .sc (.slice none 0 0), .sc (.slice none 0 0), .sc (.slice none 0 0)], iN c]) := frz_tup2 (frz_agg (by
 simp [zeroFm, Fm.cells, Ex.rows, Fm.rows, pmRows, strRows, FrzL, FrzTo]))
theorem grow_zF (h : Heap) (r : AObj) : Grow h ((h.new (.arr 6 [[.sc (.string ⟨#[]⟩), .sc (.string ⟨#[]⟩), .sc (.slice none 0 0), .sc (.slice none 0 0), .sc (.slice none 0 0), .sc (.slice none 0 0)]])).set h.next r) := ((Grow.refl h).new _).set (Nat.le_refl _) _
theorem fmPs_code : ∀ l : List Sx, ((fmPs l).2 == 0) = false → (fmPs l).1 = []
 | [], h => by simp [fmPs] at h
 | x :: l, h => by
  have ih := fmPs_code l
  simp only [fmPs] at h ⊢
  cases q : (fmP x).2 == 0 with
  | false => simp only [q, cond_false]
  | true =>
   cases q2 : (fmPs l).2 == 0 with
   | false => simp only [q, q2, cond_true, cond_false]
   | true => simp only [q, q2, cond_true] at h; simp at h
theorem rformulas_c {l : List Sx} (hl : l.length ≤ 1048576) (ih : ∀ x ∈ l, ∀ h : Heap, PCall Try.prog 74 [.agg x.cells] h fun r h' => r = .tup [.agg (fmP x).1.cells, iN (fmP x).2] ∧ h' = h) (h : Heap) :
  PCall Try.prog 119 [.imm 6 (Sx.rows l)] h fun r h' => r = .tup [.imm 6 (Fm.rows (fmPs l).1), iN (fmPs l).2] ∧ h' = h := by
 refine PCall.frz Ty.hb_119 ?_
 have hll := Sx.rows_len l
 generalize hF : fmPs l = F
 refine pcall_body (ow := fun _ => false) (wf := fun _ => false) Ty.mixed Try.func119 rfl Ty.hb_119 (by rw [Try.ntmps119]; simp) ?_
 rw [Try.ntmps119, Try.results119]
 repeat' (first | refine a_seq fun K hK => ?_ | (refine a_block ?_) | (refine a_regionS ?_; simp only [Ty.w, simprocAttr, hll]) | (refine hK _ _ ?_; clear hK; try simp only [pst0, simprocAttr]))
 refine a_loop (fun m S h' => S 0 = .imm 6 (Sx.rows l) ∧ ∃ (k : Nat) (o : PV) (pre : List Fm), S 5 = .sc (.int .i64 k) ∧ S 4 = o ∧ k ≤ l.length ∧ m = l.length - k ∧ Grow h h' ∧ pre.length = k ∧ Tl h' h.next 6 o (Fm.rows pre) ∧
  F = (match fmPs (l.drop k) with | (t, c) => bif c == 0 then (pre ++ t, 0) else ([], c))) l.length ?_ ?_
 ·simp only [Ty.w, simprocAttr]
  refine ⟨0, _, [], rfl, rfl, by omega, rfl, Grow.refl _, rfl, Tl.nil, ?_⟩
  have := fmPs_code l
  rw [List.drop_zero, ← hF]
  cases hq : (fmPs l).2 == 0
  ·have h1 := this hq
   simp only [hq, cond_false]; rw [← h1]
  ·have h0 : (fmPs l).2 = 0 := by simpa using hq
   simp only [hq, cond_true, List.nil_append]; rw [← h0]
 ·rintro m S h' ⟨g0, k, o, pre, g5, g4, hk, rfl, hg, hpl, tl, hinv⟩
  clear hF
  by_cases hlt : k < l.length
  ·have hd : decide ((k : Int) < (l.length : Int)) = true := by simp; omega
   have w7 : IntKind.i64.wrap ((k : Int) + 1) = k + 1 := by rw [wrap64 (by omega) (by omega)]
   obtain ⟨x, hx⟩ : ∃ x, l[k]? = some x := ⟨_, List.getElem?_eq_getElem hlt⟩
   have hr := Sx.rows_get hx
   have hc := ih x (List.mem_of_getElem? hx)
   rw [drop_of_get hx] at hinv
   simp only [fmPs] at hinv
   generalize fmP x = E at hc hinv
   obtain ⟨f, c⟩ := E
   have hap : Fm.rows (pre ++ [f]) = Fm.rows pre ++ [f.cells] := by simp [Fm.rows_map]
   obtain ⟨ki, va, li, co, te, ks⟩ := x
   simp only [Sx.cells] at hr hc
   simp only at hinv
   generalize hO : AObj.arr 6 [f.cells] = O
   have tl2 := tl.up (h' := (h'.new (.arr 6 [[.sc (.string ⟨#[]⟩), .sc (.string ⟨#[]⟩), .sc (.slice none 0 0), .sc (.slice none 0 0), .sc (.slice none 0 0), .sc (.slice none 0 0)]])).set h'.next O) (by simp [Heap.new, Heap.set]) (fun j _ hj => by simp only [Heap.new, Heap.set]; rw [if_neg (by omega), if_neg (by omega)])
   have hg2 : Grow h ((h'.new (.arr 6 [[.sc (.string ⟨#[]⟩), .sc (.string ⟨#[]⟩), .sc (.slice none 0 0), .sc (.slice none 0 0), .sc (.slice none 0 0), .sc (.slice none 0 0)]])).set h'.next O) := (hg.new _).set hg.le _
   subst hO
   cases hq : c == 0 with
   | false =>
    have hq' : (c != 0) = true := by simp [bne, hq]
    rw [hq] at hinv
    simp only [cond_false, hq] at hinv
    obtain ⟨fop, fna, far, fpa, fex, fki⟩ := f
    simp only [Fm.cells] at hc hg2
    subst hinv
    repeat' (first | refine a_seq fun K hK => ?_ | (refine a_regionS ?_; simp only [Ty.w, simprocAttr, g0, g5, g4, hd, hr, hll]) | (refine a_skip ?_; try simp only [pst0, simprocAttr]) | (refine a_cond _ (by (try simp only [Ty.w, simprocAttr, g0, g5, g4, hd, hr, hll]); rfl) (fun hb => ?_) (fun hb => ?_) <;> (try simp only [hb0, decide_eq_true_eq, decide_eq_false_iff_not, simprocAttr] at hb) <;> (try (exfalso; omega))) | (refine hK _ _ ?_; clear hK; try simp only [pst0, simprocAttr]))
    refine owp_useQ (hc _) (by (try simp only [Ty.w, simprocAttr, g0, g5, g4, hd, hr]); try rfl) ?_; simp only [Ty.w, simprocAttr, g0, g5, g4, hd, hr]
    repeat' (first | refine a_seq fun K hK => ?_ | ((first | refine a_regionS ?_ | refine a_ret ?_); simp only [Ty.w, simprocAttr, g0, g5, g4, hq', nsucc]) | (refine hK _ _ ?_; clear hK; try simp only [pst0, simprocAttr]))
    exact ⟨frz_tup2 (by simpa only [Fm.rows] using frz_nilslice), hg2⟩
   | true =>
    have hq' : (c != 0) = false := by simp [bne, hq]
    rw [hq] at hinv
    simp only [cond_true] at hinv
    obtain ⟨H, t1, t2, t3, t4, t5⟩ := tl2.tail
    have hpr : (Fm.rows pre).length = k := by rw [Fm.rows_len]; exact hpl
    have hb : (k + 1) * 128 ≤ 140737488355328 := by omega
    have hkp := t5 h ⟨hg2.le, hg2.old⟩ (Nat.le_refl _)
    have hgH : Grow h H := ⟨hkp.1, hkp.2⟩
    have t3' : H.next = h'.next + 1 := by rw [t3]; simp [Heap.new, Heap.set]
    obtain ⟨fop, fna, far, fpa, fex, fki⟩ := f
    simp only [Fm.cells] at hc t1 t2 hap
    repeat' (first | refine a_seq fun K hK => ?_ | (refine a_regionS ?_; simp only [Ty.w, simprocAttr, g0, g5, g4, hd, hr, hll]) | (refine a_skip ?_; try simp only [pst0, simprocAttr]) | (refine a_cond _ (by (try simp only [Ty.w, simprocAttr, g0, g5, g4, hd, hr, hll]); rfl) (fun hb => ?_) (fun hb => ?_) <;> (try simp only [hb0, decide_eq_true_eq, decide_eq_false_iff_not, simprocAttr] at hb) <;> (try (exfalso; omega))) | (refine hK _ _ ?_; clear hK; try simp only [pst0, simprocAttr]))
    refine owp_useQ (hc _) (by (try simp only [Ty.w, simprocAttr, g0, g5, g4, hd, hr]); try rfl) ?_; simp only [Ty.w, simprocAttr, g0, g5, g4, hd, hr]
    repeat' (first | refine a_seq fun K hK => ?_ | ((first | refine a_regionS ?_ | refine a_region (fun K hK => ?_)); simp only [Ty.w, simprocAttr, g0, g5, g4, hq', nsucc, w7, t1, t2, hpr, hb]) | (refine a_skip ?_; try simp only [pst0, simprocAttr]) | (refine a_cond _ (by (try simp only [Ty.w, simprocAttr, g0, g5, g4, hq', nsucc, w7, t1, t2, hpr, hb]); rfl) (fun hb => ?_) (fun hb => ?_) <;> (try simp only [hb0, decide_eq_true_eq, decide_eq_false_iff_not, simprocAttr] at hb) <;> (try (exfalso; omega))) | (refine hK _ _ ?_; clear hK; try simp only [pst0, simprocAttr]) | (rw [if_pos]; rotate_left 1; omega; simp only [Ty.w, simprocAttr, g0, g5, g4, hq', nsucc, w7, t1, t2, hpr, hb]))
    rw [← hap]
    refine ⟨l.length - (k + 1), by omega, k + 1, .own H.next 0 (k + 1), pre ++ [_], by simp, by first | rfl | rw [t3'], by omega, rfl, hgH.new _, by simp [hpl], Tl.grow hkp.1 (by rw [Fm.rows_len]; simp [hpl]), ?_⟩
    rw [hinv]
    generalize fmPs (List.drop (k + 1) l) = W
    obtain ⟨t, c⟩ := W
    cases hq : c == 0 with
    | false => simp only [hq, cond_false]
    | true => simp only [hq, cond_true, beq_self_eq_true, List.append_assoc, List.cons_append, List.nil_append]
  ·have hd : decide ((k : Int) < (l.length : Int)) = false := by simp; omega
   rw [List.drop_eq_nil_of_le (by omega)] at hinv
   simp only [fmPs, beq_self_eq_true, cond_true, List.append_nil] at hinv
   subst hinv
   repeat' (first | refine a_seq fun K hK => ?_ | ((first | refine a_regionS ?_ | refine a_ret ?_); simp only [Ty.w, simprocAttr, g0, g5, g4, hd, hll]) | (refine a_exit ?_; try simp only [pst0, simprocAttr]) | (refine a_cond _ (by (try simp only [Ty.w, simprocAttr, g0, g5, g4, hd, hll]); rfl) (fun hb => ?_) (fun hb => ?_) <;> (try simp only [hb0, decide_eq_true_eq, decide_eq_false_iff_not, simprocAttr] at hb) <;> (try (exfalso; omega))) | ((first | refine hK _ _ ?_ | (clear hK; refine hK _ _ ?_)); clear hK; try simp only [pst0, simprocAttr]))
   exact ⟨frz_tup2 (tl_frzF (Nat.le_refl _) tl), hg⟩
def cmpR (w : ByteArray) (l : List Sx) : Fm × Int :=
 bif (exprs2 l).2 == 0 then (match (exprs2 l).1 with
  | [a, b] => (if bEq w opGt then (.mk opLt ⟨#[]⟩ [] [] [b, a] [], 0) else if bEq w opGe then (.mk opLe ⟨#[]⟩ [] [] [b, a] [], 0) else (.mk w ⟨#[]⟩ [] [] [a, b] [], 0))
  | _ => (zeroFm, 2)) else (zeroFm, (exprs2 l).2)
theorem exprs2_two (l : List Sx) : ((exprs2 l).2 == 0) = true → ∃ a b, (exprs2 l).1 = [a, b] := by
 intro h
 match l, h with
 | [], h => simp [exprs2] at h
 | [_], h => simp [exprs2] at h
 | [a, b], h =>
  simp only [exprs2] at h ⊢
  cases qa : (exprP a).2 == 0 with
  | false => simp only [qa, cond_false] at h; exact absurd h (by simp)
  | true =>
   cases qb : (exprP b).2 == 0 with
   | false => simp only [qa, qb, cond_true, cond_false] at h; exact absurd h (by simp)
   | true => exact ⟨(exprP a).1, (exprP b).1, by simp only [cond_true]⟩
 | _ :: _ :: _ :: _, h => simp [exprs2] at h
theorem rcomparison_c {w : ByteArray} {l : List Sx} (hx : ∀ h : Heap, PCall Try.prog 123 [.imm 6 (Sx.rows l)] h fun r h' => r = .tup [.imm 5 (Ex.rows (exprs2 l).1), iN (exprs2 l).2] ∧ h' = h) (h : Heap) :
  PCall Try.prog 121 [sPV w, .imm 6 (Sx.rows l)] h fun r h' => r = .tup [.agg (cmpR w l).1.cells, iN (cmpR w l).2] ∧ h' = h := by
 refine PCall.frz Ty.hb_121 ?_
 have h2 := exprs2_two l
 unfold cmpR
 generalize exprs2 l = E at hx h2
 generalize Sx.rows l = R at hx
 obtain ⟨es, c⟩ := E
 simp only at hx h2 ⊢
 cases hq : c == 0 with
 | false =>
  have hq' : (c != 0) = true := by simp [bne, hq]
  simp only [cond_false]
  refine pcall_body (ow := fun _ => false) (wf := fun _ => false) Ty.mixed Try.func121 rfl Ty.hb_121 (by rw [Try.ntmps121]; simp) ?_
  rw [Try.ntmps121, Try.results121]
  repeat' (first | refine a_seq fun K hK => ?_ | (refine a_regionS ?_; simp only [Ty.w, simprocAttr]) | (refine hK _ _ ?_; clear hK; try simp only [pst0, simprocAttr]))
  refine owp_useQ (hx _) (by (try simp only [Ty.w, simprocAttr, ]); try rfl) ?_; simp only [Ty.w, simprocAttr, ]
  repeat' (first | refine a_seq fun K hK => ?_ | ((first | refine a_regionS ?_ | refine a_ret ?_); simp only [Ty.w, simprocAttr, hq']) | (refine hK _ _ ?_; clear hK; try simp only [pst0, simprocAttr]))
  exact ⟨fmz_frz _ _ _, grow_zF _ _⟩
 | true =>
  have hq' : (c != 0) = false := by simp [bne, hq]
  obtain ⟨a, b, rfl⟩ := h2 hq
  simp only [cond_true]
  have ea := exsR_in h.next [a, b]
  have eb := exsR_in h.next [b, a]
  obtain ⟨aop, aname, an, aargs, akids⟩ := a
  obtain ⟨bop, bname, bn, bargs, bkids⟩ := b
  simp only [Ex.rows, Ex.cells] at hx ea eb
  cases q1 : (w.data.toList == (#[62] : Array UInt8).toList) with
  | true =>
   rw [if_pos (show bEq w opGt = true from q1)]
   refine pcall_body (ow := fun _ => false) (wf := fun _ => false) Ty.mixed Try.func121 rfl Ty.hb_121 (by rw [Try.ntmps121]; simp) ?_
   rw [Try.ntmps121, Try.results121]
   repeat' (first | refine a_seq fun K hK => ?_ | (refine a_regionS ?_; simp only [Ty.w, simprocAttr]) | (refine hK _ _ ?_; clear hK; try simp only [pst0, simprocAttr]))
   refine owp_useQ (hx _) (by (try simp only [Ty.w, simprocAttr, ]); try rfl) ?_; simp only [Ty.w, simprocAttr, ]
   repeat' (first | refine a_seq fun K hK => ?_ | ((first | refine a_regionS ?_ | refine a_drawS (by decide +kernel) ?_); simp only [Ty.w, simprocAttr, hq', q1]) | (refine a_skip ?_; try simp only [pst0, simprocAttr]) | (refine a_cond _ (by (try simp only [Ty.w, simprocAttr, hq', q1]); rfl) (fun hb => ?_) (fun hb => ?_) <;> (try simp only [hb0, decide_eq_true_eq, decide_eq_false_iff_not, simprocAttr] at hb) <;> (try (exfalso; omega))) | (refine hK _ _ ?_; clear hK; try simp only [pst0, simprocAttr]))
   refine a_past [7, 6, 5, 4, 3, 2, 1, 0] rfl (by decide +kernel) ?_
   try simp only [Ty.w, simprocAttr, Ty.all]
   repeat' (first | (refine a_ret ?_; simp only [Ty.w, simprocAttr, hq', q1]) | (refine hK _ _ ?_; clear hK; try simp only [pst0, simprocAttr]))
   refine ⟨frz_tup2 (frz_agg ?_), grow_zF _ _⟩
   simp [opLt, Fm.cells, Ex.rows, Ex.cells, Fm.rows, pmRows, show strRows [] = [] from rfl, FrzL, FrzTo, eb]
  | false =>
   rw [if_neg (by rw [show bEq w opGt = false from q1]; simp)]
   cases q2 : (w.data.toList == (#[62, 61] : Array UInt8).toList) with
   | true =>
    rw [if_pos (show bEq w opGe = true from q2)]
    refine pcall_body (ow := fun _ => false) (wf := fun _ => false) Ty.mixed Try.func121 rfl Ty.hb_121 (by rw [Try.ntmps121]; simp) ?_
    rw [Try.ntmps121, Try.results121]
    repeat' (first | refine a_seq fun K hK => ?_ | (refine a_regionS ?_; simp only [Ty.w, simprocAttr]) | (refine hK _ _ ?_; clear hK; try simp only [pst0, simprocAttr]))
    refine owp_useQ (hx _) (by (try simp only [Ty.w, simprocAttr, ]); try rfl) ?_; simp only [Ty.w, simprocAttr, ]
    repeat' (first | refine a_seq fun K hK => ?_ | ((first | refine a_regionS ?_ | refine a_drawS (by decide +kernel) ?_); simp only [Ty.w, simprocAttr, hq', q1, q2]) | (refine a_skip ?_; try simp only [pst0, simprocAttr]) | (refine a_cond _ (by (try simp only [Ty.w, simprocAttr, hq', q1, q2]); rfl) (fun hb => ?_) (fun hb => ?_) <;> (try simp only [hb0, decide_eq_true_eq, decide_eq_false_iff_not, simprocAttr] at hb) <;> (try (exfalso; omega))) | (refine hK _ _ ?_; clear hK; try simp only [pst0, simprocAttr]))
    refine a_past [7, 6, 5, 4, 3, 2, 1, 0] rfl (by decide +kernel) ?_
    try simp only [Ty.w, simprocAttr, Ty.all]
    repeat' (first | (refine a_ret ?_; simp only [Ty.w, simprocAttr, hq', q1, q2]) | (refine hK _ _ ?_; clear hK; try simp only [pst0, simprocAttr]))
    refine ⟨frz_tup2 (frz_agg ?_), grow_zF _ _⟩
    simp [opLe, Fm.cells, Ex.rows, Ex.cells, Fm.rows, pmRows, show strRows [] = [] from rfl, FrzL, FrzTo, eb]
   | false =>
    rw [if_neg (by rw [show bEq w opGe = false from q2]; simp)]
    refine pcall_body (ow := fun _ => false) (wf := fun _ => false) Ty.mixed Try.func121 rfl Ty.hb_121 (by rw [Try.ntmps121]; simp) ?_
    rw [Try.ntmps121, Try.results121]
    repeat' (first | refine a_seq fun K hK => ?_ | (refine a_regionS ?_; simp only [Ty.w, simprocAttr]) | (refine hK _ _ ?_; clear hK; try simp only [pst0, simprocAttr]))
    refine owp_useQ (hx _) (by (try simp only [Ty.w, simprocAttr, ]); try rfl) ?_; simp only [Ty.w, simprocAttr, ]
    repeat' (first | refine a_seq fun K hK => ?_ | (refine a_block ?_) | ((first | refine a_regionS ?_ | refine a_ret ?_); simp only [Ty.w, simprocAttr, hq', q1, q2]) | (refine a_skip ?_; try simp only [pst0, simprocAttr]) | (refine a_cond _ (by (try simp only [Ty.w, simprocAttr, hq', q1, q2]); rfl) (fun hb => ?_) (fun hb => ?_) <;> (try simp only [hb0, decide_eq_true_eq, decide_eq_false_iff_not, simprocAttr] at hb) <;> (try (exfalso; omega))) | (refine hK _ _ ?_; clear hK; try simp only [pst0, simprocAttr]))
    refine ⟨frz_tup2 (frz_agg ?_), grow_zF _ _⟩
    simp [Fm.cells, Ex.rows, Ex.cells, Fm.rows, pmRows, show strRows [] = [] from rfl, FrzL, FrzTo, ea]
def quantR (w : ByteArray) : List Sx → Fm × Int
 | [p, y] => bif kindOf p == 3 then (bif (paramsP true (kidsOf p)).2 == 0 then (bif (fmP y).2 == 0 then (.mk w ⟨#[]⟩ [] (paramsP true (kidsOf p)).1 [] [(fmP y).1], 0) else (zeroFm, (fmP y).2)) else (zeroFm, (paramsP true (kidsOf p)).2)) else (zeroFm, 2)
 | _ => (zeroFm, 2)
theorem quantR_len {w : ByteArray} {l : List Sx} (h : ¬ l.length = 2) : quantR w l = (zeroFm, 2) := by
 match l, h with
 | [], _ => rfl
 | [_], _ => rfl
 | [_, _], h => simp at h
 | _ :: _ :: _ :: _, _ => rfl
theorem pms_inR (n : Nat) : ∀ l : List Pm, inNR n (pmRows l)
 | [] => by simp only [pmRows, List.map_nil, inNR]
 | p :: l => by
  have := pms_inR n l
  simp only [pmRows, List.map_cons, pmRow, inNR, inNL, inN, and_true, true_and] at this ⊢
  exact this
theorem rquantified_c {w : ByteArray} {l : List Sx} (hp : ∀ p ∈ l, ∀ h : Heap, PCall Try.prog 138 [.imm 6 (Sx.rows (kidsOf p)), .sc (.bool true)] h fun r h' => r = .tup [.imm 2 (pmRows (paramsP true (kidsOf p)).1), iN (paramsP true (kidsOf p)).2] ∧ h' = h)
  (hl : l.length ≤ bigN) (ih : ∀ x ∈ l, ∀ h : Heap, PCall Try.prog 74 [.agg x.cells] h fun r h' => r = .tup [.agg (fmP x).1.cells, iN (fmP x).2] ∧ h' = h) (h : Heap) :
  PCall Try.prog 120 [sPV w, .imm 6 (Sx.rows l)] h fun r h' => r = .tup [.agg (quantR w l).1.cells, iN (quantR w l).2] ∧ h' = h := by
 refine PCall.frz Ty.hb_120 ?_
 have hll := Sx.rows_len l
 unfold bigN at hl
 cases q : ((l.length : Int) != 2) with
 | true =>
  rw [quantR_len (by simp at q; omega)]
  refine pcall_body (ow := fun _ => false) (wf := fun _ => false) Ty.mixed Try.func120 rfl Ty.hb_120 (by rw [Try.ntmps120]; simp) ?_
  rw [Try.ntmps120, Try.results120]
  repeat' (first | refine a_seq fun K hK => ?_ | ((first | refine a_regionS ?_ | refine a_ret ?_); simp only [Ty.w, simprocAttr, hll, q]) | (refine hK _ _ ?_; clear hK; try simp only [pst0, simprocAttr]))
  exact ⟨fmz_frz _ _ _, grow_zF _ _⟩
 | false =>
  obtain ⟨p, y, rfl⟩ : ∃ a b, l = [a, b] := by
   have h2 : l.length = 2 := by simp at q; omega
   match l, h2 with
   | [a, b], _ => exact ⟨a, b, rfl⟩
  have hcp := hp p (by simp)
  have hcy := ih y (by simp)
  rw [show quantR w [p, y] = (bif kindOf p == 3 then (bif (paramsP true (kidsOf p)).2 == 0 then (bif (fmP y).2 == 0 then (.mk w ⟨#[]⟩ [] (paramsP true (kidsOf p)).1 [] [(fmP y).1], 0) else (zeroFm, (fmP y).2)) else (zeroFm, (paramsP true (kidsOf p)).2)) else (zeroFm, 2)) from rfl]
  clear ih hp q hl
  generalize fmP y = Y at hcy ⊢
  generalize paramsP true (kidsOf p) = PP at hcp ⊢
  obtain ⟨f, c⟩ := Y
  obtain ⟨ps, pc⟩ := PP
  simp only at hcp hcy ⊢
  have ef := fms_in h.next [f]
  have ep := pms_inR h.next ps
  obtain ⟨pk, pv, pl, pco, pt, pks⟩ := p
  obtain ⟨yk, yv, yl, yco, yt, yks⟩ := y
  obtain ⟨fop, fna, far, fpa, fex, fki⟩ := f
  simp only [Sx.cells, Sx.rows, Fm.cells, Fm.rows, kindOf, kidsOf] at hcp hcy hll ef ⊢
  cases k3 : (pk != 3) with
  | true =>
   rw [show (pk == 3) = false by simpa using k3]
   simp only [cond_false]
   refine pcall_body (ow := fun _ => false) (wf := fun _ => false) Ty.mixed Try.func120 rfl Ty.hb_120 (by rw [Try.ntmps120]; simp) ?_
   rw [Try.ntmps120, Try.results120]
   repeat' (first | refine a_seq fun K hK => ?_ | ((first | refine a_regionS ?_ | refine a_ret ?_); simp only [Ty.w, simprocAttr, hll, k3]) | (with_reducible refine ite_in (fun hb => ?_) (fun hb => ?_) <;> (try simp only [Decidable.not_not] at hb) <;> (try simp only [hb, if_true, if_false, not_false_eq_true, not_true_eq_false, ↓reduceIte]) <;> (try simp only [hb0, decide_eq_true_eq, decide_eq_false_iff_not, simprocAttr] at hb) <;> (try (exfalso; omega))) | (refine hK _ _ ?_; clear hK; try simp only [pst0, simprocAttr]))
   exact ⟨fmz_frz _ _ _, grow_zF _ _⟩
  | false =>
   rw [show (pk == 3) = true by simpa using k3]
   simp only [cond_true]
   cases q1 : pc == 0 with
   | false =>
    have q1' : (pc != 0) = true := by simp [bne, q1]
    try simp only [q1, cond_false]
    refine pcall_body (ow := fun _ => false) (wf := fun _ => false) Ty.mixed Try.func120 rfl Ty.hb_120 (by rw [Try.ntmps120]; simp) ?_
    rw [Try.ntmps120, Try.results120]
    repeat' (first | refine a_seq fun K hK => ?_ | (refine a_regionS ?_; simp only [Ty.w, simprocAttr, hll, k3]) | (refine a_skip ?_; try simp only [pst0, simprocAttr]) | (refine a_cond _ (by (try simp only [Ty.w, simprocAttr, hll, k3]); rfl) (fun hb => ?_) (fun hb => ?_) <;> (try simp only [hb0, decide_eq_true_eq, decide_eq_false_iff_not, simprocAttr] at hb) <;> (try (exfalso; omega))) | (with_reducible refine ite_in (fun hb => ?_) (fun hb => ?_) <;> (try simp only [Decidable.not_not] at hb) <;> (try simp only [hb, if_true, if_false, not_false_eq_true, not_true_eq_false, ↓reduceIte]) <;> (try simp only [hb0, decide_eq_true_eq, decide_eq_false_iff_not, simprocAttr] at hb) <;> (try (exfalso; omega))) | (refine hK _ _ ?_; clear hK; try simp only [pst0, simprocAttr]))
    refine owp_useQ (hcp _) (by (try simp only [Ty.w, simprocAttr, hll, k3]); try rfl) ?_; simp only [Ty.w, simprocAttr, hll, k3]
    repeat' (first | refine a_seq fun K hK => ?_ | ((first | refine a_regionS ?_ | refine a_ret ?_); simp only [Ty.w, simprocAttr, q1']) | (refine hK _ _ ?_; clear hK; try simp only [pst0, simprocAttr]))
    exact ⟨fmz_frz _ _ _, grow_zF _ _⟩
   | true =>
    have q1' : (pc != 0) = false := by simp [bne, q1]
    try simp only [q1, cond_true]
    have hg2 : ∀ r o2 r2, Grow h ((((h.new (.arr 6 [[.sc (.string ⟨#[]⟩), .sc (.string ⟨#[]⟩), .sc (.slice none 0 0), .sc (.slice none 0 0), .sc (.slice none 0 0), .sc (.slice none 0 0)]])).new o2).set (h.next + 1) r2).set h.next r) := fun r o2 r2 => ((((Grow.refl h).new _).new _).set (Nat.le_succ _) _).set (Nat.le_refl _) _
    cases q2 : c == 0 with
    | false =>
     have q2' : (c != 0) = true := by simp [bne, q2]
     try simp only [q2, cond_false]
     refine pcall_body (ow := fun _ => false) (wf := fun _ => false) Ty.mixed Try.func120 rfl Ty.hb_120 (by rw [Try.ntmps120]; simp) ?_
     rw [Try.ntmps120, Try.results120]
     repeat' (first | refine a_seq fun K hK => ?_ | (refine a_regionS ?_; simp only [Ty.w, simprocAttr, hll, k3]) | (refine a_skip ?_; try simp only [pst0, simprocAttr]) | (refine a_cond _ (by (try simp only [Ty.w, simprocAttr, hll, k3]); rfl) (fun hb => ?_) (fun hb => ?_) <;> (try simp only [hb0, decide_eq_true_eq, decide_eq_false_iff_not, simprocAttr] at hb) <;> (try (exfalso; omega))) | (with_reducible refine ite_in (fun hb => ?_) (fun hb => ?_) <;> (try simp only [Decidable.not_not] at hb) <;> (try simp only [hb, if_true, if_false, not_false_eq_true, not_true_eq_false, ↓reduceIte]) <;> (try simp only [hb0, decide_eq_true_eq, decide_eq_false_iff_not, simprocAttr] at hb) <;> (try (exfalso; omega))) | (refine hK _ _ ?_; clear hK; try simp only [pst0, simprocAttr]))
     refine owp_useQ (hcp _) (by (try simp only [Ty.w, simprocAttr, hll, k3]); try rfl) ?_; simp only [Ty.w, simprocAttr, hll, k3]
     repeat' (first | refine a_seq fun K hK => ?_ | (refine a_regionS ?_; simp only [Ty.w, simprocAttr, q1', hll]) | (refine a_skip ?_; try simp only [pst0, simprocAttr]) | (refine a_cond _ (by (try simp only [Ty.w, simprocAttr, q1', hll]); rfl) (fun hb => ?_) (fun hb => ?_) <;> (try simp only [hb0, decide_eq_true_eq, decide_eq_false_iff_not, simprocAttr] at hb) <;> (try (exfalso; omega))) | (refine hK _ _ ?_; clear hK; try simp only [pst0, simprocAttr]))
     refine owp_useQ (hcy _) (by (try simp only [Ty.w, simprocAttr, hll]); try rfl) ?_; simp only [Ty.w, simprocAttr, hll]
     repeat' (first | refine a_seq fun K hK => ?_ | ((first | refine a_regionS ?_ | refine a_ret ?_); simp only [Ty.w, simprocAttr, q2', nsucc]) | (refine hK _ _ ?_; clear hK; try simp only [pst0, simprocAttr]))
     exact ⟨fmz_frz _ _ _, hg2 _ _ _⟩
    | true =>
     have q2' : (c != 0) = false := by simp [bne, q2]
     try simp only [q2, cond_true]
     refine pcall_body (ow := fun _ => false) (wf := fun _ => false) Ty.mixed Try.func120 rfl Ty.hb_120 (by rw [Try.ntmps120]; simp) ?_
     rw [Try.ntmps120, Try.results120]
     repeat' (first | refine a_seq fun K hK => ?_ | (refine a_regionS ?_; simp only [Ty.w, simprocAttr, hll, k3]) | (refine a_skip ?_; try simp only [pst0, simprocAttr]) | (refine a_cond _ (by (try simp only [Ty.w, simprocAttr, hll, k3]); rfl) (fun hb => ?_) (fun hb => ?_) <;> (try simp only [hb0, decide_eq_true_eq, decide_eq_false_iff_not, simprocAttr] at hb) <;> (try (exfalso; omega))) | (with_reducible refine ite_in (fun hb => ?_) (fun hb => ?_) <;> (try simp only [Decidable.not_not] at hb) <;> (try simp only [hb, if_true, if_false, not_false_eq_true, not_true_eq_false, ↓reduceIte]) <;> (try simp only [hb0, decide_eq_true_eq, decide_eq_false_iff_not, simprocAttr] at hb) <;> (try (exfalso; omega))) | (refine hK _ _ ?_; clear hK; try simp only [pst0, simprocAttr]))
     refine owp_useQ (hcp _) (by (try simp only [Ty.w, simprocAttr, hll, k3]); try rfl) ?_; simp only [Ty.w, simprocAttr, hll, k3]
     repeat' (first | refine a_seq fun K hK => ?_ | (refine a_regionS ?_; simp only [Ty.w, simprocAttr, q1', hll]) | (refine a_skip ?_; try simp only [pst0, simprocAttr]) | (refine a_cond _ (by (try simp only [Ty.w, simprocAttr, q1', hll]); rfl) (fun hb => ?_) (fun hb => ?_) <;> (try simp only [hb0, decide_eq_true_eq, decide_eq_false_iff_not, simprocAttr] at hb) <;> (try (exfalso; omega))) | (refine hK _ _ ?_; clear hK; try simp only [pst0, simprocAttr]))
     refine owp_useQ (hcy _) (by (try simp only [Ty.w, simprocAttr, hll]); try rfl) ?_; simp only [Ty.w, simprocAttr, hll]
     repeat' (first | refine a_seq fun K hK => ?_ | ((first | refine a_regionS ?_ | refine a_ret ?_); simp only [Ty.w, simprocAttr, q2', nsucc, Nat.add_eq_left, Nat.one_ne_zero]) | (refine a_skip ?_; try simp only [pst0, simprocAttr]) | (refine a_cond _ (by (try simp only [Ty.w, simprocAttr, q2', nsucc, Nat.add_eq_left, Nat.one_ne_zero]); rfl) (fun hb => ?_) (fun hb => ?_) <;> (try simp only [hb0, decide_eq_true_eq, decide_eq_false_iff_not, simprocAttr] at hb) <;> (try (exfalso; omega))) | (refine hK _ _ ?_; clear hK; try simp only [pst0, simprocAttr]))
     refine ⟨frz_tup2 (frz_agg ?_), hg2 _ _ _⟩
     simp [Fm.cells, Fm.rows, Ex.rows, show strRows [] = [] from rfl, FrzL, FrzTo, ep, ef]
end Go.Proofs.Ytjlkapgpjamnkaa
namespace Go.Proofs.Ytjlkapgpjamnkaa
open Go.AM
set_option maxHeartbeats 8000000
set_option maxRecDepth 20000
def opB (op name : ByteArray) (v : Int) (args : List ByteArray) (kids : List Ex) : Bool :=
 if (op.data.toList == (#[110, 117, 109, 98, 101, 114] : Array UInt8).toList) then decide (v ≥ -1099511627776) && (decide (v ≤ 1099511627776) && ((name.data.toList == (#[] : Array UInt8).toList) && (((args.length : Int) == 0) && ((kids.length : Int) == 0))))
 else if (op.data.toList == (#[102, 108, 117, 101, 110, 116] : Array UInt8).toList) then (v == 0) && (nameB name && (args.all termB && ((kids.length : Int) == 0)))
 else if ((op.data.toList == (#[43] : Array UInt8).toList) || ((op.data.toList == (#[45] : Array UInt8).toList) || (op.data.toList == (#[42] : Array UInt8).toList))) then (v == 0) && ((name.data.toList == (#[] : Array UInt8).toList) && (((args.length : Int) == 0) && ((kids.length : Int) == 2)))
 else false
theorem shapedE_kid {op name : ByteArray} {v : Int} {args : List ByteArray} {kids : List Ex} (h : shapedE (.mk op name v args kids) = true) : ∀ k ∈ kids, shapedE k = true := by
 unfold shapedE at h
 intro k hk
 split at h
 ·simp only [Bool.and_eq_true, List.isEmpty_iff] at h
  rw [h.1.2] at hk; simp at hk
 ·split at h
  ·simp only [Bool.and_eq_true, List.isEmpty_iff] at h
   rw [h.1.1.2] at hk; simp at hk
  ·split at h
   ·simp only [Bool.and_eq_true] at h
    obtain ⟨_, h⟩ := h
    split at h
    ·simp only [Bool.and_eq_true] at h
     simp only [List.mem_cons, List.not_mem_nil, or_false] at hk
     rcases hk with rfl | rfl
     ·exact h.1
     ·exact h.2
    ·simp at h
   ·simp at h
theorem shapedE_op {op name : ByteArray} {v : Int} {args : List ByteArray} {kids : List Ex} (h : ∀ k ∈ kids, shapedE k = true) : shapedE (.mk op name v args kids) = opB op name v args kids := by
 have n1 : bEq op opNum = (op.data.toList == (#[110, 117, 109, 98, 101, 114] : Array UInt8).toList) := rfl
 have n2 : bEq op opFlu = (op.data.toList == (#[102, 108, 117, 101, 110, 116] : Array UInt8).toList) := rfl
 have n3 : bEq op opPls = (op.data.toList == (#[43] : Array UInt8).toList) := rfl
 have n4 : bEq op opMin = (op.data.toList == (#[45] : Array UInt8).toList) := rfl
 have n5 : bEq op opTim = (op.data.toList == (#[42] : Array UInt8).toList) := rfl
 have n6 : emptyB name = (name.data.toList == (#[] : Array UInt8).toList) := rfl
 have n7 : decide (v = 0) = (v == 0) := by by_cases h0 : v = 0 <;> simp [h0]
 have n8 : inNum v = (decide (v ≥ -1099511627776) && decide (v ≤ 1099511627776)) := rfl
 unfold shapedE opB
 rw [n1, n2, n3, n4, n5, n6, n7, n8, ← emp_len args, ← emp_len kids]
 split
 ·generalize decide (v ≥ -1099511627776) = a
  generalize decide (v ≤ 1099511627776) = b
  generalize (name.data.toList == (#[] : Array UInt8).toList) = c
  generalize ((args.length : Int) == 0) = d
  generalize ((kids.length : Int) == 0) = e
  cases a <;> cases b <;> cases c <;> cases d <;> cases e <;> rfl
 ·split
  ·generalize (v == 0) = a
   generalize nameB name = b
   generalize args.all termB = c
   generalize ((kids.length : Int) == 0) = e
   cases a <;> cases b <;> cases c <;> cases e <;> rfl
  ·rw [Bool.or_assoc]
   split
   ·rw [Bool.and_assoc, Bool.and_assoc]
    congr 1
    congr 1
    congr 1
    match kids, h with
    | [], _ => rfl
    | [_], _ => rfl
    | [a, b], h => simp only [h a (by simp), h b (by simp)]; rfl
    | _ :: _ :: _ :: l, _ => simp; omega
   ·rfl
theorem rshapedE_c : ∀ e : Ex, e.ok → ∀ h : Heap, PCall Try.prog 78 [.agg e.cells] h fun r h' => r = .sc (.bool (shapedE e)) ∧ h' = h := by
 refine Ex.ind ?_
 intro op name v args kids ih hok h
 simp only [Ex.ok] at hok
 obtain ⟨_, hnm, _, ⟨hal, hargs⟩, hkl, hks⟩ := hok
 rw [Ex.oks_iff] at hks
 have hnm' : name.size ≤ 9223372036854775807 := by unfold bigN at hnm; omega
 have hlA := strRows_len args
 have hlK := Ex.rows_len kids
 have hkid : ∀ k ∈ kids, shapedE k = false → shapedE (.mk op name v args kids) = false := fun k hk hf => by
  cases hh : shapedE (.mk op name v args kids) with
  | false => rfl
  | true => rw [shapedE_kid hh k hk] at hf; simp at hf
 have hop : (∀ k ∈ kids, shapedE k = true) → shapedE (.mk op name v args kids) = opB op name v args kids := shapedE_op
 generalize shapedE (.mk op name v args kids) = F at hkid hop
 simp only [Ex.cells]
 refine pcall_body (ow := fun _ => false) (wf := fun _ => false) Ty.mixed Try.func78 rfl Ty.hb_78 (by rw [Try.ntmps78]; simp) ?_
 rw [Try.ntmps78, Try.results78]
 repeat' (first | refine a_seq fun K hK => ?_ | (refine a_block ?_) | (refine a_regionS ?_; simp only [Ty.w, simprocAttr, hlK]) | (refine hK _ _ ?_; clear hK; try simp only [pst0, simprocAttr]))
 refine a_loop (fun m S h' => h' = h ∧ S 1 = .cptr (Ex.mk op name v args kids).cells ∧ ∃ k : Nat, S 3 = .sc (.int .i64 k) ∧ k ≤ kids.length ∧ m = kids.length - k ∧ ∀ (i : Nat) (e : Ex), i < k → kids[i]? = some e → shapedE e = true) kids.length ?_ ?_
 ·simp only [Ty.w, simprocAttr]
  exact ⟨rfl, 0, rfl, by omega, rfl, by omega⟩
 ·rintro m S h' ⟨rfl, g1, k, g3, hkk, rfl, hall⟩
  simp only [Ex.cells] at g1
  by_cases hlt : k < kids.length
  ·clear hop
   have hd : decide ((k : Int) < (kids.length : Int)) = true := by simp; omega
   have w7 : IntKind.i64.wrap ((k : Int) + 1) = k + 1 := by unfold bigN at hkl; rw [wrap64 (by omega) (by omega)]
   obtain ⟨e, hx⟩ : ∃ e, kids[k]? = some e := ⟨_, List.getElem?_eq_getElem hlt⟩
   have hmem := List.mem_of_getElem? hx
   have hc := ih e hmem (hks e hmem)
   have hr := Ex.rows_get hx
   have hbad := hkid e hmem
   have hgood : shapedE e = true → ∀ (i : Nat) (e : Ex), i < k + 1 → kids[i]? = some e → shapedE e = true := fun h1 i e2 hi hw => by
    by_cases hik : i = k
    ·subst hik; rw [hx] at hw; simp at hw; rw [← hw]; exact h1
    ·exact hall i e2 (by omega) hw
   generalize shapedE e = b at hc hbad hgood
   clear hkid hall
   obtain ⟨op2, name2, n2, args2, kids2⟩ := e
   simp only [Ex.cells] at hr hc
   cases b with
   | false =>
    have := hbad rfl
    subst this
    repeat' (first | refine a_seq fun K hK => ?_ | (refine a_regionS ?_; simp only [Ty.w, simprocAttr, g1, g3, hlK, hd, hr, w7]) | (refine a_skip ?_; try simp only [pst0, simprocAttr]) | (refine a_cond _ (by (try simp only [Ty.w, simprocAttr, g1, g3, hlK, hd, hr, w7]); rfl) (fun hb => ?_) (fun hb => ?_) <;> (try simp only [hb0, decide_eq_true_eq, decide_eq_false_iff_not, simprocAttr] at hb) <;> (try (exfalso; omega))) | (refine hK _ _ ?_; clear hK; try simp only [pst0, simprocAttr]))
    refine owp_useQ (hc _) (by (try simp only [Ty.w, simprocAttr, g1, g3, hlK, hd, hr, Bool.not_false]); try rfl) ?_; simp only [Ty.w, simprocAttr, g1, g3, hlK, hd, hr, Bool.not_false]
    repeat' (first | refine a_seq fun K hK => ?_ | ((first | refine a_regionS ?_ | refine a_ret ?_); simp only [Ty.w, simprocAttr, g1, g3, w7, Bool.not_false]) | (refine hK _ _ ?_; clear hK; try simp only [pst0, simprocAttr]))
   | true =>
    repeat' (first | refine a_seq fun K hK => ?_ | (refine a_regionS ?_; simp only [Ty.w, simprocAttr, g1, g3, hlK, hd, hr, w7]) | (refine a_skip ?_; try simp only [pst0, simprocAttr]) | (refine a_cond _ (by (try simp only [Ty.w, simprocAttr, g1, g3, hlK, hd, hr, w7]); rfl) (fun hb => ?_) (fun hb => ?_) <;> (try simp only [hb0, decide_eq_true_eq, decide_eq_false_iff_not, simprocAttr] at hb) <;> (try (exfalso; omega))) | (refine hK _ _ ?_; clear hK; try simp only [pst0, simprocAttr]))
    refine owp_useQ (hc _) (by (try simp only [Ty.w, simprocAttr, g1, g3, hlK, hd, hr, Bool.not_true]); try rfl) ?_; simp only [Ty.w, simprocAttr, g1, g3, hlK, hd, hr, Bool.not_true]
    repeat' (first | (refine a_block ?_) | (refine a_regionS ?_; simp only [Ty.w, simprocAttr, g1, g3, w7, Bool.not_true]) | (refine a_skip ?_; try simp only [pst0, simprocAttr]) | (refine hK _ _ ?_; clear hK; try simp only [pst0, simprocAttr]))
    exact ⟨kids.length - (k + 1), by omega, rfl, k + 1, by simp, by omega, rfl, hgood rfl⟩
  ·have hd : decide ((k : Int) < (kids.length : Int)) = false := by simp; omega
   have hF := hop fun e he => by
    obtain ⟨i, hi⟩ := List.getElem?_of_mem he
    exact hall i e (by have := (List.getElem?_eq_some_iff.1 hi).1; omega) hi
   clear hop hall hkid ih
   have hn := fun h : Heap => rname_c (h := h) (s := name) hnm'
   have hA := fun h : Heap => rall_c (h := h) hal hargs
   unfold opB at hF
   cases k1 : (op.data.toList == (#[110, 117, 109, 98, 101, 114] : Array UInt8).toList) with
   | true =>
    rw [k1] at hF
    simp only [if_true] at hF
    cases q1 : decide (v ≥ -1099511627776) with
    | false =>
     rw [q1] at hF
     simp only [Bool.false_and] at hF
     subst hF
     repeat' (first | refine a_seq fun K hK => ?_ | ((first | refine a_regionS ?_ | refine a_ret ?_); simp only [Ty.w, simprocAttr, g1, g3, hd, hlA, hlK, k1, q1]) | (refine a_exit ?_; try simp only [pst0, simprocAttr]) | (refine a_cond _ (by (try simp only [Ty.w, simprocAttr, g1, g3, hd, hlA, hlK, k1, q1]); rfl) (fun hb => ?_) (fun hb => ?_) <;> (try simp only [hb0, decide_eq_true_eq, decide_eq_false_iff_not, simprocAttr] at hb) <;> (try (exfalso; omega))) | ((first | refine hK _ _ ?_ | (clear hK; refine hK _ _ ?_)); clear hK; try simp only [pst0, simprocAttr]))
    | true =>
     rw [q1, Bool.true_and] at hF
     cases q2 : decide (v ≤ 1099511627776) with
     | false =>
      rw [q2] at hF
      simp only [Bool.false_and] at hF
      subst hF
      repeat' (first | refine a_seq fun K hK => ?_ | ((first | refine a_regionS ?_ | refine a_ret ?_); simp only [Ty.w, simprocAttr, g1, g3, hd, hlA, hlK, k1, q1, q2]) | (refine a_exit ?_; try simp only [pst0, simprocAttr]) | (refine a_cond _ (by (try simp only [Ty.w, simprocAttr, g1, g3, hd, hlA, hlK, k1, q1, q2]); rfl) (fun hb => ?_) (fun hb => ?_) <;> (try simp only [hb0, decide_eq_true_eq, decide_eq_false_iff_not, simprocAttr] at hb) <;> (try (exfalso; omega))) | ((first | refine hK _ _ ?_ | (clear hK; refine hK _ _ ?_)); clear hK; try simp only [pst0, simprocAttr]))
     | true =>
      rw [q2, Bool.true_and] at hF
      cases q3 : (name.data.toList == (#[] : Array UInt8).toList) with
      | false =>
       rw [q3] at hF
       simp only [Bool.false_and] at hF
       subst hF
       repeat' (first | refine a_seq fun K hK => ?_ | ((first | refine a_regionS ?_ | refine a_ret ?_); simp only [Ty.w, simprocAttr, g1, g3, hd, hlA, hlK, k1, q1, q2, q3]) | (refine a_exit ?_; try simp only [pst0, simprocAttr]) | (refine a_cond _ (by (try simp only [Ty.w, simprocAttr, g1, g3, hd, hlA, hlK, k1, q1, q2, q3]); rfl) (fun hb => ?_) (fun hb => ?_) <;> (try simp only [hb0, decide_eq_true_eq, decide_eq_false_iff_not, simprocAttr] at hb) <;> (try (exfalso; omega))) | ((first | refine hK _ _ ?_ | (clear hK; refine hK _ _ ?_)); clear hK; try simp only [pst0, simprocAttr]))
      | true =>
       rw [q3, Bool.true_and] at hF
       cases q4 : ((args.length : Int) == 0) with
       | false =>
        rw [q4] at hF
        simp only [Bool.false_and] at hF
        subst hF
        repeat' (first | refine a_seq fun K hK => ?_ | ((first | refine a_regionS ?_ | refine a_ret ?_); simp only [Ty.w, simprocAttr, g1, g3, hd, hlA, hlK, k1, q1, q2, q3, q4]) | (refine a_exit ?_; try simp only [pst0, simprocAttr]) | (refine a_cond _ (by (try simp only [Ty.w, simprocAttr, g1, g3, hd, hlA, hlK, k1, q1, q2, q3, q4]); rfl) (fun hb => ?_) (fun hb => ?_) <;> (try simp only [hb0, decide_eq_true_eq, decide_eq_false_iff_not, simprocAttr] at hb) <;> (try (exfalso; omega))) | ((first | refine hK _ _ ?_ | (clear hK; refine hK _ _ ?_)); clear hK; try simp only [pst0, simprocAttr]))
       | true =>
        rw [q4, Bool.true_and] at hF
        subst hF
        repeat' (first | refine a_seq fun K hK => ?_ | ((first | refine a_regionS ?_ | refine a_ret ?_); simp only [Ty.w, simprocAttr, g1, g3, hd, hlA, hlK, k1, q1, q2, q3, q4]) | (refine a_exit ?_; try simp only [pst0, simprocAttr]) | (refine a_cond _ (by (try simp only [Ty.w, simprocAttr, g1, g3, hd, hlA, hlK, k1, q1, q2, q3, q4]); rfl) (fun hb => ?_) (fun hb => ?_) <;> (try simp only [hb0, decide_eq_true_eq, decide_eq_false_iff_not, simprocAttr] at hb) <;> (try (exfalso; omega))) | ((first | refine hK _ _ ?_ | (clear hK; refine hK _ _ ?_)); clear hK; try simp only [pst0, simprocAttr]))
   | false =>
    rw [k1] at hF
    simp only [Bool.false_eq_true, if_false] at hF
    cases k2 : (op.data.toList == (#[102, 108, 117, 101, 110, 116] : Array UInt8).toList) with
    | true =>
     rw [k2] at hF
     simp only [if_true] at hF
     cases q1 : (v == 0) with
     | false =>
      rw [q1] at hF
      simp only [Bool.false_and] at hF
      subst hF
      repeat' (first | refine a_seq fun K hK => ?_ | ((first | refine a_regionS ?_ | refine a_ret ?_); simp only [Ty.w, simprocAttr, g1, g3, hd, hlA, hlK, k1, k2, q1]) | (refine a_exit ?_; try simp only [pst0, simprocAttr]) | (refine a_cond _ (by (try simp only [Ty.w, simprocAttr, g1, g3, hd, hlA, hlK, k1, k2, q1]); rfl) (fun hb => ?_) (fun hb => ?_) <;> (try simp only [hb0, decide_eq_true_eq, decide_eq_false_iff_not, simprocAttr] at hb) <;> (try (exfalso; omega))) | ((first | refine hK _ _ ?_ | (clear hK; refine hK _ _ ?_)); clear hK; try simp only [pst0, simprocAttr]))
     | true =>
      rw [q1, Bool.true_and] at hF
      generalize nameB name = bn at hn hF
      cases bn with
      | false =>
       simp only [Bool.false_and] at hF
       subst hF
       repeat' (first | refine a_seq fun K hK => ?_ | (refine a_regionS ?_; simp only [Ty.w, simprocAttr, g1, g3, hd, hlA, hlK, k1, k2, q1]) | (refine a_exit ?_; try simp only [pst0, simprocAttr]) | (refine a_cond _ (by (try simp only [Ty.w, simprocAttr, g1, g3, hd, hlA, hlK, k1, k2, q1]); rfl) (fun hb => ?_) (fun hb => ?_) <;> (try simp only [hb0, decide_eq_true_eq, decide_eq_false_iff_not, simprocAttr] at hb) <;> (try (exfalso; omega))) | ((first | refine hK _ _ ?_ | (clear hK; refine hK _ _ ?_)); clear hK; try simp only [pst0, simprocAttr]))
       refine owp_useQ (hn _) (by (try simp only [Ty.w, simprocAttr, g1, g3, hd, hlA, hlK, k1, k2, q1]); try rfl) ?_; simp only [Ty.w, simprocAttr, g1, g3, hd, hlA, hlK, k1, k2, q1]
       repeat' (first | (refine a_ret ?_; simp only [Ty.w, simprocAttr, g1, g3, hd, hlA, hlK, k1, k2, q1]) | (refine hK _ _ ?_; clear hK; try simp only [pst0, simprocAttr]))
      | true =>
       rw [Bool.true_and] at hF
       generalize args.all termB = ba at hA hF
       cases ba with
       | false =>
        simp only [Bool.false_and] at hF
        subst hF
        have W := And.intro g1 (And.intro g3 (And.intro hd (And.intro hlA (And.intro hlK (And.intro k1 (And.intro k2 q1))))))
        repeat' (first | refine a_seq fun K hK => ?_ | (refine a_regionS ?_; simp only [Ty.w, simprocAttr, W]) | (refine a_exit ?_; try simp only [pst0, simprocAttr]) | (refine a_cond _ (by (try simp only [Ty.w, simprocAttr, W]); rfl) (fun hb => ?_) (fun hb => ?_) <;> (try simp only [hb0, decide_eq_true_eq, decide_eq_false_iff_not, simprocAttr] at hb) <;> (try (exfalso; omega))) | ((first | refine hK _ _ ?_ | (clear hK; refine hK _ _ ?_)); clear hK; try simp only [pst0, simprocAttr]))
        refine owp_useQ (hn _) (by (try simp only [Ty.w, simprocAttr, W]); try rfl) ?_; simp only [Ty.w, simprocAttr, W]
        skip
        refine owp_useQ (hA _) (by (try simp only [Ty.w, simprocAttr, W]); try rfl) ?_; simp only [Ty.w, simprocAttr, W]
        repeat' (first | (refine a_ret ?_; simp only [Ty.w, simprocAttr, W]) | (refine hK _ _ ?_; clear hK; try simp only [pst0, simprocAttr]))
       | true =>
        rw [Bool.true_and] at hF
        subst hF
        have W := And.intro g1 (And.intro g3 (And.intro hd (And.intro hlA (And.intro hlK (And.intro k1 (And.intro k2 q1))))))
        repeat' (first | refine a_seq fun K hK => ?_ | (refine a_regionS ?_; simp only [Ty.w, simprocAttr, W]) | (refine a_exit ?_; try simp only [pst0, simprocAttr]) | (refine a_cond _ (by (try simp only [Ty.w, simprocAttr, W]); rfl) (fun hb => ?_) (fun hb => ?_) <;> (try simp only [hb0, decide_eq_true_eq, decide_eq_false_iff_not, simprocAttr] at hb) <;> (try (exfalso; omega))) | ((first | refine hK _ _ ?_ | (clear hK; refine hK _ _ ?_)); clear hK; try simp only [pst0, simprocAttr]))
        refine owp_useQ (hn _) (by (try simp only [Ty.w, simprocAttr, W]); try rfl) ?_; simp only [Ty.w, simprocAttr, W]
        skip
        refine owp_useQ (hA _) (by (try simp only [Ty.w, simprocAttr, W]); try rfl) ?_; simp only [Ty.w, simprocAttr, W]
        repeat' (first | (refine a_ret ?_; simp only [Ty.w, simprocAttr, W]) | (refine hK _ _ ?_; clear hK; try simp only [pst0, simprocAttr]))
    | false =>
     rw [k2] at hF
     simp only [Bool.false_eq_true, if_false] at hF
     clear hn hA
     cases k3 : (op.data.toList == (#[43] : Array UInt8).toList) with
     | true =>
      rw [k3] at hF
      simp only [Bool.true_or, if_true] at hF
      cases q1 : (v == 0) with
      | false =>
       rw [q1] at hF
       simp only [Bool.false_and] at hF
       subst hF
       repeat' (first | refine a_seq fun K hK => ?_ | ((first | refine a_regionS ?_ | refine a_ret ?_); simp only [Ty.w, simprocAttr, g1, g3, hd, hlA, hlK, k1, k2, k3, q1]) | ((first | refine a_skip ?_ | refine a_exit ?_); try simp only [pst0, simprocAttr]) | (refine a_cond _ (by (try simp only [Ty.w, simprocAttr, g1, g3, hd, hlA, hlK, k1, k2, k3, q1]); rfl) (fun hb => ?_) (fun hb => ?_) <;> (try simp only [hb0, decide_eq_true_eq, decide_eq_false_iff_not, simprocAttr] at hb) <;> (try (exfalso; omega))) | ((first | refine hK _ _ ?_ | (clear hK; refine hK _ _ ?_)); clear hK; try simp only [pst0, simprocAttr]))
      | true =>
       rw [q1, Bool.true_and] at hF
       cases q2 : (name.data.toList == (#[] : Array UInt8).toList) with
       | false =>
        rw [q2] at hF
        simp only [Bool.false_and] at hF
        subst hF
        repeat' (first | refine a_seq fun K hK => ?_ | ((first | refine a_regionS ?_ | refine a_ret ?_); simp only [Ty.w, simprocAttr, g1, g3, hd, hlA, hlK, k1, k2, k3, q1, q2]) | ((first | refine a_skip ?_ | refine a_exit ?_); try simp only [pst0, simprocAttr]) | (refine a_cond _ (by (try simp only [Ty.w, simprocAttr, g1, g3, hd, hlA, hlK, k1, k2, k3, q1, q2]); rfl) (fun hb => ?_) (fun hb => ?_) <;> (try simp only [hb0, decide_eq_true_eq, decide_eq_false_iff_not, simprocAttr] at hb) <;> (try (exfalso; omega))) | ((first | refine hK _ _ ?_ | (clear hK; refine hK _ _ ?_)); clear hK; try simp only [pst0, simprocAttr]))
       | true =>
        rw [q2, Bool.true_and] at hF
        cases q3 : ((args.length : Int) == 0) with
        | false =>
         rw [q3] at hF
         simp only [Bool.false_and] at hF
         subst hF
         repeat' (first | refine a_seq fun K hK => ?_ | ((first | refine a_regionS ?_ | refine a_ret ?_); simp only [Ty.w, simprocAttr, g1, g3, hd, hlA, hlK, k1, k2, k3, q1, q2, q3]) | ((first | refine a_skip ?_ | refine a_exit ?_); try simp only [pst0, simprocAttr]) | (refine a_cond _ (by (try simp only [Ty.w, simprocAttr, g1, g3, hd, hlA, hlK, k1, k2, k3, q1, q2, q3]); rfl) (fun hb => ?_) (fun hb => ?_) <;> (try simp only [hb0, decide_eq_true_eq, decide_eq_false_iff_not, simprocAttr] at hb) <;> (try (exfalso; omega))) | ((first | refine hK _ _ ?_ | (clear hK; refine hK _ _ ?_)); clear hK; try simp only [pst0, simprocAttr]))
        | true =>
         rw [q3, Bool.true_and] at hF
         subst hF
         repeat' (first | refine a_seq fun K hK => ?_ | ((first | refine a_regionS ?_ | refine a_ret ?_); simp only [Ty.w, simprocAttr, g1, g3, hd, hlA, hlK, k1, k2, k3, q1, q2, q3]) | ((first | refine a_skip ?_ | refine a_exit ?_); try simp only [pst0, simprocAttr]) | (refine a_cond _ (by (try simp only [Ty.w, simprocAttr, g1, g3, hd, hlA, hlK, k1, k2, k3, q1, q2, q3]); rfl) (fun hb => ?_) (fun hb => ?_) <;> (try simp only [hb0, decide_eq_true_eq, decide_eq_false_iff_not, simprocAttr] at hb) <;> (try (exfalso; omega))) | ((first | refine hK _ _ ?_ | (clear hK; refine hK _ _ ?_)); clear hK; try simp only [pst0, simprocAttr]))
     | false =>
      rw [k3] at hF
      simp only [Bool.false_or] at hF
      cases k4 : (op.data.toList == (#[45] : Array UInt8).toList) with
      | true =>
       rw [k4] at hF
       simp only [Bool.true_or, if_true] at hF
       cases q1 : (v == 0) with
       | false =>
        rw [q1] at hF
        simp only [Bool.false_and] at hF
        subst hF
        repeat' (first | refine a_seq fun K hK => ?_ | ((first | refine a_regionS ?_ | refine a_ret ?_); simp only [Ty.w, simprocAttr, g1, g3, hd, hlA, hlK, k1, k2, k3, k4, q1]) | ((first | refine a_skip ?_ | refine a_exit ?_); try simp only [pst0, simprocAttr]) | (refine a_cond _ (by (try simp only [Ty.w, simprocAttr, g1, g3, hd, hlA, hlK, k1, k2, k3, k4, q1]); rfl) (fun hb => ?_) (fun hb => ?_) <;> (try simp only [hb0, decide_eq_true_eq, decide_eq_false_iff_not, simprocAttr] at hb) <;> (try (exfalso; omega))) | ((first | refine hK _ _ ?_ | (clear hK; refine hK _ _ ?_)); clear hK; try simp only [pst0, simprocAttr]))
       | true =>
        rw [q1, Bool.true_and] at hF
        cases q2 : (name.data.toList == (#[] : Array UInt8).toList) with
        | false =>
         rw [q2] at hF
         simp only [Bool.false_and] at hF
         subst hF
         repeat' (first | refine a_seq fun K hK => ?_ | ((first | refine a_regionS ?_ | refine a_ret ?_); simp only [Ty.w, simprocAttr, g1, g3, hd, hlA, hlK, k1, k2, k3, k4, q1, q2]) | ((first | refine a_skip ?_ | refine a_exit ?_); try simp only [pst0, simprocAttr]) | (refine a_cond _ (by (try simp only [Ty.w, simprocAttr, g1, g3, hd, hlA, hlK, k1, k2, k3, k4, q1, q2]); rfl) (fun hb => ?_) (fun hb => ?_) <;> (try simp only [hb0, decide_eq_true_eq, decide_eq_false_iff_not, simprocAttr] at hb) <;> (try (exfalso; omega))) | ((first | refine hK _ _ ?_ | (clear hK; refine hK _ _ ?_)); clear hK; try simp only [pst0, simprocAttr]))
        | true =>
         rw [q2, Bool.true_and] at hF
         cases q3 : ((args.length : Int) == 0) with
         | false =>
          rw [q3] at hF
          simp only [Bool.false_and] at hF
          subst hF
          repeat' (first | refine a_seq fun K hK => ?_ | ((first | refine a_regionS ?_ | refine a_ret ?_); simp only [Ty.w, simprocAttr, g1, g3, hd, hlA, hlK, k1, k2, k3, k4, q1, q2, q3]) | ((first | refine a_skip ?_ | refine a_exit ?_); try simp only [pst0, simprocAttr]) | (refine a_cond _ (by (try simp only [Ty.w, simprocAttr, g1, g3, hd, hlA, hlK, k1, k2, k3, k4, q1, q2, q3]); rfl) (fun hb => ?_) (fun hb => ?_) <;> (try simp only [hb0, decide_eq_true_eq, decide_eq_false_iff_not, simprocAttr] at hb) <;> (try (exfalso; omega))) | ((first | refine hK _ _ ?_ | (clear hK; refine hK _ _ ?_)); clear hK; try simp only [pst0, simprocAttr]))
         | true =>
          rw [q3, Bool.true_and] at hF
          subst hF
          repeat' (first | refine a_seq fun K hK => ?_ | ((first | refine a_regionS ?_ | refine a_ret ?_); simp only [Ty.w, simprocAttr, g1, g3, hd, hlA, hlK, k1, k2, k3, k4, q1, q2, q3]) | ((first | refine a_skip ?_ | refine a_exit ?_); try simp only [pst0, simprocAttr]) | (refine a_cond _ (by (try simp only [Ty.w, simprocAttr, g1, g3, hd, hlA, hlK, k1, k2, k3, k4, q1, q2, q3]); rfl) (fun hb => ?_) (fun hb => ?_) <;> (try simp only [hb0, decide_eq_true_eq, decide_eq_false_iff_not, simprocAttr] at hb) <;> (try (exfalso; omega))) | ((first | refine hK _ _ ?_ | (clear hK; refine hK _ _ ?_)); clear hK; try simp only [pst0, simprocAttr]))
      | false =>
       rw [k4] at hF
       simp only [Bool.false_or] at hF
       cases k5 : (op.data.toList == (#[42] : Array UInt8).toList) with
       | true =>
        rw [k5] at hF
        simp only [if_true] at hF
        cases q1 : (v == 0) with
        | false =>
         rw [q1] at hF
         simp only [Bool.false_and] at hF
         subst hF
         repeat' (first | refine a_seq fun K hK => ?_ | ((first | refine a_regionS ?_ | refine a_ret ?_); simp only [Ty.w, simprocAttr, g1, g3, hd, hlA, hlK, k1, k2, k3, k4, k5, q1]) | (refine a_exit ?_; try simp only [pst0, simprocAttr]) | (refine a_cond _ (by (try simp only [Ty.w, simprocAttr, g1, g3, hd, hlA, hlK, k1, k2, k3, k4, k5, q1]); rfl) (fun hb => ?_) (fun hb => ?_) <;> (try simp only [hb0, decide_eq_true_eq, decide_eq_false_iff_not, simprocAttr] at hb) <;> (try (exfalso; omega))) | ((first | refine hK _ _ ?_ | (clear hK; refine hK _ _ ?_)); clear hK; try simp only [pst0, simprocAttr]))
        | true =>
         rw [q1, Bool.true_and] at hF
         cases q2 : (name.data.toList == (#[] : Array UInt8).toList) with
         | false =>
          rw [q2] at hF
          simp only [Bool.false_and] at hF
          subst hF
          repeat' (first | refine a_seq fun K hK => ?_ | ((first | refine a_regionS ?_ | refine a_ret ?_); simp only [Ty.w, simprocAttr, g1, g3, hd, hlA, hlK, k1, k2, k3, k4, k5, q1, q2]) | (refine a_exit ?_; try simp only [pst0, simprocAttr]) | (refine a_cond _ (by (try simp only [Ty.w, simprocAttr, g1, g3, hd, hlA, hlK, k1, k2, k3, k4, k5, q1, q2]); rfl) (fun hb => ?_) (fun hb => ?_) <;> (try simp only [hb0, decide_eq_true_eq, decide_eq_false_iff_not, simprocAttr] at hb) <;> (try (exfalso; omega))) | ((first | refine hK _ _ ?_ | (clear hK; refine hK _ _ ?_)); clear hK; try simp only [pst0, simprocAttr]))
         | true =>
          rw [q2, Bool.true_and] at hF
          cases q3 : ((args.length : Int) == 0) with
          | false =>
           rw [q3] at hF
           simp only [Bool.false_and] at hF
           subst hF
           repeat' (first | refine a_seq fun K hK => ?_ | ((first | refine a_regionS ?_ | refine a_ret ?_); simp only [Ty.w, simprocAttr, g1, g3, hd, hlA, hlK, k1, k2, k3, k4, k5, q1, q2, q3]) | (refine a_exit ?_; try simp only [pst0, simprocAttr]) | (refine a_cond _ (by (try simp only [Ty.w, simprocAttr, g1, g3, hd, hlA, hlK, k1, k2, k3, k4, k5, q1, q2, q3]); rfl) (fun hb => ?_) (fun hb => ?_) <;> (try simp only [hb0, decide_eq_true_eq, decide_eq_false_iff_not, simprocAttr] at hb) <;> (try (exfalso; omega))) | ((first | refine hK _ _ ?_ | (clear hK; refine hK _ _ ?_)); clear hK; try simp only [pst0, simprocAttr]))
          | true =>
           rw [q3, Bool.true_and] at hF
           subst hF
           repeat' (first | refine a_seq fun K hK => ?_ | ((first | refine a_regionS ?_ | refine a_ret ?_); simp only [Ty.w, simprocAttr, g1, g3, hd, hlA, hlK, k1, k2, k3, k4, k5, q1, q2, q3]) | (refine a_exit ?_; try simp only [pst0, simprocAttr]) | (refine a_cond _ (by (try simp only [Ty.w, simprocAttr, g1, g3, hd, hlA, hlK, k1, k2, k3, k4, k5, q1, q2, q3]); rfl) (fun hb => ?_) (fun hb => ?_) <;> (try simp only [hb0, decide_eq_true_eq, decide_eq_false_iff_not, simprocAttr] at hb) <;> (try (exfalso; omega))) | ((first | refine hK _ _ ?_ | (clear hK; refine hK _ _ ?_)); clear hK; try simp only [pst0, simprocAttr]))
       | false =>
        rw [k5] at hF
        simp only [Bool.false_eq_true, if_false] at hF
        subst hF
        repeat' (first | refine a_seq fun K hK => ?_ | (refine a_block ?_) | ((first | refine a_regionS ?_ | refine a_ret ?_); simp only [Ty.w, simprocAttr, g1, g3, hd, hlA, hlK, k1, k2, k3, k4, k5]) | ((first | refine a_skip ?_ | refine a_exit ?_); try simp only [pst0, simprocAttr]) | (refine a_cond _ (by (try simp only [Ty.w, simprocAttr, g1, g3, hd, hlA, hlK, k1, k2, k3, k4, k5]); rfl) (fun hb => ?_) (fun hb => ?_) <;> (try simp only [hb0, decide_eq_true_eq, decide_eq_false_iff_not, simprocAttr] at hb) <;> (try (exfalso; omega))) | ((first | refine hK _ _ ?_ | (clear hK; refine hK _ _ ?_)); clear hK; try simp only [pst0, simprocAttr]))
theorem rvalidE_c {e : Ex} (hok : e.ok) (hsm : e.small) (hd : (exW e).depth ≤ bigN) (h : Heap) : PCall Try.prog 41 [.agg e.cells] h fun r h' => r = .sc (.bool (shapedE e && rvalidB (exW e))) ∧ h' = h := by
 have hs := rshapedE_c e hok
 have hx := exW_ok e hok hsm
 cases hb : shapedE e with
 | false =>
  rw [hb] at hs
  obtain ⟨op, name, n, args, kids⟩ := e
  simp only [Ex.cells] at hs ⊢
  refine pcall_body (ow := fun _ => false) (wf := fun _ => false) Ty.mixed Try.func41 rfl Ty.hb_41 (by rw [Try.ntmps41]; simp) ?_
  rw [Try.ntmps41, Try.results41]
  repeat' (first | refine a_seq fun K hK => ?_ | (refine a_regionS ?_; simp only [Ty.w, simprocAttr]) | (refine hK _ _ ?_; clear hK; try simp only [pst0, simprocAttr]))
  refine owp_useQ (hs _) (by (try simp only [Ty.w, simprocAttr, ]); try rfl) ?_; simp only [Ty.w, simprocAttr, ]
  repeat' (first | (refine a_ret ?_; simp only [Ty.w, simprocAttr]) | (refine hK _ _ ?_; clear hK; try simp only [pst0, simprocAttr]))
  all_goals rfl
 | true =>
  rw [hb] at hs
  have hw := rwriteE_c e hsm hb
  have hv := rvalid_c hx hd
  have hq : rvalidB (exW e) = (shapedS (exW e) && decide (((exW e).depth : Int) ≤ 32) && decide ((exW e).count ≤ 4096)) := rfl
  rw [← hq] at hv
  clear hq
  generalize rvalidB (exW e) = bb at hv ⊢
  generalize exW e = X at hw hv
  obtain ⟨op, name, n, args, kids⟩ := e
  obtain ⟨ki, va, li, co, te, ks⟩ := X
  simp only [Ex.cells, Sx.cells, Bool.true_and] at hs hw hv ⊢
  refine pcall_body (ow := fun _ => false) (wf := fun _ => false) Ty.mixed Try.func41 rfl Ty.hb_41 (by rw [Try.ntmps41]; simp) ?_
  rw [Try.ntmps41, Try.results41]
  repeat' (first | refine a_seq fun K hK => ?_ | (refine a_regionS ?_; simp only [Ty.w, simprocAttr]) | (refine hK _ _ ?_; clear hK; try simp only [pst0, simprocAttr]))
  refine owp_useQ (hs _) (by (try simp only [Ty.w, simprocAttr, ]); try rfl) ?_; simp only [Ty.w, simprocAttr, ]
  skip
  refine owp_useQ (hw _) (by (try simp only [Ty.w, simprocAttr, ]); try rfl) ?_; simp only [Ty.w, simprocAttr, ]
  skip
  refine owp_useQ (hv _) (by (try simp only [Ty.w, simprocAttr, ]); try rfl) ?_; simp only [Ty.w, simprocAttr, ]
  repeat' (first | (refine a_ret ?_; simp only [Ty.w, simprocAttr]) | (refine hK _ _ ?_; clear hK; try simp only [pst0, simprocAttr]))
end Go.Proofs.Ytjlkapgpjamnkaa
namespace Go.Proofs.Ytjlkapgpjamnkaa
open Go.AM
theorem nodess_append : ∀ l m : List Sx, Sx.nodess (l ++ m) = Sx.nodess l + Sx.nodess m
 | [], m => by simp [Sx.nodess]
 | k :: l, m => by simp only [List.cons_append, Sx.nodess, nodess_append l m]; omega
theorem list_nodes (l : List Sx) : (listM l).nodes = Sx.nodess l + 1 := by simp only [listM, Sx.nodes]
theorem word_nodes (s : ByteArray) : (wordM s).nodes = 1 := by simp [wordM, Sx.nodes, Sx.nodess]
theorem formed_of : ∀ (e : Ex), shapedE e = true → ∀ (d n : Nat), d + (exW e).depth ≤ 32 → n + (exW e).nodes ≤ 4096 → (formedM e d n).1 = true ∧ (formedM e d n).2 ≤ n + (exW e).nodes := by
 refine Ex.ind ?_
 intro op name v args kids ih hs d n hd hn
 unfold shapedE at hs
 unfold exW at hd hn ⊢
 unfold formedM
 cases c1 : bEq op opNum with
 | true =>
  rw [c1] at hs hd hn
  simp only [if_true] at hs hd hn ⊢
  simp only [Sx.nodes, Sx.nodess] at hn ⊢
  rw [if_pos ⟨by omega, by omega⟩]
  exact ⟨hs, by simp only; omega⟩
 | false =>
  rw [c1] at hs hd hn
  simp only [Bool.false_eq_true, if_false] at hs hd hn ⊢
  cases c2 : bEq op opFlu with
  | true =>
   rw [c2] at hs hd hn
   simp only [if_true] at hs hd hn ⊢
   simp only [wordsM, listM, Sx.nodes] at hn ⊢
   rw [if_pos ⟨by omega, by omega⟩]
   exact ⟨hs, by simp only; omega⟩
  | false =>
   rw [c2] at hs hd hn
   simp only [Bool.false_eq_true, if_false] at hs hd hn ⊢
   split at hs
   case isFalse => simp at hs
   rename_i hop
   rw [if_pos hop]
   rw [Bool.and_eq_true] at hs
   obtain ⟨h1, h2⟩ := hs
   rw [h1]
   simp only [if_true]
   split at h2
   case h_2 => simp at h2
   rename_i a b
   simp only [Bool.and_eq_true] at h2
   simp only [listM, Sx.depth, Sx.depths, Sx.nodes, Sx.nodess, wordM, if_true] at hd hn ⊢
   have k1 : ¬ ((1 : Int) = 3) := by omega
   rw [if_neg k1] at hd
   rw [if_pos ⟨by omega, by omega⟩]
   obtain ⟨f1, f2⟩ := ih a (by simp) h2.1 (d + 1) (n + 1) (by omega) (by omega)
   cases hw : formedM a (d + 1) (n + 1) with
   | mk x c =>
    rw [hw] at f1 f2
    simp only at f1 f2
    subst f1
    simp only
    obtain ⟨g1, g2⟩ := ih b (by simp) h2.2 (d + 1) c (by omega) (by omega)
    exact ⟨g1, by omega⟩
theorem validE_same {e : Ex} (hn : (exW e).nodes ≤ bigN) : validE e = (shapedE e && rvalidB (exW e)) := by
 unfold validE
 rw [valid_same hn]
 cases hs : shapedE e with
 | false =>
  have : (formedM e 0 0).1 = false := by
   cases h : (formedM e 0 0).1 with
   | false => rfl
   | true => rw [formedM_shaped e 0 0 h] at hs; simp at hs
  simp only [this, Bool.false_and]
 | true =>
  cases hv : rvalidB (exW e) with
  | false => simp
  | true =>
   have h1 := (svalid_iff (exW e) 0 0 (by omega) (by omega)).1.1 (by rw [valid_same hn]; exact hv)
   rw [(formed_of e hs 0 0 h1.2.1 h1.2.2).1]
end Go.Proofs.Ytjlkapgpjamnkaa
namespace Go.AM
open Go.ChangeShapes Go.WideShapes
def partsT (P : Program) (t : TypeId) : List (Nat × TypeId) := match P.underlying t with
  | some (.struct fs) => fs.toList.map fun f => (f.offset, f.type)
  | some (.array n e) => (List.range n).map fun i => (i * P.cellsOf e, e)
  | _ => []
def inRow (P : Program) (e : Nat) : Nat → List (Nat × TypeId) → Bool
  | o, [] => o == e
  | o, p :: l => p.1 == o && inRow P e (o + P.cellsOf p.2) l
def Arg (P : Program) : Nat → TypeId → List PV → Prop
  | 0, _, _ => False
  | f + 1, t, ps => match P.underlying t with
    | some .bool => ∃ b, ps = [.sc (.bool b)]
    | some (.int k) => ∃ n, (Lit.int k n).wf = true ∧ ps = [.sc (.int k n)]
    | some .string => ∃ s : ByteArray, s.size ≤ reachBytes ∧ ps = [.sc (.string s)]
    | some (.slice e) => ∃ rows, ps = [.imm (P.cellsOf e) rows] ∧ rows.length * P.bytesOf e ≤ reachBytes ∧ rows.length ≤ maxLen ∧ ∀ r ∈ rows, r.length = P.cellsOf e ∧ Arg P f e r
    | some (.struct _) => ps.length = P.cellsOf t ∧ ∀ p ∈ partsT P t, Arg P f p.2 ((ps.drop p.1).take (P.cellsOf p.2))
    | some (.array _ _) => ps.length = P.cellsOf t ∧ ∀ p ∈ partsT P t, Arg P f p.2 ((ps.drop p.1).take (P.cellsOf p.2))
    | _ => False
section
variable {H : Type} {enc : TypeId × Value → H} {P : Program} {w : World} {sp : Nat → Bool} {held : Bool}
def RA (w : World) (ps : List PV) (cs : List Value) : Prop := (∀ v ∈ cs, v.oneCell' = true) ∧ ∀ β n, RepL β n (fun b => b < w.heap.size) w ps cs
theorem RA.len {ps : List PV} {cs : List Value} (h : RA w ps cs) : ps.length = cs.length := (h.2 ⟨fun _ => ⟨none, 0, 0, 0⟩, fun _ => False⟩ 0).len
theorem RA.append {ps ps' : List PV} {cs cs' : List Value} (h : RA w ps cs) (k : RA w ps' cs') : RA w (ps ++ ps') (cs ++ cs') :=
  ⟨fun v hv => by exact (List.mem_append.1 hv).elim (h.1 v) (k.1 v), fun β n => (h.2 β n).append (k.2 β n)⟩
theorem inRow_le {e : Nat} : (l : List (Nat × TypeId)) → (o : Nat) → inRow P e o l = true → o ≤ e ∧ ∀ p ∈ l, o ≤ p.1 ∧ p.1 + P.cellsOf p.2 ≤ e
  | [], o, h => by simp [inRow] at h; simp [h]
  | p :: l, o, h => by
    simp only [inRow, Bool.and_eq_true, beq_iff_eq] at h
    obtain ⟨h1, h2⟩ := inRow_le l _ h.2
    refine ⟨by omega, fun q hq => ?_⟩
    rcases List.mem_cons.1 hq with rfl | hq
    · omega
    · have := h2 q hq; omega
theorem exists_list {α : Type} {R : Nat → α → Prop} : (n : Nat) → (∀ i, i < n → ∃ x, R i x) → ∃ l : List α, l.length = n ∧ ∀ i x, l[i]? = some x → R i x
  | 0, _ => ⟨[], rfl, by simp⟩
  | n + 1, h => by
    obtain ⟨l, h1, h2⟩ := exists_list n (fun i hi => h i (by omega))
    obtain ⟨x, hx⟩ := h n (by omega)
    refine ⟨l ++ [x], by simp [h1], fun i y hy => ?_⟩
    rw [List.getElem?_append] at hy
    split at hy
    · exact h2 i y hy
    · rename_i hi
      have : i = n := by
        have := (List.getElem?_eq_some_iff.1 hy).1
        simp at this; omega
      subst this
      rw [h1] at hy
      simp at hy
      subst hy; exact hx
theorem weightsAll_mem {e : TypeId} {n : Nat} : {ds : List (DataW H)} → {i : Nat} → {d : DataW H} → ds[i]? = some d → n ∈ d.weights P e → n ∈ DataW.weightsAll P e ds
  | [], _, _, h, _ => by simp at h
  | d0 :: ds, 0, d, h, hn => by
    simp at h; subst h
    simp only [DataW.weightsAll, List.mem_append]; exact .inl hn
  | d0 :: ds, i + 1, d, h, hn => by
    simp at h
    simp only [DataW.weightsAll, List.mem_append]; exact .inr (weightsAll_mem h hn)
theorem sc_RA {v : Value} (h : v.oneCell' = true) : RA w [.sc v] [v] :=
  ⟨fun u hu => by simp at hu; subst hu; exact h, fun β n => by simp only [RepL, Rep]; exact ⟨trivial, trivial⟩⟩
end
end Go.AM
namespace Go.AM
open Go.ChangeShapes Go.WideShapes
section
variable {H : Type} {enc : TypeId × Value → H} {P : Program} {w : World} {sp : Nat → Bool} {held : Bool}
def covC (P : Program) (Ts : List TypeId) : Bool := Ts.all fun t => match P.underlying t with
  | some .bool => true
  | some (.int _) => true
  | some .string => true
  | some (.slice e) => decide (0 < P.cellsOf e) && Ts.contains e
  | some (.struct _) => inRow P (P.cellsOf t) 0 (partsT P t) && (partsT P t).all fun p => Ts.contains p.2
  | some (.array _ _) => inRow P (P.cellsOf t) 0 (partsT P t) && (partsT P t).all fun p => Ts.contains p.2
  | _ => false
end
end Go.AM
namespace Go.AM
open Go.ChangeShapes Go.WideShapes
open Go.Proofs.Ytjlkapgpjamnkaa
mutual
def PV.bulk : PV → Nat
  | .sc (.string s) => s.size + 1
  | .imm _ rows => PV.bulkR rows + 1
  | _ => 1
def PV.bulkL : List PV → Nat
  | [] => 0
  | p :: ps => p.bulk + PV.bulkL ps
def PV.bulkR : List (List PV) → Nat
  | [] => 0
  | r :: rs => PV.bulkL r + PV.bulkR rs
end
theorem PV.bulkL_append : ∀ l m : List PV, PV.bulkL (l ++ m) = PV.bulkL l + PV.bulkL m
  | [], m => by simp [PV.bulkL]
  | p :: l, m => by simp only [List.cons_append, PV.bulkL, PV.bulkL_append l m]; omega
theorem List.getElem?_range_some {k i j : Nat} (h : (List.range k)[i]? = some j) : i < k ∧ i = j := by
  have h1 := (List.getElem?_eq_some_iff.1 h).1
  simp at h1
  rw [List.getElem?_range h1] at h
  simp at h
  exact ⟨h1, h⟩
section
variable {H : Type} {enc : TypeId × Value → H} {P : Program} {w : World} {sp : Nat → Bool} {held : Bool}
theorem bulkR_le : ∀ (rows : List (List PV)) (ds : List (DataW H)), rows.length = ds.length → (∀ (i : Nat) (r : List PV), rows[i]? = some r → ∃ d, ds[i]? = some d ∧ PV.bulkL r ≤ Rows.uptoBulk d) → PV.bulkR rows ≤ Rows.uptoBulkAll ds
  | [], _, _, _ => by simp [PV.bulkR]
  | r :: rows, [], h, _ => by simp at h
  | r :: rows, d :: ds, h, hb => by
    have h1 := bulkR_le rows ds (by simpa using h) fun i q hq => by simpa using hb (i + 1) q (by simpa using hq)
    obtain ⟨d', h2, h3⟩ := hb 0 r rfl
    simp at h2; subst h2
    simp only [PV.bulkR, Rows.uptoBulkAll]; omega
theorem parts_rep5 {c : Nat} {cs : List Value} : (l : List (Nat × TypeId)) → (ds : List (DataW H)) → (o : Nat) → inRow P cs.length o l = true →
    (∀ (i : Nat) (p : Nat × TypeId), l[i]? = some p → ∃ d, ds[i]? = some d ∧ ∃ ps, Arg P c p.2 ps ∧ RA w ps ((cs.drop p.1).take (P.cellsOf p.2)) ∧ PV.bulkL ps ≤ Rows.uptoBulk d) →
    ∃ ps, RA w ps (cs.drop o) ∧ (∀ p ∈ l, Arg P c p.2 ((ps.drop (p.1 - o)).take (P.cellsOf p.2))) ∧ PV.bulkL ps ≤ Rows.uptoBulkAll ds
  | [], ds, o, h, _ => by
    simp [inRow] at h
    refine ⟨[], ⟨?_, fun β n => ?_⟩, by simp, by simp [PV.bulkL]⟩
    · rw [List.drop_of_length_le (by omega)]; simp
    · rw [List.drop_of_length_le (by omega)]; simp [RepL]
  | p :: l, [], o, h, hp => by
    obtain ⟨d, hd, _⟩ := hp 0 p rfl
    simp at hd
  | p :: l, d :: ds, o, h, hp => by
    have hle := (inRow_le (p :: l) o h).2 p (by simp)
    simp only [inRow, Bool.and_eq_true, beq_iff_eq] at h
    obtain ⟨ps, h1, h2, h20⟩ := parts_rep5 l ds _ h.2 (fun i q hq => by simpa using hp (i + 1) q (by simpa using hq))
    obtain ⟨d', hd, ps0, h3, h4, h40⟩ := hp 0 p rfl
    simp at hd; subst hd
    have hl2 := (inRow_le l _ h.2).2
    have e0 : p.1 = o := h.1
    have l0 : ps0.length = P.cellsOf p.2 := by rw [h4.len, List.length_take, List.length_drop]; omega
    refine ⟨ps0 ++ ps, ?_, fun q hq => ?_, by rw [PV.bulkL_append]; simp only [Rows.uptoBulkAll]; omega⟩
    · have : cs.drop o = (cs.drop p.1).take (P.cellsOf p.2) ++ cs.drop (o + P.cellsOf p.2) := by
        rw [e0, ← List.drop_drop, List.take_append_drop]
      rw [this]
      exact h4.append h1
    · rcases List.mem_cons.1 hq with rfl | hq
      · rw [e0, Nat.sub_self, List.drop_zero, List.take_append_of_le_length (by omega), List.take_of_length_le (by omega)]
        exact h3
      · have h5 := hl2 q hq
        have : q.1 - o = ps0.length + (q.1 - (o + P.cellsOf p.2)) := by omega
        rw [this, ← List.drop_drop, List.drop_left]
        exact h2 q hq
theorem arg_rec5 {Ts : List TypeId} (hT : covC P Ts = true) : ∀ (fuel : Nat) (t : TypeId), Ts.contains t = true → ∀ (cs : List Value) (x : DataW H × List MemPlace), DataW.trod enc P w 0 sp held fuel t cs = some x → (∀ n ∈ x.1.weights P t, n ≤ reachBytes) →
    ∃ ps, Arg P fuel t ps ∧ RA w ps cs ∧ PV.bulkL ps ≤ Rows.uptoBulk x.1
  | 0, _, _, _, _, hx, _ => by simp [DataW.trod] at hx
  | c + 1, t, ht, cs, x, hx, hw => by
    have h := List.all_eq_true.1 hT t (by simpa using ht)
    split at h
    · rename_i hu
      obtain ⟨b, rfl, rfl⟩ := DataW.trod_bool hu hx
      refine ⟨[.sc (.bool b)], ?_, sc_RA rfl, by simp [PV.bulkL, PV.bulk, Rows.uptoBulk]⟩
      unfold Arg; rw [hu]; exact ⟨b, rfl⟩
    · rename_i k hu
      obtain ⟨n, rfl, rfl, hwf⟩ := DataW.trod_int hu hx
      refine ⟨[.sc (.int k n)], ?_, sc_RA rfl, by simp [PV.bulkL, PV.bulk, Rows.uptoBulk]⟩
      unfold Arg; rw [hu]; exact ⟨n, hwf, rfl⟩
    · rename_i hu
      obtain ⟨s, rfl, rfl, hs⟩ := DataW.trod_string hu hx
      refine ⟨[.sc (.string s)], ?_, sc_RA rfl, by have e : s.data.toList.length = s.size := by { rw [Array.length_toList]; try rfl }; simp only [PV.bulkL, PV.bulk, Rows.uptoBulk]; omega⟩
      unfold Arg; rw [hu]
      refine ⟨s, ?_, rfl⟩
      have := hw s.data.toList.length (by simp [DataW.weights])
      simpa using this
    · rename_i e hu
      simp only [Bool.and_eq_true, decide_eq_true_eq] at h
      obtain ⟨hpos, hcov⟩ := h
      rcases DataW.trod_slice hu hx with ⟨rfl, rfl⟩ | ⟨a, len, cap, elems, rest, n, hfu, rfl, rfl, hb, hl, hm, hlen, hel, hsp, hns⟩
      · refine ⟨[.imm (P.cellsOf e) []], ?_, ⟨fun v hv => ?_, fun β n => ?_⟩, by simp [PV.bulkL, PV.bulk, PV.bulkR, Rows.uptoBulk]⟩
        · unfold Arg; rw [hu]; exact ⟨[], rfl, by simp, by simp, by simp⟩
        · simp at hv; subst hv; rfl
        · simp only [RepL, Rep]
          exact ⟨⟨none, 0, rfl, Nat.le_refl _, Nat.zero_le _, .inl (by trivial)⟩, trivial⟩
      · obtain rfl : c = n := by omega
        have each : ∀ i, i < len → ∃ r : List PV, (r.length = P.cellsOf e ∧ Arg P c e r ∧ ∃ d, (elems.map (·.1))[i]? = some d ∧ PV.bulkL r ≤ Rows.uptoBulk d) ∧ ∃ ci, RA w r ci ∧ ci.length = P.cellsOf e ∧ ∀ j, j < P.cellsOf e → w.cell? ((a.add (i * P.cellsOf e)).add j) = ci[j]? := by
          intro i hi
          have h1 := hel i hi
          have h2 : elems[i]? = some (elems[i]'(by omega)) := List.getElem?_eq_getElem _
          rw [h2, Option.bind_eq_some_iff] at h1
          obtain ⟨ci, h3, h4⟩ := h1
          obtain ⟨_, h5, h6⟩ := World.cells?_some h3
          obtain ⟨r, h7, h8, h80⟩ := arg_rec5 hT c e hcov ci _ h4 (fun m hm => hw m (by
            simp only [DataW.weights, hu, List.mem_cons, List.mem_append]
            exact .inr (.inl (weightsAll_mem (i := i) (by rw [List.getElem?_map, h2]; try rfl) hm))))
          exact ⟨r, ⟨by rw [h8.len, h5], h7, _, by rw [List.getElem?_map, h2]; try rfl, h80⟩, ci, h8, h5, h6⟩
        obtain ⟨rows, hrl, hrows⟩ := exists_list len each
        refine ⟨[.imm (P.cellsOf e) rows], ?_, ⟨fun v hv => ?_, fun β m => ?_⟩, ?_⟩
        · unfold Arg; rw [hu]
          refine ⟨rows, rfl, ?_, by omega, fun r hr => ?_⟩
          · have := hw ((elems.map (·.1)).length * P.bytesOf e + (rest.map (·.1)).length * P.bytesOf e) (by
              simp only [DataW.weights, hu, List.mem_cons, Nat.add_mul, true_or])
            have h9 : rows.length = (elems.map (·.1)).length := by simp [hrl, hlen]
            rw [h9]
            exact Nat.le_trans (Nat.le_add_right _ _) this
          · obtain ⟨i, hi⟩ := List.getElem?_of_mem hr
            exact ⟨(hrows i r hi).1.1, (hrows i r hi).1.2.1⟩
        · simp at hv; subst hv; rfl
        · simp only [RepL, Rep]
          refine ⟨⟨some a, cap, by rw [hrl], by omega, hm, ?_⟩, trivial⟩
          by_cases h0 : len = 0
          · left; exact List.length_eq_zero_iff.1 (by omega)
          · right
            obtain ⟨_, _, c0, _, hc0, hcell0⟩ := each 0 (by omega)
            have h10 := hcell0 0 hpos
            rw [List.getElem?_eq_getElem (by omega)] at h10
            simp only [Nat.zero_mul, Addr.add, if_true] at h10
            have hs : a.spot = none := by
              unfold World.cell? at h10
              split at h10
              · split at h10
                · simp at h10
                · rename_i hsp; simpa using hsp
              · simp at h10
            have hblk : a.block < w.heap.size := by
              unfold World.cell? at h10
              split at h10
              · rename_i hh; exact (Array.getElem?_eq_some_iff.1 hh).1
              · simp at h10
            refine ⟨a.block, a.off, hblk, by cases a; simp only at hs; subst hs; rfl, ?_⟩
            rw [RepR_iff]
            intro i r hr
            obtain ⟨⟨g1, _⟩, ci, g2, g3, g4⟩ := hrows i r hr
            refine ⟨g1, ?_⟩
            rw [RepS_iff]
            intro j p hp
            obtain ⟨v, hv, hrep⟩ := (g2.2 β m).get hp
            have hj : j < P.cellsOf e := by rw [← g3]; exact (List.getElem?_eq_some_iff.1 hv).1
            refine ⟨v, ?_, g2.1 v (List.mem_of_getElem? hv), hrep⟩
            rw [← hv, ← g4 j hj]
            congr 1
            cases a
            simp only at hs; subst hs
            simp only [Addr.add]
            split <;> split <;> simp_all <;> omega
        · have hb5 := bulkR_le rows (elems.map (·.1)) (by simp [hrl, hlen]) fun i r hr => (hrows i r hr).1.2.2
          simp only [PV.bulkL, PV.bulk, Rows.uptoBulk]
          omega
    · rename_i fs hu
      simp only [Bool.and_eq_true, List.all_eq_true] at h
      obtain ⟨xs, n, hfu, rfl, hcl, hxl, hp⟩ := DataW.trod_struct hu hx
      obtain rfl : c = n := by omega
      have hpt : partsT P t = fs.toList.map fun f => (f.offset, f.type) := by unfold partsT; rw [hu]
      obtain ⟨ps, h1, h2, h30⟩ := parts_rep5 (w := w) (c := c) (cs := cs) (partsT P t) (xs.map (·.1)) 0 (by rw [hcl]; exact h.1) (fun i p hi => by
        have hcv := h.2 p (List.mem_of_getElem? hi)
        rw [hpt] at hi
        rw [List.getElem?_map, Option.map_eq_some_iff] at hi
        obtain ⟨f, hf, rfl⟩ := hi
        have hf' : fs[i]? = some f := by simpa using hf
        have hi' : i < xs.length := by
          rw [hxl]
          exact (Array.getElem?_eq_some_iff.1 hf').1
        have h3 := hp i f hf'
        rw [List.getElem?_eq_getElem hi'] at h3
        exact ⟨xs[i].1, by rw [List.getElem?_map, List.getElem?_eq_getElem hi']; try rfl, arg_rec5 hT c f.type hcv _ _ h3 (fun m hm => hw m (by
          simp only [DataW.weights, hu]
          exact DataW.weights_mem_each (j := i) (t := f.type) (d := xs[i].1) (by rw [List.getElem?_map, hf]; try rfl) (by rw [List.getElem?_map, List.getElem?_eq_getElem hi']; try rfl) m hm))⟩)
      refine ⟨ps, ?_, by simpa using h1, by simp only [Rows.uptoBulk]; omega⟩
      unfold Arg; rw [hu]
      exact ⟨by rw [h1.len, List.drop_zero, hcl], fun p hpm => by simpa using h2 p hpm⟩
    · rename_i k e hu
      simp only [Bool.and_eq_true, List.all_eq_true] at h
      obtain ⟨xs, n, hfu, rfl, hcl, hxl, hp⟩ := DataW.trod_array hu hx
      obtain rfl : c = n := by omega
      have hpt : partsT P t = (List.range k).map fun i => (i * P.cellsOf e, e) := by unfold partsT; rw [hu]
      obtain ⟨ps, h1, h2, h30⟩ := parts_rep5 (w := w) (c := c) (cs := cs) (partsT P t) (xs.map (·.1)) 0 (by rw [hcl]; exact h.1) (fun i p hi => by
        have hcv := h.2 p (List.mem_of_getElem? hi)
        rw [hpt, List.getElem?_map, Option.map_eq_some_iff] at hi
        obtain ⟨j, hj, rfl⟩ := hi
        obtain ⟨hjk, rfl⟩ := List.getElem?_range_some hj
        have hi' : i < xs.length := by rw [hxl]; exact hjk
        have h3 := hp i hjk
        rw [List.getElem?_eq_getElem hi'] at h3
        exact ⟨xs[i].1, by rw [List.getElem?_map, List.getElem?_eq_getElem hi']; try rfl, arg_rec5 hT c e hcv _ _ h3 (fun m hm => hw m (by
          simp only [DataW.weights, hu]
          exact weightsAll_mem (i := i) (d := xs[i].1) (by rw [List.getElem?_map, List.getElem?_eq_getElem hi']; try rfl) hm))⟩)
      refine ⟨ps, ?_, by simpa using h1, by simp only [Rows.uptoBulk]; omega⟩
      unfold Arg; rw [hu]
      exact ⟨by rw [h1.len, List.drop_zero, hcl], fun p hpm => by simpa using h2 p hpm⟩
    · simp at h
theorem arg_value5 {Ts : List TypeId} (hT : covC P Ts = true) {t : TypeId} (ht : Ts.contains t = true) {fs : Array Field} (hu : P.underlying t = some (.struct fs)) {v : Value} {d : DataW H} {pl : List MemPlace}
    (h : DataW.Trod enc P w 0 sp held t v d pl) (hv : ∃ base, Value.okWide P w .any base t v) (hw : ∀ n ∈ d.weights P t, n ≤ reachBytes) :
    ∃ c ps, Arg P c t ps ∧ (∀ β n, Rep β n (fun b => b < w.heap.size) w (.agg ps) v) ∧ PV.bulkL ps ≤ Rows.uptoBulk d := by
  obtain ⟨fuel, hf⟩ := h
  obtain ⟨ps, h1, h2, h3⟩ := arg_rec5 hT fuel t ht _ _ hf hw
  obtain ⟨base, hv⟩ := hv
  unfold Value.okWide at hv
  simp only [hu] at hv
  obtain ⟨cs, rfl, _⟩ := hv
  refine ⟨fuel, ps, h1, fun β n => ?_, h3⟩
  simp only [Rep]
  exact ⟨cs.toList, by simp, h2.1, h2.2 β n⟩
end
end Go.AM
namespace Go.AM
mutual
theorem Sx.depth_nodes : ∀ (x : Sx), x.depth ≤ x.nodes
 | .mk kind _ _ _ _ kids => by
  have := Sx.depths_nodes kids 0
  simp only [Sx.depth, Sx.nodes]
  split <;> omega
theorem Sx.depths_nodes : ∀ (l : List Sx) (m : Nat), Sx.depths m l ≤ max m (Sx.nodess l)
 | [], m => by simp [Sx.depths, Sx.nodess]
 | k :: ks, m => by
  have h1 := Sx.depth_nodes k
  have h2 := Sx.depths_nodes ks (max m k.depth)
  simp only [Sx.depths, Sx.nodess]
  omega
end
end Go.AM
namespace Go.Proofs.Ytjlkapgpjamnkaa
open Go.AM
end Go.Proofs.Ytjlkapgpjamnkaa
namespace Go.AM
section
variable {P : Program} {ow : Nat → Bool} {n : Nat} {ops : List Oper} {I K : Slots → Heap → Prop}
theorem lwp_cut : ∀ (l : List Oper) (k : Nat) {s : Slots} {h : Heap}, lwp P ow n ops (l.take k) I s h → (∀ s h, I s h → lwp P ow n ops (l.drop k) K s h) → lwp P ow n ops l K s h
  | [], k, s, h, h1, hk => by
    rw [List.take_nil] at h1
    have := hk s h (by simpa only [lwp] using h1)
    rwa [List.drop_nil] at this
  | o :: rest, 0, s, h, h1, hk => hk s h (by simpa only [lwp, List.take_zero] using h1)
  | o :: rest, k + 1, s, h, h1, hk => by
    rw [List.take_succ_cons] at h1
    simp only [lwp] at h1 ⊢
    refine ⟨h1.1, ?_⟩
    have h3 := h1.2
    clear h1
    cases hw : wantedB ops s o with
    | none => rw [hw] at h3; exact h3
    | some b =>
      rw [hw] at h3
      simp only at h3 ⊢
      split at h3
      · rename_i hb
        rw [if_pos hb]
        exact owp_mono (fun s h hh => lwp_cut rest k hh hk) h3
      · rename_i hb
        rw [if_neg hb]
        exact lwp_cut rest k h3 hk
theorem lwn_cutl : ∀ (l : List Oper) (k : Nat) {s : Slots} {h : Heap}, lwn P ow n ops (l.take k) I s h → (∀ s h, I s h → lwn P ow n ops (l.drop k) K s h) → lwn P ow n ops l K s h
  | [], k, s, h, h1, hk => by
    rw [List.take_nil] at h1
    have := hk s h (by simpa only [lwn] using h1)
    rwa [List.drop_nil] at this
  | o :: rest, 0, s, h, h1, hk => hk s h (by simpa only [lwn, List.take_zero] using h1)
  | o :: rest, k + 1, s, h, h1, hk => by
    rw [List.take_succ_cons] at h1
    simp only [lwn] at h1 ⊢
    refine ⟨h1.1, ?_⟩
    have h3 := h1.2
    clear h1
    cases hw : wantedB ops s o with
    | none => rw [hw] at h3; exact h3
    | some b =>
      rw [hw] at h3
      simp only at h3 ⊢
      split at h3
      · rename_i hb
        rw [if_pos hb]
        cases hc : callee (pev s) o.op with
        | none =>
          rw [hc] at h3
          simp only at h3 ⊢
          cases he : eff P (o.dst.any ow) o.op (pev s) h with
          | none => rw [he] at h3; exact h3
          | some r =>
            rw [he] at h3
            exact lwn_cutl rest k h3 hk
        | some f =>
          rw [hc] at h3
          simp only at h3 ⊢
          exact owp_mono (fun s h hh => lwp_cut rest k hh fun s h hi => lwn_lwp _ _ _ (hk s h hi)) h3
      · rename_i hb
        rw [if_neg hb]
        exact lwn_cutl rest k h3 hk
theorem lwn_cut {l : List Oper} {s : Slots} {h : Heap} (k : Nat) (I : Slots → Heap → Prop) (h1 : lwn P ow n ops (l.take k) I s h) (h2 : ∀ s h, I s h → lwn P ow n ops (l.drop k) K s h) : lwn P ow n ops l K s h := lwn_cutl l k h1 h2
end
end Go.AM
namespace Go.Proofs.Ytjlkapgpjamnkaa
open Go.AM
set_option maxHeartbeats 16000000
set_option maxRecDepth 20000
theorem ne_of_eq {a x y : List UInt8} (h : (a == x) = true) (h2 : (x == y) = false) : (a == y) = false := by rw [eq_of_beq h]; exact h2
def headOk (op name : ByteArray) (args : List ByteArray) (np ne nk : Nat) : Bool :=
 match shapeOf op nk with
 | none => false
 | some (e, m, q) => termsOk op name args && decide (ne = e) && decide (nk = m) && (decide (np = 0) || q)
theorem partsOk_head (op name : ByteArray) (args : List ByteArray) (params : List Pm) (ne nk : Nat) : partsOk op name args params ne nk = (headOk op name args params.length ne nk && params.all pmOk) := by
 unfold partsOk headOk
 have e1 : params.isEmpty = decide (params.length = 0) := by cases params <;> simp
 cases shapeOf op nk with
 | none => rfl
 | some p => obtain ⟨e, m, q⟩ := p; simp only [e1]
theorem drop_get {α : Type} {l : List α} {k : Nat} {x : α} (h : l[k]? = some x) : l.drop k = x :: l.drop (k + 1) := by
 obtain ⟨h1, h2⟩ := List.getElem?_eq_some_iff.1 h
 rw [List.drop_eq_getElem_cons h1, h2]
theorem formedMs_le : ∀ (l : List Ex) (d n : Nat), n ≤ 4096 → (formedMs l d n).1 = true → (formedMs l d n).2 ≤ 4096
 | [], d, n, hn => by simp [formedMs, hn]
 | e :: l, d, n, hn => by
  unfold formedMs
  have h1 := formedM_le e d n
  split
  ·rename_i c he
   rw [he] at h1
   exact formedMs_le l d c (h1 rfl)
  ·simp
mutual
theorem shapedM_le : ∀ (f : Fm) (d n : Nat), (shapedM f d n).1 = true → (shapedM f d n).2 ≤ 4096
 | .mk op name args params exprs kids, d, n => by
  unfold shapedM
  split
  ·rename_i hc
   split
   ·have h1 := formedMs_le exprs (d + 1) (n + 1) hc.1
    split
    ·rename_i c he
     rw [he] at h1
     exact shapedMs_le kids (d + 1) c (h1 rfl)
    ·simp
   ·simp
  ·simp
theorem shapedMs_le : ∀ (l : List Fm) (d n : Nat), n ≤ 4096 → (shapedMs l d n).1 = true → (shapedMs l d n).2 ≤ 4096
 | [], d, n, hn => by simp [shapedMs, hn]
 | k :: l, d, n, hn => by
  unfold shapedMs
  have h1 := shapedM_le k d n
  split
  ·rename_i c he
   rw [he] at h1
   exact shapedMs_le l d c (h1 rfl)
  ·simp
end
theorem shaped_c : ∀ f : Fm, f.ok → ∀ (d n : Nat), d ≤ 33 → n ≤ 4096 → ∀ (id : Nat) (h : Heap), h.obj id = some (cntO n) →
  PCall Try.prog 63 [.agg f.cells, .sc (.int .i64 d), .ptr id 0 0] h fun r h' => r = .sc (.bool (shapedM f d n).1) ∧ h' = h.set id (cntO (shapedM f d n).2) := by
 refine Fm.ind ?_
 intro op name args params exprs kids ih hok d n hd hn id h ho
 simp only [Fm.ok] at hok
 obtain ⟨_, hnm, ⟨hal, hargs⟩, ⟨hpl, hps⟩, ⟨hel, hes⟩, hkl, hks⟩ := hok
 rw [Ex.oks_iff] at hes
 rw [Fm.oks_iff] at hks
 have hnm' : name.size ≤ 9223372036854775807 := by unfold bigN at hnm; omega
 unfold bigN at hpl hel hkl
 have hlA := strRows_len args
 have hlP := pmRows_len params
 have hlE := Ex.rows_len exprs
 have hlK := Fm.rows_len kids
 refine pcall_wf Ty.hb_63 fun hwf => ?_
 have hid : id < h.next := hwf id (by rw [ho]; try rfl)
 refine PCall.quietX Ty.hb_63 ho (by simp [cntO, inNO, inNR, inNL, inN]) ?_
 generalize hF : shapedM (.mk op name args params exprs kids) d n = F
 unfold shapedM at hF
 by_cases hc : n + 1 ≤ 4096 ∧ d ≤ 32
 rotate_left
 ·rw [if_neg hc] at hF
  subst hF
  have hT := take_c (by omega) hn ho (decide_eq_false hc)
  simp only [Fm.cells]
  refine pcall_body (ow := fun _ => false) (wf := fun _ => false) Ty.mixed Try.func63 rfl Ty.hb_63 (by rw [Try.ntmps63]; simp) ?_
  rw [Try.ntmps63, Try.results63]
  repeat' (first | refine a_seq fun K hK => ?_ | (refine a_regionS ?_; simp (maxSteps := 2000000) only [Ty.w, simprocAttr]) | (refine hK _ _ ?_; clear hK; try simp only [pst0, simprocAttr]))
  refine owp_useH (hT) (by (try simp only [Ty.w, simprocAttr, Bool.not_false]); try rfl) ?_; simp (maxSteps := 2000000) only [Ty.w, simprocAttr, Bool.not_false]
  repeat' (first | refine a_seq fun K hK => ?_ | ((first | refine a_regionS ?_ | refine a_ret ?_); simp (maxSteps := 2000000) only [Ty.w, simprocAttr, Bool.not_false]) | (refine hK _ _ ?_; clear hK; try simp only [pst0, simprocAttr]))
  exact (GrowX.refl ho).put
 rw [if_pos hc] at hF
 have hT := take_c (by omega) hn ho (decide_eq_true hc)
 have wd : IntKind.i64.wrap ((d : Int) + 1) = (d : Int) + 1 := by rw [wrap64 (by omega) (by omega)]
 have G1 : GrowX h id (cntO (n + 1)) (h.set id (cntO (n + 1))) := (GrowX.refl ho).put
 have hO1 : (h.set id (cntO (n + 1))).obj id = some (cntO (n + 1)) := by simp [Heap.set]
 have hN1 : (h.set id (cntO (n + 1))).next = h.next := rfl
 have hFf : partsOk op name args params exprs.length kids.length = false → F = (false, n + 1) := fun hp => by rw [← hF, if_neg (by rw [hp]; simp)]
 have hFt : partsOk op name args params exprs.length kids.length = true → F = (match formedMs exprs (d + 1) (n + 1) with
  | (true, c') => shapedMs kids (d + 1) c'
  | (false, c') => (false, c')) := fun hp => by rw [← hF, if_pos hp]; try rfl
 clear hF
 simp only [Fm.cells]
 refine pcall_body (ow := fun _ => false) (wf := fun _ => false) Ty.mixed Try.func63 rfl Ty.hb_63 (by rw [Try.ntmps63]; simp) ?_
 rw [Try.ntmps63, Try.results63]
 repeat' (first | refine a_seq fun K hK => ?_ | (refine a_regionS ?_; simp (maxSteps := 2000000) only [Ty.w, simprocAttr]) | (refine hK _ _ ?_; clear hK; try simp only [pst0, simprocAttr]))
 refine owp_useH (hT) (by (try simp only [Ty.w, simprocAttr, Bool.not_true]); try rfl) ?_; simp (maxSteps := 2000000) only [Ty.w, simprocAttr, Bool.not_true]
 clear hT
 generalize h.set id (cntO (n + 1)) = H1 at G1 hO1 hN1 ⊢
 repeat' (first | (with_reducible refine a_hold 4 ?_) | refine a_seq fun K hK => ?_ | (refine a_regionS ?_; simp (maxSteps := 2000000) only [Ty.w, simprocAttr, Bool.not_true]) | (refine a_skip ?_; try simp only [pst0, simprocAttr]) | (refine a_cond _ (by (try simp (maxSteps := 2000000) only [Ty.w, simprocAttr, Bool.not_true]); rfl) (fun hb => ?_) (fun hb => ?_) <;> (try simp only [hb0, decide_eq_true_eq, decide_eq_false_iff_not, simprocAttr] at hb) <;> (try (exfalso; omega))) | (refine hK _ _ ?_; clear hK; try simp only [pst0, simprocAttr]))
 refine ⟨?_⟩
 refine a_cut (fun S h' => h' = H1 ∧ S 1 = .sc (.int .i64 d) ∧ S 2 = .ptr id 0 0 ∧ S 3 = .cptr (Fm.mk op name args params exprs kids).cells ∧ ∃ (e m : Nat) (q : Bool), shapeOf op kids.length = some (e, m, q) ∧ ((bEq op opAtom || bEq op opSame) = true → termsOk op name args = true) ∧ S 7 = .sc (.int .i64 e) ∧ S 8 = .sc (.bool q) ∧ S 9 = .sc (.int .i64 m)) ?_ ?_
 ·have hfc : ∀ s ∈ args, ∀ h : Heap, PCall Try.prog 105 [sPV s] h fun r h' => r = .sc (.bool (!termB s)) ∧ h' = h := fun s hs h => fclosure2_c (hargs s hs)
  cases k1 : (op.data.toList == (#[97, 116, 111, 109] : Array UInt8).toList) with
  | true =>
   have k2 : (op.data.toList == (#[115, 97, 109, 101] : Array UInt8).toList) = false := ne_of_eq k1 rfl
   cases q1 : nameB name with
   | false =>
    have hp := hFf (by simp [partsOk, shapeOf, termsOk, (show bEq op opAtom = true from k1), q1])
    subst hp
    repeat' (first | refine a_seq fun K hK => ?_ | (refine a_regionS ?_; simp (maxSteps := 2000000) only [Ty.w, simprocAttr, k1, k2]) | (refine a_skip ?_; try simp only [pst0, simprocAttr]) | (refine a_cond _ (by (try simp (maxSteps := 2000000) only [Ty.w, simprocAttr, k1, k2]); rfl) (fun hb => ?_) (fun hb => ?_) <;> (try simp only [hb0, decide_eq_true_eq, decide_eq_false_iff_not, simprocAttr] at hb) <;> (try (exfalso; omega))) | (refine hK _ _ ?_; clear hK; try simp only [pst0, simprocAttr]))
    refine owp_useQ (fname_c (s := name) hnm') (by (try simp only [Ty.w, simprocAttr, k1, k2, q1]); try rfl) ?_; simp (maxSteps := 2000000) only [Ty.w, simprocAttr, k1, k2, q1]
    repeat' (first | refine a_seq fun K hK => ?_ | ((first | refine a_regionS ?_ | refine a_ret ?_); simp (maxSteps := 2000000) only [Ty.w, simprocAttr, k1, k2, q1, Bool.not_false]) | (refine hK _ _ ?_; clear hK; try simp only [pst0, simprocAttr]))
    all_goals first | exact G1 | exact ⟨rfl, G1⟩
   | true =>
    cases q2 : args.all termB with
    | false =>
     have hp := hFf (by simp [partsOk, shapeOf, termsOk, (show bEq op opAtom = true from k1), q1, q2])
     subst hp
     repeat' (first | refine a_seq fun K hK => ?_ | (refine a_regionS ?_; simp (maxSteps := 2000000) only [Ty.w, simprocAttr, k1, k2]) | (refine a_skip ?_; try simp only [pst0, simprocAttr]) | (refine a_cond _ (by (try simp (maxSteps := 2000000) only [Ty.w, simprocAttr, k1, k2]); rfl) (fun hb => ?_) (fun hb => ?_) <;> (try simp only [hb0, decide_eq_true_eq, decide_eq_false_iff_not, simprocAttr] at hb) <;> (try (exfalso; omega))) | (refine hK _ _ ?_; clear hK; try simp only [pst0, simprocAttr]))
     refine owp_useQ (fname_c (s := name) hnm') (by (try simp only [Ty.w, simprocAttr, k1, k2, q1]); try rfl) ?_; simp (maxSteps := 2000000) only [Ty.w, simprocAttr, k1, k2, q1]
     skip
     refine owp_useQ (containsFunc_c hal hfc) (by (try simp only [Ty.w, simprocAttr, k1, k2, q1, q2]); try rfl) ?_; simp (maxSteps := 2000000) only [Ty.w, simprocAttr, k1, k2, q1, q2]
     repeat' (first | refine a_seq fun K hK => ?_ | ((first | refine a_regionS ?_ | refine a_ret ?_); simp (maxSteps := 2000000) only [Ty.w, simprocAttr, k1, k2, q1, q2, Bool.not_false, Bool.not_true]) | (refine hK _ _ ?_; clear hK; try simp only [pst0, simprocAttr]))
     all_goals first | exact G1 | exact ⟨rfl, G1⟩
    | true =>
     repeat' (first | refine a_seq fun K hK => ?_ | (refine a_regionS ?_; simp (maxSteps := 2000000) only [Ty.w, simprocAttr, k1, k2]) | (refine a_skip ?_; try simp only [pst0, simprocAttr]) | (refine a_cond _ (by (try simp (maxSteps := 2000000) only [Ty.w, simprocAttr, k1, k2]); rfl) (fun hb => ?_) (fun hb => ?_) <;> (try simp only [hb0, decide_eq_true_eq, decide_eq_false_iff_not, simprocAttr] at hb) <;> (try (exfalso; omega))) | (refine hK _ _ ?_; clear hK; try simp only [pst0, simprocAttr]))
     refine owp_useQ (fname_c (s := name) hnm') (by (try simp only [Ty.w, simprocAttr, k1, k2, q1]); try rfl) ?_; simp (maxSteps := 2000000) only [Ty.w, simprocAttr, k1, k2, q1]
     skip
     refine owp_useQ (containsFunc_c hal hfc) (by (try simp only [Ty.w, simprocAttr, k1, k2, q1, q2]); try rfl) ?_; simp (maxSteps := 2000000) only [Ty.w, simprocAttr, k1, k2, q1, q2]
     repeat' (first | (refine a_block ?_) | (refine a_skip ?_; try simp only [pst0, simprocAttr]) | (refine hK _ _ ?_; clear hK; try simp only [pst0, simprocAttr]))
     simp (maxSteps := 2000000) only [Ty.w, simprocAttr, Ty.all, Fm.cells]
     exact ⟨0, 0, false, by simp [shapeOf, (show bEq op opAtom = true from k1)], fun _ => by simp [termsOk, (show bEq op opAtom = true from k1), q1, q2], rfl, rfl, rfl⟩
  | false =>
   cases k2 : (op.data.toList == (#[115, 97, 109, 101] : Array UInt8).toList) with
   | true =>
    cases q1 : (name.data.toList == (#[] : Array UInt8).toList) with
    | false =>
     have hp := hFf (by simp [partsOk, shapeOf, termsOk, (show bEq op opAtom = false from k1), (show bEq op opSame = true from k2), (show emptyB name = false from q1)])
     subst hp
     repeat' (first | refine a_seq fun K hK => ?_ | ((first | refine a_regionS ?_ | refine a_ret ?_); simp (maxSteps := 2000000) only [Ty.w, simprocAttr, k1, k2, q1, Bool.not_false]) | (refine a_cond _ (by (try simp (maxSteps := 2000000) only [Ty.w, simprocAttr, k1, k2, q1, Bool.not_false]); rfl) (fun hb => ?_) (fun hb => ?_) <;> (try simp only [hb0, decide_eq_true_eq, decide_eq_false_iff_not, simprocAttr] at hb) <;> (try (exfalso; omega))) | (refine hK _ _ ?_; clear hK; try simp only [pst0, simprocAttr]))
     all_goals first | exact G1 | exact ⟨rfl, G1⟩
    | true =>
     cases q2 : ((args.length : Int) == 2) with
     | false =>
      have hp := hFf (by simp [partsOk, shapeOf, termsOk, (show bEq op opAtom = false from k1), (show bEq op opSame = true from k2), (show emptyB name = true from q1), (show ¬ args.length = 2 by simp at q2; omega)])
      subst hp
      have q2p := eq_false (ne_of_beq_false q2)
      have q2i : ¬ args.length = 2 := by have := ne_of_beq_false q2; omega
      repeat' (first | refine a_seq fun K hK => ?_ | ((first | refine a_regionS ?_ | refine a_ret ?_); simp (maxSteps := 2000000) only [Ty.w, simprocAttr, k1, k2, q1, q2, q2p, hlA, Bool.not_true, Bool.not_false, not_false_eq_true, not_true_eq_false, if_true, if_false]) | (refine a_cond _ (by (try simp (maxSteps := 2000000) only [Ty.w, simprocAttr, k1, k2, q1, q2, q2p, hlA, Bool.not_true, Bool.not_false, not_false_eq_true, not_true_eq_false, if_true, if_false]); rfl) (fun hb => ?_) (fun hb => ?_) <;> (try simp only [hb0, decide_eq_true_eq, decide_eq_false_iff_not, simprocAttr] at hb) <;> (try (exfalso; omega))) | (with_reducible refine ite_in (fun hb => ?_) (fun hb => ?_) <;> (try simp only [Decidable.not_not] at hb) <;> (try simp only [hb, if_true, if_false, not_false_eq_true, not_true_eq_false, ↓reduceIte]) <;> (try simp only [hb0, decide_eq_true_eq, decide_eq_false_iff_not, simprocAttr] at hb) <;> (try (exfalso; omega))) | (refine hK _ _ ?_; clear hK; try simp only [pst0, simprocAttr]))
      all_goals first | exact G1 | exact ⟨rfl, G1⟩
     | true =>
      cases q3 : args.all termB with
      | false =>
       have hp := hFf (by simp [partsOk, shapeOf, termsOk, (show bEq op opAtom = false from k1), (show bEq op opSame = true from k2), (show emptyB name = true from q1), (show args.length = 2 by simp at q2; omega), q3])
       subst hp
       have q2p := eq_true (eq_of_beq q2)
       have q2i : args.length = 2 := by have := eq_of_beq q2; omega
       repeat' (first | refine a_seq fun K hK => ?_ | (refine a_regionS ?_; simp (maxSteps := 2000000) only [Ty.w, simprocAttr, k1, k2, q1, q2, q2p, hlA, Bool.not_true, not_false_eq_true, not_true_eq_false, if_true, if_false]) | (refine a_cond _ (by (try simp (maxSteps := 2000000) only [Ty.w, simprocAttr, k1, k2, q1, q2, q2p, hlA, Bool.not_true, not_false_eq_true, not_true_eq_false, if_true, if_false]); rfl) (fun hb => ?_) (fun hb => ?_) <;> (try simp only [hb0, decide_eq_true_eq, decide_eq_false_iff_not, simprocAttr] at hb) <;> (try (exfalso; omega))) | (with_reducible refine ite_in (fun hb => ?_) (fun hb => ?_) <;> (try simp only [Decidable.not_not] at hb) <;> (try simp only [hb, if_true, if_false, not_false_eq_true, not_true_eq_false, ↓reduceIte]) <;> (try simp only [hb0, decide_eq_true_eq, decide_eq_false_iff_not, simprocAttr] at hb) <;> (try (exfalso; omega))) | (refine hK _ _ ?_; clear hK; try simp only [pst0, simprocAttr]))
       refine owp_useQ (containsFunc_c hal hfc) (by (try simp only [Ty.w, simprocAttr, k1, k2, q1, q2, q3]); try rfl) ?_; simp (maxSteps := 2000000) only [Ty.w, simprocAttr, k1, k2, q1, q2, q3]
       repeat' (first | refine a_seq fun K hK => ?_ | ((first | refine a_regionS ?_ | refine a_ret ?_); simp (maxSteps := 2000000) only [Ty.w, simprocAttr, k1, k2, q1, q2, q2p, q3, Bool.not_false, Bool.not_true, not_false_eq_true, not_true_eq_false, if_true, if_false]) | (refine hK _ _ ?_; clear hK; try simp only [pst0, simprocAttr]))
       all_goals first | exact G1 | exact ⟨rfl, G1⟩
      | true =>
       have q2p := eq_true (eq_of_beq q2)
       have q2i : args.length = 2 := by have := eq_of_beq q2; omega
       repeat' (first | refine a_seq fun K hK => ?_ | (refine a_regionS ?_; simp (maxSteps := 2000000) only [Ty.w, simprocAttr, k1, k2, q1, q2, q2p, hlA, Bool.not_true, not_false_eq_true, not_true_eq_false, if_true, if_false]) | (refine a_cond _ (by (try simp (maxSteps := 2000000) only [Ty.w, simprocAttr, k1, k2, q1, q2, q2p, hlA, Bool.not_true, not_false_eq_true, not_true_eq_false, if_true, if_false]); rfl) (fun hb => ?_) (fun hb => ?_) <;> (try simp only [hb0, decide_eq_true_eq, decide_eq_false_iff_not, simprocAttr] at hb) <;> (try (exfalso; omega))) | (with_reducible refine ite_in (fun hb => ?_) (fun hb => ?_) <;> (try simp only [Decidable.not_not] at hb) <;> (try simp only [hb, if_true, if_false, not_false_eq_true, not_true_eq_false, ↓reduceIte]) <;> (try simp only [hb0, decide_eq_true_eq, decide_eq_false_iff_not, simprocAttr] at hb) <;> (try (exfalso; omega))) | (refine hK _ _ ?_; clear hK; try simp only [pst0, simprocAttr]))
       refine owp_useQ (containsFunc_c hal hfc) (by (try simp only [Ty.w, simprocAttr, k1, k2, q1, q2, q3]); try rfl) ?_; simp (maxSteps := 2000000) only [Ty.w, simprocAttr, k1, k2, q1, q2, q3]
       repeat' (first | (refine a_block ?_) | (refine a_skip ?_; try simp only [pst0, simprocAttr]) | (refine hK _ _ ?_; clear hK; try simp only [pst0, simprocAttr]))
       simp (maxSteps := 2000000) only [Ty.w, simprocAttr, Ty.all, Fm.cells]
       exact ⟨0, 0, false, by simp [shapeOf, (show bEq op opAtom = false from k1), (show bEq op opSame = true from k2)], fun _ => by simp [termsOk, (show bEq op opAtom = false from k1), (show bEq op opSame = true from k2), (show emptyB name = true from q1), (show args.length = 2 by simp at q2; omega), q3], rfl, rfl, rfl⟩
   | false =>
    cases k3 : (op.data.toList == (#[60] : Array UInt8).toList) with
    | true =>
     repeat' (first | refine a_seq fun K hK => ?_ | (refine a_block ?_) | ((first | refine a_regionS ?_ | refine a_region (fun K hK => ?_)); simp (maxSteps := 2000000) only [Ty.w, simprocAttr, k1, k2, k3, hlK]) | (refine a_skip ?_; try simp only [pst0, simprocAttr]) | (refine a_cond _ (by (try simp (maxSteps := 2000000) only [Ty.w, simprocAttr, k1, k2, k3, hlK]); rfl) (fun hb => ?_) (fun hb => ?_) <;> (try simp only [hb0, decide_eq_true_eq, decide_eq_false_iff_not, simprocAttr] at hb) <;> (try (exfalso; omega))) | (refine hK _ _ ?_; clear hK; try simp only [pst0, simprocAttr]))
     simp (maxSteps := 2000000) only [Ty.w, simprocAttr, Ty.all, Fm.cells]
     exact ⟨2, 0, false, by simp [shapeOf, (show bEq op opAtom = false from k1), (show bEq op opSame = false from k2), (show bEq op opLt = true from k3)], fun hh => by simp [(show bEq op opAtom = false from k1), (show bEq op opSame = false from k2)] at hh, rfl, rfl, rfl⟩
    | false =>
     cases k4 : (op.data.toList == (#[60, 61] : Array UInt8).toList) with
     | true =>
      repeat' (first | refine a_seq fun K hK => ?_ | (refine a_block ?_) | ((first | refine a_regionS ?_ | refine a_region (fun K hK => ?_)); simp (maxSteps := 2000000) only [Ty.w, simprocAttr, k1, k2, k3, k4, hlK]) | (refine a_skip ?_; try simp only [pst0, simprocAttr]) | (refine a_cond _ (by (try simp (maxSteps := 2000000) only [Ty.w, simprocAttr, k1, k2, k3, k4, hlK]); rfl) (fun hb => ?_) (fun hb => ?_) <;> (try simp only [hb0, decide_eq_true_eq, decide_eq_false_iff_not, simprocAttr] at hb) <;> (try (exfalso; omega))) | (refine hK _ _ ?_; clear hK; try simp only [pst0, simprocAttr]))
      simp (maxSteps := 2000000) only [Ty.w, simprocAttr, Ty.all, Fm.cells]
      exact ⟨2, 0, false, by simp [shapeOf, (show bEq op opAtom = false from k1), (show bEq op opSame = false from k2), (show bEq op opLt = false from k3), (show bEq op opLe = true from k4)], fun hh => by simp [(show bEq op opAtom = false from k1), (show bEq op opSame = false from k2)] at hh, rfl, rfl, rfl⟩
     | false =>
      cases k5 : (op.data.toList == (#[61] : Array UInt8).toList) with
      | true =>
       repeat' (first | refine a_seq fun K hK => ?_ | (refine a_block ?_) | ((first | refine a_regionS ?_ | refine a_region (fun K hK => ?_)); simp (maxSteps := 2000000) only [Ty.w, simprocAttr, k1, k2, k3, k4, k5, hlK]) | (refine a_cond _ (by (try simp (maxSteps := 2000000) only [Ty.w, simprocAttr, k1, k2, k3, k4, k5, hlK]); rfl) (fun hb => ?_) (fun hb => ?_) <;> (try simp only [hb0, decide_eq_true_eq, decide_eq_false_iff_not, simprocAttr] at hb) <;> (try (exfalso; omega))) | (refine hK _ _ ?_; clear hK; try simp only [pst0, simprocAttr]))
       simp (maxSteps := 2000000) only [Ty.w, simprocAttr, Ty.all, Fm.cells]
       exact ⟨2, 0, false, by simp [shapeOf, (show bEq op opAtom = false from k1), (show bEq op opSame = false from k2), (show bEq op opLt = false from k3), (show bEq op opLe = false from k4), (show bEq op opEq = true from k5)], fun hh => by simp [(show bEq op opAtom = false from k1), (show bEq op opSame = false from k2)] at hh, rfl, rfl, rfl⟩
      | false =>
       cases k6 : (op.data.toList == (#[97, 110, 100] : Array UInt8).toList) with
       | true =>
        repeat' (first | refine a_seq fun K hK => ?_ | (refine a_block ?_) | ((first | refine a_regionS ?_ | refine a_region (fun K hK => ?_)); simp (maxSteps := 2000000) only [Ty.w, simprocAttr, k1, k2, k3, k4, k5, k6, hlK]) | (refine a_skip ?_; try simp only [pst0, simprocAttr]) | (refine a_cond _ (by (try simp (maxSteps := 2000000) only [Ty.w, simprocAttr, k1, k2, k3, k4, k5, k6, hlK]); rfl) (fun hb => ?_) (fun hb => ?_) <;> (try simp only [hb0, decide_eq_true_eq, decide_eq_false_iff_not, simprocAttr] at hb) <;> (try (exfalso; omega))) | (refine hK _ _ ?_; clear hK; try simp only [pst0, simprocAttr]))
        simp (maxSteps := 2000000) only [Ty.w, simprocAttr, Ty.all, Fm.cells]
        exact ⟨0, kids.length, false, by simp [shapeOf, (show bEq op opAtom = false from k1), (show bEq op opSame = false from k2), (show bEq op opLt = false from k3), (show bEq op opLe = false from k4), (show bEq op opEq = false from k5), (show bEq op opAnd = true from k6)], fun hh => by simp [(show bEq op opAtom = false from k1), (show bEq op opSame = false from k2)] at hh, rfl, rfl, rfl⟩
       | false =>
        cases k7 : (op.data.toList == (#[111, 114] : Array UInt8).toList) with
        | true =>
         repeat' (first | refine a_seq fun K hK => ?_ | (refine a_block ?_) | ((first | refine a_regionS ?_ | refine a_region (fun K hK => ?_)); simp (maxSteps := 2000000) only [Ty.w, simprocAttr, k1, k2, k3, k4, k5, k6, k7, hlK]) | (refine a_cond _ (by (try simp (maxSteps := 2000000) only [Ty.w, simprocAttr, k1, k2, k3, k4, k5, k6, k7, hlK]); rfl) (fun hb => ?_) (fun hb => ?_) <;> (try simp only [hb0, decide_eq_true_eq, decide_eq_false_iff_not, simprocAttr] at hb) <;> (try (exfalso; omega))) | (refine hK _ _ ?_; clear hK; try simp only [pst0, simprocAttr]))
         simp (maxSteps := 2000000) only [Ty.w, simprocAttr, Ty.all, Fm.cells]
         exact ⟨0, kids.length, false, by simp [shapeOf, (show bEq op opAtom = false from k1), (show bEq op opSame = false from k2), (show bEq op opLt = false from k3), (show bEq op opLe = false from k4), (show bEq op opEq = false from k5), (show bEq op opAnd = false from k6), (show bEq op opOr = true from k7)], fun hh => by simp [(show bEq op opAtom = false from k1), (show bEq op opSame = false from k2)] at hh, rfl, rfl, rfl⟩
        | false =>
         cases k8 : (op.data.toList == (#[110, 111, 116] : Array UInt8).toList) with
         | true =>
          repeat' (first | refine a_seq fun K hK => ?_ | (refine a_block ?_) | ((first | refine a_regionS ?_ | refine a_region (fun K hK => ?_)); simp (maxSteps := 2000000) only [Ty.w, simprocAttr, k1, k2, k3, k4, k5, k6, k7, k8, hlK]) | (refine a_cond _ (by (try simp (maxSteps := 2000000) only [Ty.w, simprocAttr, k1, k2, k3, k4, k5, k6, k7, k8, hlK]); rfl) (fun hb => ?_) (fun hb => ?_) <;> (try simp only [hb0, decide_eq_true_eq, decide_eq_false_iff_not, simprocAttr] at hb) <;> (try (exfalso; omega))) | (refine hK _ _ ?_; clear hK; try simp only [pst0, simprocAttr]))
          simp (maxSteps := 2000000) only [Ty.w, simprocAttr, Ty.all, Fm.cells]
          exact ⟨0, 1, false, by simp [shapeOf, (show bEq op opAtom = false from k1), (show bEq op opSame = false from k2), (show bEq op opLt = false from k3), (show bEq op opLe = false from k4), (show bEq op opEq = false from k5), (show bEq op opAnd = false from k6), (show bEq op opOr = false from k7), (show bEq op opNot = true from k8)], fun hh => by simp [(show bEq op opAtom = false from k1), (show bEq op opSame = false from k2)] at hh, rfl, rfl, rfl⟩
         | false =>
          cases k9 : (op.data.toList == (#[105, 109, 112, 108, 121] : Array UInt8).toList) with
          | true =>
           repeat' (first | refine a_seq fun K hK => ?_ | (refine a_block ?_) | ((first | refine a_regionS ?_ | refine a_region (fun K hK => ?_)); simp (maxSteps := 2000000) only [Ty.w, simprocAttr, k1, k2, k3, k4, k5, k6, k7, k8, k9, hlK]) | (refine a_cond _ (by (try simp (maxSteps := 2000000) only [Ty.w, simprocAttr, k1, k2, k3, k4, k5, k6, k7, k8, k9, hlK]); rfl) (fun hb => ?_) (fun hb => ?_) <;> (try simp only [hb0, decide_eq_true_eq, decide_eq_false_iff_not, simprocAttr] at hb) <;> (try (exfalso; omega))) | (refine hK _ _ ?_; clear hK; try simp only [pst0, simprocAttr]))
           simp (maxSteps := 2000000) only [Ty.w, simprocAttr, Ty.all, Fm.cells]
           exact ⟨0, 2, false, by simp [shapeOf, (show bEq op opAtom = false from k1), (show bEq op opSame = false from k2), (show bEq op opLt = false from k3), (show bEq op opLe = false from k4), (show bEq op opEq = false from k5), (show bEq op opAnd = false from k6), (show bEq op opOr = false from k7), (show bEq op opNot = false from k8), (show bEq op opImp = true from k9)], fun hh => by simp [(show bEq op opAtom = false from k1), (show bEq op opSame = false from k2)] at hh, rfl, rfl, rfl⟩
          | false =>
           cases k10 : (op.data.toList == (#[102, 111, 114, 97, 108, 108] : Array UInt8).toList) with
           | true =>
            repeat' (first | refine a_seq fun K hK => ?_ | (refine a_block ?_) | ((first | refine a_regionS ?_ | refine a_region (fun K hK => ?_)); simp (maxSteps := 2000000) only [Ty.w, simprocAttr, k1, k2, k3, k4, k5, k6, k7, k8, k9, k10, hlK]) | (refine a_skip ?_; try simp only [pst0, simprocAttr]) | (refine a_cond _ (by (try simp (maxSteps := 2000000) only [Ty.w, simprocAttr, k1, k2, k3, k4, k5, k6, k7, k8, k9, k10, hlK]); rfl) (fun hb => ?_) (fun hb => ?_) <;> (try simp only [hb0, decide_eq_true_eq, decide_eq_false_iff_not, simprocAttr] at hb) <;> (try (exfalso; omega))) | (refine hK _ _ ?_; clear hK; try simp only [pst0, simprocAttr]))
            simp (maxSteps := 2000000) only [Ty.w, simprocAttr, Ty.all, Fm.cells]
            exact ⟨0, 1, true, by simp [shapeOf, (show bEq op opAtom = false from k1), (show bEq op opSame = false from k2), (show bEq op opLt = false from k3), (show bEq op opLe = false from k4), (show bEq op opEq = false from k5), (show bEq op opAnd = false from k6), (show bEq op opOr = false from k7), (show bEq op opNot = false from k8), (show bEq op opImp = false from k9), (show bEq op opAll = true from k10)], fun hh => by simp [(show bEq op opAtom = false from k1), (show bEq op opSame = false from k2)] at hh, rfl, rfl, rfl⟩
           | false =>
            cases k11 : (op.data.toList == (#[101, 120, 105, 115, 116, 115] : Array UInt8).toList) with
            | true =>
             repeat' (first | refine a_seq fun K hK => ?_ | (refine a_block ?_) | ((first | refine a_regionS ?_ | refine a_region (fun K hK => ?_)); simp (maxSteps := 2000000) only [Ty.w, simprocAttr, k1, k2, k3, k4, k5, k6, k7, k8, k9, k10, k11, hlK]) | (refine a_cond _ (by (try simp (maxSteps := 2000000) only [Ty.w, simprocAttr, k1, k2, k3, k4, k5, k6, k7, k8, k9, k10, k11, hlK]); rfl) (fun hb => ?_) (fun hb => ?_) <;> (try simp only [hb0, decide_eq_true_eq, decide_eq_false_iff_not, simprocAttr] at hb) <;> (try (exfalso; omega))) | (refine hK _ _ ?_; clear hK; try simp only [pst0, simprocAttr]))
             simp (maxSteps := 2000000) only [Ty.w, simprocAttr, Ty.all, Fm.cells]
             exact ⟨0, 1, true, by simp [shapeOf, (show bEq op opAtom = false from k1), (show bEq op opSame = false from k2), (show bEq op opLt = false from k3), (show bEq op opLe = false from k4), (show bEq op opEq = false from k5), (show bEq op opAnd = false from k6), (show bEq op opOr = false from k7), (show bEq op opNot = false from k8), (show bEq op opImp = false from k9), (show bEq op opAll = false from k10), (show bEq op opSome = true from k11)], fun hh => by simp [(show bEq op opAtom = false from k1), (show bEq op opSame = false from k2)] at hh, rfl, rfl, rfl⟩
            | false =>
             have hp := hFf (by simp [partsOk, shapeOf, termsOk, (show bEq op opAtom = false from k1), (show bEq op opSame = false from k2), (show bEq op opLt = false from k3), (show bEq op opLe = false from k4), (show bEq op opEq = false from k5), (show bEq op opAnd = false from k6), (show bEq op opOr = false from k7), (show bEq op opNot = false from k8), (show bEq op opImp = false from k9), (show bEq op opAll = false from k10), (show bEq op opSome = false from k11)])
             subst hp
             repeat' (first | refine a_seq fun K hK => ?_ | ((first | refine a_regionS ?_ | refine a_ret ?_); simp (maxSteps := 2000000) only [Ty.w, simprocAttr, k1, k2, k3, k4, k5, k6, k7, k8, k9, k10, k11]) | (refine a_cond _ (by (try simp (maxSteps := 2000000) only [Ty.w, simprocAttr, k1, k2, k3, k4, k5, k6, k7, k8, k9, k10, k11]); rfl) (fun hb => ?_) (fun hb => ?_) <;> (try simp only [hb0, decide_eq_true_eq, decide_eq_false_iff_not, simprocAttr] at hb) <;> (try (exfalso; omega))) | (refine hK _ _ ?_; clear hK; try simp only [pst0, simprocAttr]))
             all_goals first | exact G1 | exact ⟨rfl, G1⟩
 ·rintro S h' ⟨rfl, g1, g2, g3, e, m, q, hs, ht, g7, g8, g9⟩
  simp only [Fm.cells] at g3
  have hO : headOk op name args params.length exprs.length kids.length = (termsOk op name args && decide (exprs.length = e) && decide (kids.length = m) && (decide (params.length = 0) || q)) := by unfold headOk; rw [hs]
  repeat' (with_reducible refine a_hold 24 ?_)
  refine ⟨?_⟩
  refine a_cut (fun S h2 => h2 = h' ∧ S 1 = .sc (.int .i64 d) ∧ S 2 = .ptr id 0 0 ∧ S 3 = .cptr (Fm.mk op name args params exprs kids).cells ∧ headOk op name args params.length exprs.length kids.length = true) ?_ ?_
  ·have hFh : headOk op name args params.length exprs.length kids.length = false → F = (false, n + 1) := fun hh => hFf (by rw [partsOk_head, hh]; try rfl)
   have tA : bEq op opAtom = (op.data.toList == (#[97, 116, 111, 109] : Array UInt8).toList) := rfl
   have tS : bEq op opSame = (op.data.toList == (#[115, 97, 109, 101] : Array UInt8).toList) := rfl
   clear hFf hFt ih hs
   refine a_seq (fun K hK => ?_)
   refine a_regionS (lwn_cut 20 (fun S h2 => h2 = h' ∧ S 1 = .sc (.int .i64 d) ∧ S 2 = .ptr id 0 0 ∧ S 3 = .cptr (Fm.mk op name args params exprs kids).cells ∧ S 7 = .sc (.int .i64 e) ∧ S 8 = .sc (.bool q) ∧ S 9 = .sc (.int .i64 m) ∧ ∃ b, S 91 = .sc (.bool b) ∧ (b = true → F = (false, n + 1)) ∧ (b = false → termsOk op name args = true)) ?_ ?_)
   ·cases k1 : (op.data.toList == (#[97, 116, 111, 109] : Array UInt8).toList) with
    | true =>
     simp (maxSteps := 2000000) only [Ty.w, simprocAttr, Ty.all, g1, g2, g3, g7, g8, g9, hlA, k1, Bool.not_true, Bool.not_false, Fm.cells]
     exact ⟨false, rfl, fun hh => absurd hh (by simp), fun _ => ht (by rw [tA, k1]; try rfl)⟩
    | false =>
     cases k2 : (op.data.toList == (#[115, 97, 109, 101] : Array UInt8).toList) with
     | true =>
      simp (maxSteps := 2000000) only [Ty.w, simprocAttr, Ty.all, g1, g2, g3, g7, g8, g9, hlA, k1, k2, Bool.not_true, Bool.not_false, Fm.cells]
      exact ⟨false, rfl, fun hh => absurd hh (by simp), fun _ => ht (by rw [tS, k2]; simp)⟩
     | false =>
      cases q1 : (name.data.toList == (#[] : Array UInt8).toList) with
      | false =>
       simp (maxSteps := 2000000) only [Ty.w, simprocAttr, Ty.all, g1, g2, g3, g7, g8, g9, hlA, k1, k2, q1, Bool.not_true, Bool.not_false, Fm.cells]
       exact ⟨true, rfl, fun _ => hFh (by rw [hO]; simp [termsOk, tA, tS, k1, k2, (show emptyB name = false from q1)]), fun hh => absurd hh (by simp)⟩
      | true =>
       cases q2 : decide ((args.length : Int) > 0) with
       | true =>
        simp (maxSteps := 2000000) only [Ty.w, simprocAttr, Ty.all, g1, g2, g3, g7, g8, g9, hlA, k1, k2, q1, q2, Bool.not_true, Bool.not_false, Fm.cells]
        exact ⟨true, rfl, fun _ => hFh (by rw [hO]; cases args with | nil => simp at q2 | cons a l => simp [termsOk, tA, tS, k1, k2]), fun hh => absurd hh (by simp)⟩
       | false =>
        simp (maxSteps := 2000000) only [Ty.w, simprocAttr, Ty.all, g1, g2, g3, g7, g8, g9, hlA, k1, k2, q1, q2, Bool.not_true, Bool.not_false, Fm.cells]
        exact ⟨false, rfl, fun hh => absurd hh (by simp), fun _ => by cases args with | nil => simp [termsOk, tA, tS, k1, k2, (show emptyB name = true from q1)] | cons a l => simp at q2⟩
   ·clear g1 g2 g3 g7 g8 g9
    rintro S h2 ⟨rfl, g1, g2, g3, g7, g8, g9, b, g91, hbt, hbf⟩
    simp only [Fm.cells] at g3
    clear ht tA tS
    cases b with
    | true =>
     have hp := hbt rfl
     subst hp
     simp (maxSteps := 2000000) only [Ty.w, simprocAttr, Ty.all, g1, g2, g3, g91, Bool.not_true, Bool.not_false]
     repeat' (first | refine a_seq fun K hK => ?_ | ((first | refine a_regionS ?_ | refine a_ret ?_); simp (maxSteps := 2000000) only [Ty.w, simprocAttr, g1, g2, g3, g91]) | (refine hK _ _ ?_; clear hK; try simp only [pst0, simprocAttr]))
     all_goals first | exact G1 | exact ⟨rfl, G1⟩
    | false =>
     have hts := hbf rfl
     clear hbt hbf
     cases c1 : ((exprs.length : Int) == (e : Int)) with
     | false =>
      have hp := hFh (by rw [hO]; simp [(show ¬ exprs.length = e by simp at c1; omega)])
      subst hp
      have c1p := eq_false (ne_of_beq_false c1)
      have c1i : ¬ exprs.length = e := by have := ne_of_beq_false c1; omega
      simp (maxSteps := 2000000) only [Ty.w, simprocAttr, Ty.all, g1, g2, g3, g7, g8, g9, hlA, hlP, hlE, hlK, g91, c1, c1p, Bool.not_true, Bool.not_false, not_false_eq_true, not_true_eq_false, if_true, if_false]
      repeat' (first | refine a_seq fun K hK => ?_ | ((first | refine a_regionS ?_ | refine a_ret ?_); simp (maxSteps := 2000000) only [Ty.w, simprocAttr, g1, g2, g3, g7, g8, g9, hlA, hlP, hlE, hlK, g91, c1, c1p, Bool.not_true, Bool.not_false, not_false_eq_true, not_true_eq_false, if_true, if_false]) | (with_reducible refine ite_in (fun hb => ?_) (fun hb => ?_) <;> (try simp only [Decidable.not_not] at hb) <;> (try simp only [hb, if_true, if_false, not_false_eq_true, not_true_eq_false, ↓reduceIte]) <;> (try simp only [hb0, decide_eq_true_eq, decide_eq_false_iff_not, simprocAttr] at hb) <;> (try (exfalso; omega))) | (refine hK _ _ ?_; clear hK; try simp only [pst0, simprocAttr]))
      all_goals first | exact G1 | exact ⟨rfl, G1⟩
     | true =>
      have c1p := eq_true (eq_of_beq c1)
      have c1i : exprs.length = e := by have := eq_of_beq c1; omega
      cases c2 : ((kids.length : Int) == (m : Int)) with
      | false =>
       have c2p := eq_false (ne_of_beq_false c2)
       have c2i : ¬ kids.length = m := by have := ne_of_beq_false c2; omega
       have hp := hFh (by rw [hO]; simp [(show ¬ kids.length = m by simp at c2; omega)])
       subst hp
       simp (maxSteps := 2000000) only [Ty.w, simprocAttr, Ty.all, g1, g2, g3, g7, g8, g9, hlA, hlP, hlE, hlK, g91, c1, c2, c1p, c2p, Bool.not_true, Bool.not_false, not_false_eq_true, not_true_eq_false, if_true, if_false]
       repeat' (first | refine a_seq fun K hK => ?_ | ((first | refine a_regionS ?_ | refine a_ret ?_); simp (maxSteps := 2000000) only [Ty.w, simprocAttr, g1, g2, g3, g7, g8, g9, hlA, hlP, hlE, hlK, g91, c1, c2, c1p, c2p, Bool.not_true, Bool.not_false, not_false_eq_true, not_true_eq_false, if_true, if_false]) | (with_reducible refine ite_in (fun hb => ?_) (fun hb => ?_) <;> (try simp only [Decidable.not_not] at hb) <;> (try simp only [hb, if_true, if_false, not_false_eq_true, not_true_eq_false, ↓reduceIte]) <;> (try simp only [hb0, decide_eq_true_eq, decide_eq_false_iff_not, simprocAttr] at hb) <;> (try (exfalso; omega))) | (refine hK _ _ ?_; clear hK; try simp only [pst0, simprocAttr]))
       all_goals first | exact G1 | exact ⟨rfl, G1⟩
      | true =>
       have c2p := eq_true (eq_of_beq c2)
       have c2i : kids.length = m := by have := eq_of_beq c2; omega
       cases c3 : decide ((params.length : Int) > 0) with
       | false =>
        have c3e : params = [] := List.eq_nil_of_length_eq_zero (by have := of_decide_eq_false c3; omega)
        simp (maxSteps := 2000000) only [Ty.w, simprocAttr, Ty.all, g1, g2, g3, g7, g8, g9, hlA, hlP, hlE, hlK, g91, c1, c2, c3, c1p, c2p, Bool.not_true, Bool.not_false, not_false_eq_true, not_true_eq_false, if_true, if_false]
        repeat' (first | (refine a_skip ?_; try simp only [pst0, simprocAttr]) | (refine a_cond _ (by (try simp (maxSteps := 2000000) only [Ty.w, simprocAttr, g1, g2, g3, g7, g8, g9, hlA, hlP, hlE, hlK, g91, c1, c2, c3, c1p, c2p, Bool.not_true, Bool.not_false, not_false_eq_true, not_true_eq_false, if_true, if_false]); rfl) (fun hb => ?_) (fun hb => ?_) <;> (try simp only [hb0, decide_eq_true_eq, decide_eq_false_iff_not, simprocAttr] at hb) <;> (try (exfalso; omega))) | (with_reducible refine ite_in (fun hb => ?_) (fun hb => ?_) <;> (try simp only [Decidable.not_not] at hb) <;> (try simp only [hb, if_true, if_false, not_false_eq_true, not_true_eq_false, ↓reduceIte]) <;> (try simp only [hb0, decide_eq_true_eq, decide_eq_false_iff_not, simprocAttr] at hb) <;> (try (exfalso; omega))) | (refine hK _ _ ?_; clear hK; try simp only [pst0, simprocAttr]))
        simp (maxSteps := 2000000) only [Ty.w, simprocAttr, Ty.all, g1, g2, g3, Fm.cells]
        rw [hO, hts]; simp [(show exprs.length = e by simp at c1; omega), (show kids.length = m by simp at c2; omega), c3e]
       | true =>
        cases q with
        | false =>
         have hp := hFh (by rw [hO]; simp [(show ¬ params.length = 0 by have := of_decide_eq_true c3; omega)])
         subst hp
         simp (maxSteps := 2000000) only [Ty.w, simprocAttr, Ty.all, g1, g2, g3, g7, g8, g9, hlA, hlP, hlE, hlK, g91, c1, c2, c3, c1p, c2p, Bool.not_true, Bool.not_false, not_false_eq_true, not_true_eq_false, if_true, if_false]
         repeat' (first | refine a_seq fun K hK => ?_ | ((first | refine a_regionS ?_ | refine a_ret ?_); simp (maxSteps := 2000000) only [Ty.w, simprocAttr, g1, g2, g3, g7, g8, g9, hlA, hlP, hlE, hlK, g91, c1, c2, c3, c1p, c2p, Bool.not_true, Bool.not_false, not_false_eq_true, not_true_eq_false, if_true, if_false]) | (with_reducible refine ite_in (fun hb => ?_) (fun hb => ?_) <;> (try simp only [Decidable.not_not] at hb) <;> (try simp only [hb, if_true, if_false, not_false_eq_true, not_true_eq_false, ↓reduceIte]) <;> (try simp only [hb0, decide_eq_true_eq, decide_eq_false_iff_not, simprocAttr] at hb) <;> (try (exfalso; omega))) | (refine hK _ _ ?_; clear hK; try simp only [pst0, simprocAttr]))
         all_goals first | exact G1 | exact ⟨rfl, G1⟩
        | true =>
         simp (maxSteps := 2000000) only [Ty.w, simprocAttr, Ty.all, g1, g2, g3, g7, g8, g9, hlA, hlP, hlE, hlK, g91, c1, c2, c3, c1p, c2p, Bool.not_true, Bool.not_false, not_false_eq_true, not_true_eq_false, if_true, if_false]
         repeat' (first | (refine a_skip ?_; try simp only [pst0, simprocAttr]) | (refine a_cond _ (by (try simp (maxSteps := 2000000) only [Ty.w, simprocAttr, g1, g2, g3, g7, g8, g9, hlA, hlP, hlE, hlK, g91, c1, c2, c3, c1p, c2p, Bool.not_true, Bool.not_false, not_false_eq_true, not_true_eq_false, if_true, if_false]); rfl) (fun hb => ?_) (fun hb => ?_) <;> (try simp only [hb0, decide_eq_true_eq, decide_eq_false_iff_not, simprocAttr] at hb) <;> (try (exfalso; omega))) | (with_reducible refine ite_in (fun hb => ?_) (fun hb => ?_) <;> (try simp only [Decidable.not_not] at hb) <;> (try simp only [hb, if_true, if_false, not_false_eq_true, not_true_eq_false, ↓reduceIte]) <;> (try simp only [hb0, decide_eq_true_eq, decide_eq_false_iff_not, simprocAttr] at hb) <;> (try (exfalso; omega))) | (refine hK _ _ ?_; clear hK; try simp only [pst0, simprocAttr]))
         simp (maxSteps := 2000000) only [Ty.w, simprocAttr, Ty.all, g1, g2, g3, Fm.cells]
         rw [hO, hts]; simp [(show exprs.length = e by simp at c1; omega), (show kids.length = m by simp at c2; omega)]
  ·clear g1 g2 g3 g7 g8 g9 ht hO hs
   rintro S h2 ⟨rfl, g1, g2, g3, hH⟩
   simp only [Fm.cells] at g3
   repeat' (with_reducible refine a_hold 26 ?_)
   refine ⟨?_⟩
   refine a_cut (fun S h' => S 1 = .sc (.int .i64 d) ∧ S 2 = .ptr id 0 0 ∧ S 3 = .cptr (Fm.mk op name args params exprs kids).cells ∧ GrowX h id (cntO (n + 1)) h' ∧ params.all pmOk = true) ?_ ?_
   ·have hFp : params.all pmOk = false → F = (false, n + 1) := fun hh => hFf (by rw [partsOk_head, hh]; simp)
    clear hFf hFt ih
    repeat' (first | refine a_seq fun K hK => ?_ | (refine a_block ?_) | (refine a_regionS ?_; simp (maxSteps := 2000000) only [Ty.w, simprocAttr, g1, g2, g3, hlP]) | (refine hK _ _ ?_; clear hK; try simp only [pst0, simprocAttr]))
    refine a_loop (fun c S h' => S 1 = .sc (.int .i64 d) ∧ S 2 = .ptr id 0 0 ∧ S 3 = .cptr (Fm.mk op name args params exprs kids).cells ∧ S 116 = .imm 2 (pmRows params) ∧ S 117 = .sc (.int .i64 params.length) ∧ ∃ k : Nat, S 118 = .sc (.int .i64 k) ∧ k ≤ params.length ∧ c = params.length - k ∧ GrowX h id (cntO (n + 1)) h' ∧ params.all pmOk = (params.drop k).all pmOk) params.length ?_ ?_
    ·simp only [Ty.w, simprocAttr, g1, g2, g3, Fm.cells]
     exact ⟨0, rfl, by omega, rfl, G1, rfl⟩
    ·clear G1 hO1 g1 g2 g3
     rintro c S h' ⟨g1, g2, g3, g116, g117, k, g118, hk, rfl, hG, hall⟩
     simp only [Fm.cells] at g3
     by_cases hlt : k < params.length
     ·have hdk : decide ((k : Int) < (params.length : Int)) = true := by simp; omega
      have w7 : IntKind.i64.wrap ((k : Int) + 1) = k + 1 := by rw [wrap64 (by omega) (by omega)]
      obtain ⟨p, hx⟩ : ∃ p, params[k]? = some p := ⟨_, List.getElem?_eq_getElem hlt⟩
      have hr := pmRows_get hx
      have hpk := hps p (List.mem_of_getElem? hx)
      obtain ⟨hp1, hp2⟩ := hpk
      have hp1' : p.name.size ≤ 9223372036854775807 := by unfold bigN at hp1; omega
      have hG2 : GrowX h id (cntO (n + 1)) ((h'.new (.arr 2 [[.sc (.string ⟨#[]⟩), .sc (.string ⟨#[]⟩)]])).set h'.next (.arr 2 [[sPV p.name, sPV p.type]])) := (hG.new hid).set hid hG.le
      rw [drop_get hx] at hall
      simp only [List.all_cons, pmOk] at hall
      cases v1 : varB p.name with
      | false =>
       have hp := hFp (by rw [hall, v1]; try rfl)
       subst hp
       have W := And.intro g1 (And.intro g2 (And.intro g3 (And.intro g116 (And.intro g117 (And.intro g118 v1)))))
       repeat' (first | refine a_seq fun K hK => ?_ | (refine a_regionS ?_; simp (maxSteps := 2000000) only [Ty.w, simprocAttr, W, hdk, hr]) | (refine a_skip ?_; try simp only [pst0, simprocAttr]) | (refine a_cond _ (by (try simp (maxSteps := 2000000) only [Ty.w, simprocAttr, W, hdk, hr]); rfl) (fun hb => ?_) (fun hb => ?_) <;> (try simp only [hb0, decide_eq_true_eq, decide_eq_false_iff_not, simprocAttr] at hb) <;> (try (exfalso; omega))) | (refine hK _ _ ?_; clear hK; try simp only [pst0, simprocAttr]))
       refine owp_useQ (fvariable_c (s := p.name) hp1') (by (try simp only [Ty.w, simprocAttr, W]); try rfl) ?_; simp (maxSteps := 2000000) only [Ty.w, simprocAttr, W]
       repeat' (first | refine a_seq fun K hK => ?_ | ((first | refine a_regionS ?_ | refine a_ret ?_); simp (maxSteps := 2000000) only [Ty.w, simprocAttr, W, Bool.not_false]) | (refine hK _ _ ?_; clear hK; try simp only [pst0, simprocAttr]))
       first | exact hG2 | exact ⟨rfl, hG2⟩
      | true =>
       cases v2 : typedB p.type with
       | false =>
        have hp := hFp (by rw [hall, v1, v2]; try rfl)
        subst hp
        have W := And.intro g1 (And.intro g2 (And.intro g3 (And.intro g116 (And.intro g117 (And.intro g118 (And.intro v1 v2))))))
        repeat' (first | refine a_seq fun K hK => ?_ | (refine a_regionS ?_; simp (maxSteps := 2000000) only [Ty.w, simprocAttr, W, hdk, hr]) | (refine a_skip ?_; try simp only [pst0, simprocAttr]) | (refine a_cond _ (by (try simp (maxSteps := 2000000) only [Ty.w, simprocAttr, W, hdk, hr]); rfl) (fun hb => ?_) (fun hb => ?_) <;> (try simp only [hb0, decide_eq_true_eq, decide_eq_false_iff_not, simprocAttr] at hb) <;> (try (exfalso; omega))) | (refine hK _ _ ?_; clear hK; try simp only [pst0, simprocAttr]))
        refine owp_useQ (fvariable_c (s := p.name) hp1') (by (try simp only [Ty.w, simprocAttr, W]); try rfl) ?_; simp (maxSteps := 2000000) only [Ty.w, simprocAttr, W]
        skip
        refine owp_useQ (typed_c (s := p.type) hp2) (by (try simp only [Ty.w, simprocAttr, W]); try rfl) ?_; simp (maxSteps := 2000000) only [Ty.w, simprocAttr, W]
        repeat' (first | refine a_seq fun K hK => ?_ | ((first | refine a_regionS ?_ | refine a_ret ?_); simp (maxSteps := 2000000) only [Ty.w, simprocAttr, W, Bool.not_false, Bool.not_true]) | (refine hK _ _ ?_; clear hK; try simp only [pst0, simprocAttr]))
        first | exact hG2 | exact ⟨rfl, hG2⟩
       | true =>
        rw [v1, v2] at hall
        have W := And.intro g1 (And.intro g2 (And.intro g3 (And.intro g116 (And.intro g117 (And.intro g118 (And.intro v1 v2))))))
        repeat' (first | refine a_seq fun K hK => ?_ | (refine a_regionS ?_; simp (maxSteps := 2000000) only [Ty.w, simprocAttr, W, hdk, hr]) | (refine a_skip ?_; try simp only [pst0, simprocAttr]) | (refine a_cond _ (by (try simp (maxSteps := 2000000) only [Ty.w, simprocAttr, W, hdk, hr]); rfl) (fun hb => ?_) (fun hb => ?_) <;> (try simp only [hb0, decide_eq_true_eq, decide_eq_false_iff_not, simprocAttr] at hb) <;> (try (exfalso; omega))) | (refine hK _ _ ?_; clear hK; try simp only [pst0, simprocAttr]))
        refine owp_useQ (fvariable_c (s := p.name) hp1') (by (try simp only [Ty.w, simprocAttr, W]); try rfl) ?_; simp (maxSteps := 2000000) only [Ty.w, simprocAttr, W]
        skip
        refine owp_useQ (typed_c (s := p.type) hp2) (by (try simp only [Ty.w, simprocAttr, W]); try rfl) ?_; simp (maxSteps := 2000000) only [Ty.w, simprocAttr, W]
        repeat' (first | (refine a_block ?_) | (refine a_regionS ?_; simp (maxSteps := 2000000) only [Ty.w, simprocAttr, W, w7, Bool.not_true]) | (refine a_skip ?_; try simp only [pst0, simprocAttr]) | (refine hK _ _ ?_; clear hK; try simp only [pst0, simprocAttr]))
        exact ⟨params.length - (k + 1), by omega, by simp only [Fm.cells], k + 1, by simp, by omega, rfl, hG2, by simpa using hall⟩
     ·have hdk : decide ((k : Int) < (params.length : Int)) = false := by simp; omega
      rw [List.drop_eq_nil_of_le (by omega)] at hall
      repeat' (first | refine a_seq fun K hK => ?_ | (refine a_regionS ?_; simp (maxSteps := 2000000) only [Ty.w, simprocAttr, g1, g2, g3, g116, g117, g118, hdk]) | (refine a_exit ?_; try simp only [pst0, simprocAttr]) | (refine a_cond _ (by (try simp (maxSteps := 2000000) only [Ty.w, simprocAttr, g1, g2, g3, g116, g117, g118, hdk]); rfl) (fun hb => ?_) (fun hb => ?_) <;> (try simp only [hb0, decide_eq_true_eq, decide_eq_false_iff_not, simprocAttr] at hb) <;> (try (exfalso; omega))) | (refine hK _ _ ?_; clear hK; try simp only [pst0, simprocAttr]))
      simp (maxSteps := 2000000) only [Ty.w, simprocAttr, Ty.all, g1, g2, g3, Fm.cells]
      exact ⟨hG, hall⟩
   ·clear g1 g2 g3 G1 hO1
    rintro S h' ⟨g1, g2, g3, hG, hall⟩
    simp only [Fm.cells] at g3
    have hFe := hFt (by rw [partsOk_head, hH, hall]; try rfl)
    clear hFt hFf hH hall
    repeat' (with_reducible refine a_hold 32 ?_)
    refine ⟨?_⟩
    refine a_cut (fun S h' => S 1 = .sc (.int .i64 d) ∧ S 2 = .ptr id 0 0 ∧ S 3 = .cptr (Fm.mk op name args params exprs kids).cells ∧ ∃ n' : Nat, n' ≤ 4096 ∧ GrowX h id (cntO n') h' ∧ F = shapedMs kids (d + 1) n') ?_ ?_
    ·clear ih
     repeat' (first | refine a_seq fun K hK => ?_ | (refine a_block ?_) | (refine a_regionS ?_; simp (maxSteps := 2000000) only [Ty.w, simprocAttr, g1, g2, g3, hlE]) | (refine hK _ _ ?_; clear hK; try simp only [pst0, simprocAttr]))
     refine a_loop (fun c S h' => S 1 = .sc (.int .i64 d) ∧ S 2 = .ptr id 0 0 ∧ S 3 = .cptr (Fm.mk op name args params exprs kids).cells ∧ S 134 = .imm 5 (Ex.rows exprs) ∧ S 135 = .sc (.int .i64 exprs.length) ∧ ∃ k n' : Nat, S 136 = .sc (.int .i64 k) ∧ k ≤ exprs.length ∧ c = exprs.length - k ∧ n' ≤ 4096 ∧ GrowX h id (cntO n') h' ∧ F = (match formedMs (exprs.drop k) (d + 1) n' with
      | (true, c') => shapedMs kids (d + 1) c'
      | (false, c') => (false, c'))) exprs.length ?_ ?_
     ·simp only [Ty.w, simprocAttr, g1, g2, g3, Fm.cells]
      exact ⟨0, n + 1, rfl, by omega, rfl, by omega, hG, hFe⟩
     ·clear g1 g2 g3 hG hFe
      rintro c S h' ⟨g1, g2, g3, g134, g135, k, n', g136, hk, rfl, hn', hG, hFe⟩
      simp only [Fm.cells] at g3
      by_cases hlt : k < exprs.length
      ·have hdk : decide ((k : Int) < (exprs.length : Int)) = true := by simp; omega
       have w7 : IntKind.i64.wrap ((k : Int) + 1) = k + 1 := by rw [wrap64 (by omega) (by omega)]
       obtain ⟨x, hx⟩ : ∃ x, exprs[k]? = some x := ⟨_, List.getElem?_eq_getElem hlt⟩
       have hmem := List.mem_of_getElem? hx
       have hr := Ex.rows_get hx
       have hne : id ≠ h'.next := by have := hG.le; omega
       have hcx := formed_c x (hes x hmem) (d + 1) n' (by omega) hn' id ((h'.new (.arr 5 [[.sc (.string ⟨#[]⟩), .sc (.string ⟨#[]⟩), .sc (.int .i64 0), .sc (.slice none 0 0), .sc (.slice none 0 0)]])).set h'.next (.arr 5 [x.cells])) (by simp only [Heap.set, Heap.new]; rw [if_neg hne, if_neg hne]; exact hG.at_)
       have hG2 : GrowX h id (cntO n') ((h'.new (.arr 5 [[.sc (.string ⟨#[]⟩), .sc (.string ⟨#[]⟩), .sc (.int .i64 0), .sc (.slice none 0 0), .sc (.slice none 0 0)]])).set h'.next (.arr 5 [x.cells])) := (hG.new hid).set hid hG.le
       have hle := formedM_le x (d + 1) n'
       rw [drop_get hx] at hFe
       simp only [formedMs] at hFe
       generalize formedM x (d + 1) n' = V at hcx hle hFe
       obtain ⟨b, n''⟩ := V
       simp only [natc] at hcx hle hFe
       obtain ⟨xo, xn, xv, xa, xk⟩ := x
       simp only [Ex.cells] at hr hcx hG2
       repeat' (first | refine a_seq fun K hK => ?_ | (refine a_regionS ?_; simp (maxSteps := 2000000) only [Ty.w, simprocAttr, g1, g2, g3, g134, g135, g136, hdk, hr, wd]) | (refine a_skip ?_; try simp only [pst0, simprocAttr]) | (refine a_cond _ (by (try simp (maxSteps := 2000000) only [Ty.w, simprocAttr, g1, g2, g3, g134, g135, g136, hdk, hr, wd]); rfl) (fun hb => ?_) (fun hb => ?_) <;> (try simp only [hb0, decide_eq_true_eq, decide_eq_false_iff_not, simprocAttr] at hb) <;> (try (exfalso; omega))) | (refine hK _ _ ?_; clear hK; try simp only [pst0, simprocAttr]))
       refine owp_useH (hcx) (by (try simp only [Ty.w, simprocAttr, g1, g2, g3, g134, g135, g136, hr, wd]); try rfl) ?_; simp (maxSteps := 2000000) only [Ty.w, simprocAttr, g1, g2, g3, g134, g135, g136, hr, wd]
       cases b with
       | false =>
        simp only at hFe
        subst hFe
        repeat' (first | refine a_seq fun K hK => ?_ | ((first | refine a_regionS ?_ | refine a_ret ?_); simp (maxSteps := 2000000) only [Ty.w, simprocAttr, g1, g2, g3, g134, g135, g136, Bool.not_false]) | (refine hK _ _ ?_; clear hK; try simp only [pst0, simprocAttr]))
        first | exact hG2.put | exact ⟨rfl, hG2.put⟩
       | true =>
        simp only at hFe
        repeat' (first | (refine a_block ?_) | (refine a_regionS ?_; simp (maxSteps := 2000000) only [Ty.w, simprocAttr, g1, g2, g3, g134, g135, g136, w7, Bool.not_true]) | (refine a_skip ?_; try simp only [pst0, simprocAttr]) | (refine hK _ _ ?_; clear hK; try simp only [pst0, simprocAttr]))
        exact ⟨exprs.length - (k + 1), by omega, by simp only [Fm.cells], k + 1, n'', by simp, by omega, rfl, hle rfl, hG2.put, hFe⟩
      ·have hdk : decide ((k : Int) < (exprs.length : Int)) = false := by simp; omega
       rw [List.drop_eq_nil_of_le (by omega)] at hFe
       simp only [formedMs] at hFe
       repeat' (first | refine a_seq fun K hK => ?_ | (refine a_regionS ?_; simp (maxSteps := 2000000) only [Ty.w, simprocAttr, g1, g2, g3, g134, g135, g136, hdk]) | (refine a_exit ?_; try simp only [pst0, simprocAttr]) | (refine a_cond _ (by (try simp (maxSteps := 2000000) only [Ty.w, simprocAttr, g1, g2, g3, g134, g135, g136, hdk]); rfl) (fun hb => ?_) (fun hb => ?_) <;> (try simp only [hb0, decide_eq_true_eq, decide_eq_false_iff_not, simprocAttr] at hb) <;> (try (exfalso; omega))) | (refine hK _ _ ?_; clear hK; try simp only [pst0, simprocAttr]))
       simp (maxSteps := 2000000) only [Ty.w, simprocAttr, Ty.all, g1, g2, g3, Fm.cells]
       exact ⟨n', hn', hG, hFe⟩
    ·clear g1 g2 g3 hG hFe
     rintro S h' ⟨g1, g2, g3, n0, hn0, hG, hFe⟩
     simp only [Fm.cells] at g3
     repeat' (first | refine a_seq fun K hK => ?_ | (refine a_block ?_) | (refine a_regionS ?_; simp (maxSteps := 2000000) only [Ty.w, simprocAttr, g1, g2, g3, hlK]) | (refine hK _ _ ?_; clear hK; try simp only [pst0, simprocAttr]))
     refine a_loop (fun c S h' => S 1 = .sc (.int .i64 d) ∧ S 2 = .ptr id 0 0 ∧ S 148 = .imm 6 (Fm.rows kids) ∧ S 149 = .sc (.int .i64 kids.length) ∧ ∃ k n' : Nat, S 150 = .sc (.int .i64 k) ∧ k ≤ kids.length ∧ c = kids.length - k ∧ n' ≤ 4096 ∧ GrowX h id (cntO n') h' ∧ F = shapedMs (kids.drop k) (d + 1) n') kids.length ?_ ?_
     ·simp only [Ty.w, simprocAttr, g1, g2]
      exact ⟨0, n0, rfl, by omega, rfl, hn0, hG, hFe⟩
     ·clear g1 g2 g3 hG hFe
      rintro c S h' ⟨g1, g2, g148, g149, k, n', g150, hk, rfl, hn', hG, hFe⟩
      by_cases hlt : k < kids.length
      ·have hdk : decide ((k : Int) < (kids.length : Int)) = true := by simp; omega
       have w7 : IntKind.i64.wrap ((k : Int) + 1) = k + 1 := by rw [wrap64 (by omega) (by omega)]
       obtain ⟨x, hx⟩ : ∃ x, kids[k]? = some x := ⟨_, List.getElem?_eq_getElem hlt⟩
       have hmem := List.mem_of_getElem? hx
       have hr := Fm.rows_get hx
       have hne : id ≠ h'.next := by have := hG.le; omega
       have hcx := ih x hmem (hks x hmem) (d + 1) n' (by omega) hn' id ((h'.new (.arr 6 [[.sc (.string ⟨#[]⟩), .sc (.string ⟨#[]⟩), .sc (.slice none 0 0), .sc (.slice none 0 0), .sc (.slice none 0 0), .sc (.slice none 0 0)]])).set h'.next (.arr 6 [x.cells])) (by simp only [Heap.set, Heap.new]; rw [if_neg hne, if_neg hne]; exact hG.at_)
       have hG2 : GrowX h id (cntO n') ((h'.new (.arr 6 [[.sc (.string ⟨#[]⟩), .sc (.string ⟨#[]⟩), .sc (.slice none 0 0), .sc (.slice none 0 0), .sc (.slice none 0 0), .sc (.slice none 0 0)]])).set h'.next (.arr 6 [x.cells])) := (hG.new hid).set hid hG.le
       have hle := shapedM_le x (d + 1) n'
       rw [drop_get hx] at hFe
       simp only [shapedMs] at hFe
       generalize shapedM x (d + 1) n' = V at hcx hle hFe
       obtain ⟨b, n''⟩ := V
       simp only [natc] at hcx hle hFe
       obtain ⟨xo, xn, xa, xp, xe, xk⟩ := x
       simp only [Fm.cells] at hr hcx hG2
       repeat' (first | refine a_seq fun K hK => ?_ | (refine a_regionS ?_; simp (maxSteps := 2000000) only [Ty.w, simprocAttr, g1, g2, g148, g149, g150, hdk, hr, wd]) | (refine a_skip ?_; try simp only [pst0, simprocAttr]) | (refine a_cond _ (by (try simp (maxSteps := 2000000) only [Ty.w, simprocAttr, g1, g2, g148, g149, g150, hdk, hr, wd]); rfl) (fun hb => ?_) (fun hb => ?_) <;> (try simp only [hb0, decide_eq_true_eq, decide_eq_false_iff_not, simprocAttr] at hb) <;> (try (exfalso; omega))) | (refine hK _ _ ?_; clear hK; try simp only [pst0, simprocAttr]))
       refine owp_useH (hcx) (by (try simp only [Ty.w, simprocAttr, g1, g2, g148, g149, g150, hr, wd]); try rfl) ?_; simp (maxSteps := 2000000) only [Ty.w, simprocAttr, g1, g2, g148, g149, g150, hr, wd]
       cases b with
       | false =>
        simp only at hFe
        subst hFe
        repeat' (first | refine a_seq fun K hK => ?_ | ((first | refine a_regionS ?_ | refine a_ret ?_); simp (maxSteps := 2000000) only [Ty.w, simprocAttr, g1, g2, g148, g149, g150, Bool.not_false]) | (refine hK _ _ ?_; clear hK; try simp only [pst0, simprocAttr]))
        first | exact hG2.put | exact ⟨rfl, hG2.put⟩
       | true =>
        simp only at hFe
        repeat' (first | (refine a_block ?_) | (refine a_regionS ?_; simp (maxSteps := 2000000) only [Ty.w, simprocAttr, g1, g2, g148, g149, g150, w7, Bool.not_true]) | (refine a_skip ?_; try simp only [pst0, simprocAttr]) | (refine hK _ _ ?_; clear hK; try simp only [pst0, simprocAttr]))
        exact ⟨kids.length - (k + 1), by omega, k + 1, n'', by simp, by omega, rfl, hle rfl, hG2.put, hFe⟩
      ·have hdk : decide ((k : Int) < (kids.length : Int)) = false := by simp; omega
       rw [List.drop_eq_nil_of_le (by omega)] at hFe
       simp only [shapedMs] at hFe
       subst hFe
       repeat' (first | refine a_seq fun K hK => ?_ | ((first | refine a_regionS ?_ | refine a_ret ?_); simp (maxSteps := 2000000) only [Ty.w, simprocAttr, g1, g2, g148, g149, g150, hdk]) | (refine a_exit ?_; try simp only [pst0, simprocAttr]) | (refine a_cond _ (by (try simp (maxSteps := 2000000) only [Ty.w, simprocAttr, g1, g2, g148, g149, g150, hdk]); rfl) (fun hb => ?_) (fun hb => ?_) <;> (try simp only [hb0, decide_eq_true_eq, decide_eq_false_iff_not, simprocAttr] at hb) <;> (try (exfalso; omega))) | ((first | refine hK _ _ ?_ | (clear hK; refine hK _ _ ?_)); clear hK; try simp only [pst0, simprocAttr]))
       first | exact hG | exact ⟨rfl, hG⟩
end Go.Proofs.Ytjlkapgpjamnkaa
namespace Go.Proofs.Ytjlkapgpjamnkaa
open Go.AM
set_option maxHeartbeats 4000000
set_option maxRecDepth 20000
def lstR (w : ByteArray) (rest : List Sx) : Fm × Int := bif (fmPs rest).2 == 0 then (.mk w ⟨#[]⟩ [] [] [] (fmPs rest).1, 0) else (zeroFm, (fmPs rest).2)
def wordsB : List Sx → Bool
 | [a, b] => kindOf a == 1 && kindOf b == 1
 | _ => false
def termsR (op name : ByteArray) (rest : List Sx) : Fm × Int := bif (termsM rest).2 == 0 then (.mk op name (termsM rest).1 [] [] [], 0) else (zeroFm, (termsM rest).2)
def topR (w : ByteArray) (rest : List Sx) : Fm × Int :=
 if bEq w opAnd then lstR w rest
 else if bEq w opOr then lstR w rest
 else if bEq w opNot then (bif (rest.length : Int) != 1 then (zeroFm, 2) else lstR w rest)
 else if bEq w opImp then (bif (rest.length : Int) != 2 then (zeroFm, 2) else lstR w rest)
 else if bEq w opAll then quantR w rest
 else if bEq w opSome then quantR w rest
 else if bEq w opLt then cmpR w rest
 else if bEq w opLe then cmpR w rest
 else if bEq w opGt then cmpR w rest
 else if bEq w opGe then cmpR w rest
 else if bEq w opEq then (bif wordsB rest then termsR opSame ⟨#[]⟩ rest else cmpR w rest)
 else bif nameB w then termsR opAtom w rest else (zeroFm, 8)
theorem cmpR_bad {w : ByteArray} {l : List Sx} (h : ¬ l.length = 2) : cmpR w l = (zeroFm, 2) := by
 unfold cmpR
 rw [exprs2_len h]
 try rfl
theorem cmpR_fin (w : ByteArray) (a b : Sx) (h : (bEq w opEq && kindOf a == 1 && kindOf b == 1) = false) : fin (compareP w a b) = cmpR w [a, b] := by
 unfold compareP cmpR
 rw [h]
 simp only [cond_false, exprs2]
 cases qa : (exprP a).2 == 0 with
 | false => simp only [cond_false, qa, fin]
 | true =>
  cases qb : (exprP b).2 == 0 with
  | false => simp only [cond_true, cond_false, qb, fin]
  | true =>
   simp only [cond_true, beq_self_eq_true]
   split
   ·simp only [fin, beq_self_eq_true, cond_true]
   ·split <;> simp only [fin, beq_self_eq_true, cond_true]
theorem fmPs_one (y : Sx) : fmPs [y] = (bif (fmP y).2 == 0 then ([(fmP y).1], 0) else ([], (fmP y).2)) := by
 simp only [fmPs, beq_self_eq_true, cond_true]
theorem quantR_eq (w : ByteArray) (p y : Sx) : (bif kindOf p == 3 then (bif (paramsP true (kidsOf p)).2 == 0 then (match fmPs [y] with
       | (ks, c) => bif c == 0 then (Fm.mk w ⟨#[]⟩ [] (paramsP true (kidsOf p)).1 [] ks, (0 : Int)) else (zeroFm, c))
      else (zeroFm, (paramsP true (kidsOf p)).2)) else (zeroFm, 2)) = quantR w [p, y] := by
 rw [fmPs_one]
 unfold quantR
 cases q : (fmP y).2 == 0 with
 | false => simp only [cond_false, q]
 | true => simp only [cond_true, beq_self_eq_true, q]
theorem fmP_top {kind value line col : Int} {text : ByteArray} {y : Sx} {rest : List Sx} (e3 : kind = 3) (hy : kindOf y = 1) : fmP (.mk kind value line col text (y :: rest)) = topR (textOf y) rest := by
 conv => lhs; unfold fmP
 rw [if_pos e3]
 dsimp only
 rw [hy]
 simp only [beq_self_eq_true, cond_true]
 generalize textOf y = w
 unfold topR
 by_cases c0 : bEq w opAnd = true
 ·have e := bEq_eq c0
  subst e
  have hc : countW opAnd = -1 := rfl
  have h1 : isQ opAnd = false := rfl
  have h2 : isLst opAnd = true := rfl
  have h3 : isCmp5 opAnd = false := rfl
  rw [if_pos (show bEq opAnd opAnd = true from rfl)]
  rw [hc, h1, h2, h3]
  have hd : decide ((-1 : Int) ≥ 0) = false := by decide
  rw [hd]
  try rfl
 rw [if_neg c0]
 by_cases c1 : bEq w opOr = true
 ·have e := bEq_eq c1
  subst e
  have hc : countW opOr = -1 := rfl
  have h1 : isQ opOr = false := rfl
  have h2 : isLst opOr = true := rfl
  have h3 : isCmp5 opOr = false := rfl
  rw [if_pos (show bEq opOr opOr = true from rfl)]
  rw [hc, h1, h2, h3]
  have hd : decide ((-1 : Int) ≥ 0) = false := by decide
  rw [hd]
  try rfl
 rw [if_neg c1]
 by_cases c2 : bEq w opNot = true
 ·have e := bEq_eq c2
  subst e
  have hc : countW opNot = 1 := rfl
  have h1 : isQ opNot = false := rfl
  have h2 : isLst opNot = true := rfl
  have h3 : isCmp5 opNot = false := rfl
  rw [if_pos (show bEq opNot opNot = true from rfl)]
  rw [hc, h1, h2, h3]
  have hd : decide ((1 : Int) ≥ 0) = true := by decide
  rw [hd]
  have hl : (!decide ((1 : Int) = (rest.length : Int))) = ((rest.length : Int) != 1) := by
   by_cases h : rest.length = 1
   ·rw [h]; try rfl
   ·have h1 : ¬ (1 : Int) = (rest.length : Int) := by omega
    have h2 : ¬ (rest.length : Int) = 1 := by omega
    simp [h1, h2, bne]
  rw [hl]
  cases (rest.length : Int) != 1 <;> rfl
 rw [if_neg c2]
 by_cases c3 : bEq w opImp = true
 ·have e := bEq_eq c3
  subst e
  have hc : countW opImp = 2 := rfl
  have h1 : isQ opImp = false := rfl
  have h2 : isLst opImp = true := rfl
  have h3 : isCmp5 opImp = false := rfl
  rw [if_pos (show bEq opImp opImp = true from rfl)]
  rw [hc, h1, h2, h3]
  have hd : decide ((2 : Int) ≥ 0) = true := by decide
  rw [hd]
  have hl : (!decide ((2 : Int) = (rest.length : Int))) = ((rest.length : Int) != 2) := by
   by_cases h : rest.length = 2
   ·rw [h]; try rfl
   ·have h1 : ¬ (2 : Int) = (rest.length : Int) := by omega
    have h2 : ¬ (rest.length : Int) = 2 := by omega
    simp [h1, h2, bne]
  rw [hl]
  cases (rest.length : Int) != 2 <;> rfl
 rw [if_neg c3]
 by_cases c4 : bEq w opAll = true
 ·have e := bEq_eq c4
  subst e
  have hc : countW opAll = 2 := rfl
  have h1 : isQ opAll = true := rfl
  have h2 : isLst opAll = false := rfl
  have h3 : isCmp5 opAll = false := rfl
  rw [if_pos (show bEq opAll opAll = true from rfl)]
  rw [hc, h1, h2, h3]
  have hd : decide ((2 : Int) ≥ 0) = true := by decide
  rw [hd]
  by_cases hl : rest.length = 2
  ·have hn : (!decide ((2 : Int) = (rest.length : Int))) = false := by simp; omega
   rw [hn]
   match rest, hl with
   | [p, y2], _ =>
    simp only [Bool.true_and, cond_false, cond_true]
    exact quantR_eq opAll p y2
  ·have hn : (!decide ((2 : Int) = (rest.length : Int))) = true := by simp; omega
   rw [hn]
   simp only [Bool.and_self, cond_true]
   rw [quantR_len hl]
 rw [if_neg c4]
 by_cases c5 : bEq w opSome = true
 ·have e := bEq_eq c5
  subst e
  have hc : countW opSome = 2 := rfl
  have h1 : isQ opSome = true := rfl
  have h2 : isLst opSome = false := rfl
  have h3 : isCmp5 opSome = false := rfl
  rw [if_pos (show bEq opSome opSome = true from rfl)]
  rw [hc, h1, h2, h3]
  have hd : decide ((2 : Int) ≥ 0) = true := by decide
  rw [hd]
  by_cases hl : rest.length = 2
  ·have hn : (!decide ((2 : Int) = (rest.length : Int))) = false := by simp; omega
   rw [hn]
   match rest, hl with
   | [p, y2], _ =>
    simp only [Bool.true_and, cond_false, cond_true]
    exact quantR_eq opSome p y2
  ·have hn : (!decide ((2 : Int) = (rest.length : Int))) = true := by simp; omega
   rw [hn]
   simp only [Bool.and_self, cond_true]
   rw [quantR_len hl]
 rw [if_neg c5]
 by_cases c6 : bEq w opLt = true
 ·have e := bEq_eq c6
  subst e
  have hc : countW opLt = 2 := rfl
  have h1 : isQ opLt = false := rfl
  have h2 : isLst opLt = false := rfl
  have h3 : isCmp5 opLt = true := rfl
  rw [if_pos (show bEq opLt opLt = true from rfl)]
  rw [hc, h1, h2, h3]
  have hd : decide ((2 : Int) ≥ 0) = true := by decide
  rw [hd]
  by_cases hl : rest.length = 2
  ·have hn : (!decide ((2 : Int) = (rest.length : Int))) = false := by simp; omega
   rw [hn]
   match rest, hl with
   | [a, b], _ =>
    simp only [Bool.true_and, cond_false, cond_true]
    exact cmpR_fin opLt a b (by rw [show bEq opLt opEq = false from rfl]; try rfl)
  ·have hn : (!decide ((2 : Int) = (rest.length : Int))) = true := by simp; omega
   rw [hn]
   simp only [Bool.and_self, cond_true]
   rw [cmpR_bad hl]
 rw [if_neg c6]
 by_cases c7 : bEq w opLe = true
 ·have e := bEq_eq c7
  subst e
  have hc : countW opLe = 2 := rfl
  have h1 : isQ opLe = false := rfl
  have h2 : isLst opLe = false := rfl
  have h3 : isCmp5 opLe = true := rfl
  rw [if_pos (show bEq opLe opLe = true from rfl)]
  rw [hc, h1, h2, h3]
  have hd : decide ((2 : Int) ≥ 0) = true := by decide
  rw [hd]
  by_cases hl : rest.length = 2
  ·have hn : (!decide ((2 : Int) = (rest.length : Int))) = false := by simp; omega
   rw [hn]
   match rest, hl with
   | [a, b], _ =>
    simp only [Bool.true_and, cond_false, cond_true]
    exact cmpR_fin opLe a b (by rw [show bEq opLe opEq = false from rfl]; try rfl)
  ·have hn : (!decide ((2 : Int) = (rest.length : Int))) = true := by simp; omega
   rw [hn]
   simp only [Bool.and_self, cond_true]
   rw [cmpR_bad hl]
 rw [if_neg c7]
 by_cases c8 : bEq w opGt = true
 ·have e := bEq_eq c8
  subst e
  have hc : countW opGt = 2 := rfl
  have h1 : isQ opGt = false := rfl
  have h2 : isLst opGt = false := rfl
  have h3 : isCmp5 opGt = true := rfl
  rw [if_pos (show bEq opGt opGt = true from rfl)]
  rw [hc, h1, h2, h3]
  have hd : decide ((2 : Int) ≥ 0) = true := by decide
  rw [hd]
  by_cases hl : rest.length = 2
  ·have hn : (!decide ((2 : Int) = (rest.length : Int))) = false := by simp; omega
   rw [hn]
   match rest, hl with
   | [a, b], _ =>
    simp only [Bool.true_and, cond_false, cond_true]
    exact cmpR_fin opGt a b (by rw [show bEq opGt opEq = false from rfl]; try rfl)
  ·have hn : (!decide ((2 : Int) = (rest.length : Int))) = true := by simp; omega
   rw [hn]
   simp only [Bool.and_self, cond_true]
   rw [cmpR_bad hl]
 rw [if_neg c8]
 by_cases c9 : bEq w opGe = true
 ·have e := bEq_eq c9
  subst e
  have hc : countW opGe = 2 := rfl
  have h1 : isQ opGe = false := rfl
  have h2 : isLst opGe = false := rfl
  have h3 : isCmp5 opGe = true := rfl
  rw [if_pos (show bEq opGe opGe = true from rfl)]
  rw [hc, h1, h2, h3]
  have hd : decide ((2 : Int) ≥ 0) = true := by decide
  rw [hd]
  by_cases hl : rest.length = 2
  ·have hn : (!decide ((2 : Int) = (rest.length : Int))) = false := by simp; omega
   rw [hn]
   match rest, hl with
   | [a, b], _ =>
    simp only [Bool.true_and, cond_false, cond_true]
    exact cmpR_fin opGe a b (by rw [show bEq opGe opEq = false from rfl]; try rfl)
  ·have hn : (!decide ((2 : Int) = (rest.length : Int))) = true := by simp; omega
   rw [hn]
   simp only [Bool.and_self, cond_true]
   rw [cmpR_bad hl]
 rw [if_neg c9]
 by_cases c10 : bEq w opEq = true
 ·have e := bEq_eq c10
  subst e
  have hc : countW opEq = 2 := rfl
  have h1 : isQ opEq = false := rfl
  have h2 : isLst opEq = false := rfl
  have h3 : isCmp5 opEq = true := rfl
  rw [if_pos (show bEq opEq opEq = true from rfl)]
  rw [hc, h1, h2, h3]
  have hd : decide ((2 : Int) ≥ 0) = true := by decide
  rw [hd]
  by_cases hl : rest.length = 2
  ·have hn : (!decide ((2 : Int) = (rest.length : Int))) = false := by simp; omega
   rw [hn]
   match rest, hl with
   | [a, b], _ =>
    simp only [Bool.true_and, cond_false, cond_true, wordsB]
    cases hw : (kindOf a == 1 && kindOf b == 1) with
    | false =>
     simp only [cond_false]
     exact cmpR_fin opEq a b (by rw [Bool.and_assoc, hw, Bool.and_false])
    | true =>
     simp only [cond_true]
     unfold compareP
     rw [Bool.and_assoc, hw, show bEq opEq opEq = true from rfl]
     simp only [Bool.and_self, cond_true, fin, termsR]
     cases qt : (termsM [a, b]).2 == 0 with
     | false => rfl
     | true => rw [show (termsM [a, b]).2 = 0 by simpa using qt]
  ·have hn : (!decide ((2 : Int) = (rest.length : Int))) = true := by simp; omega
   rw [hn]
   simp only [Bool.and_self, cond_true]
   have hw : wordsB rest = false := by
    match rest, hl with
    | [], _ => rfl
    | [_], _ => rfl
    | [_, _], hl => simp at hl
    | _ :: _ :: _ :: _, _ => rfl
   rw [hw, cmpR_bad hl]; try rfl
 rw [if_neg c10]
 have d0 : bEq w opAnd = false := Bool.eq_false_iff.2 c0
 have d1 : bEq w opOr = false := Bool.eq_false_iff.2 c1
 have d2 : bEq w opNot = false := Bool.eq_false_iff.2 c2
 have d3 : bEq w opImp = false := Bool.eq_false_iff.2 c3
 have d4 : bEq w opAll = false := Bool.eq_false_iff.2 c4
 have d5 : bEq w opSome = false := Bool.eq_false_iff.2 c5
 have d6 : bEq w opLt = false := Bool.eq_false_iff.2 c6
 have d7 : bEq w opLe = false := Bool.eq_false_iff.2 c7
 have d8 : bEq w opGt = false := Bool.eq_false_iff.2 c8
 have d9 : bEq w opGe = false := Bool.eq_false_iff.2 c9
 have d10 : bEq w opEq = false := Bool.eq_false_iff.2 c10
 have hc : countW w = -1 := by
  have n1 := d2; have n2 := d3; have n3 := d4; have n4 := d5; have n5 := d10; have n6 := d6; have n7 := d7; have n8 := d8; have n9 := d9
  simp only [bEq, opNot, opImp, opAll, opSome, opEq, opLt, opLe, opGt, opGe] at n1 n2 n3 n4 n5 n6 n7 n8 n9
  simp only [countW, n1, n2, n3, n4, n5, n6, n7, n8, n9, Bool.false_eq_true, if_false]
 have h1 : isQ w = false := by simp [isQ, d4, d5]
 have h2 : isLst w = false := by simp [isLst, d0, d1, d2, d3]
 have h3 : isCmp5 w = false := by simp [isCmp5, isCmp, d6, d7, d8, d9, d10]
 rw [hc, h1, h2, h3]
 have hd : decide ((-1 : Int) ≥ 0) = false := by decide
 rw [hd]
 simp only [Bool.false_and, cond_false, termsR]
theorem nodess_mem {l : List Sx} {x : Sx} (h : x ∈ l) : x.nodes ≤ Sx.nodess l := by
 induction l with
 | nil => simp at h
 | cons a l ih =>
  simp only [Sx.nodess]
  rcases List.mem_cons.1 h with rfl | h
  ·omega
  ·have := ih h; omega
theorem rformula_c : ∀ x : Sx, x.ok → x.small → shapedS x = true → x.nodes ≤ bigN → ∀ h : Heap, PCall Try.prog 74 [.agg x.cells] h fun r h' => r = .tup [.agg (fmP x).1.cells, iN (fmP x).2] ∧ h' = h := by
 refine Sx.ind ?_
 intro kind value line col text kids ih hok hsm hsh hnd h
 simp only [Sx.ok] at hok
 obtain ⟨_, _, _, _, hks⟩ := hok
 rw [Sx.oks_iff] at hks
 simp only [Sx.small] at hsm
 obtain ⟨hl, hss⟩ := hsm
 rw [Sx.smalls_iff] at hss
 simp only [Sx.nodes] at hnd
 have hll := Sx.rows_len kids
 refine PCall.frz Ty.hb_74 ?_
 generalize hF : fmP (.mk kind value line col text kids) = F
 unfold shapedS at hsh
 simp only [Sx.cells]
 cases k3 : (kind == 3) with
 | false =>
  have n3 : ¬ kind = 3 := by simpa using k3
  have k3' : (kind != 3) = true := by simp [bne, k3]
  unfold fmP at hF
  rw [if_neg n3] at hF
  subst hF
  refine pcall_body (ow := fun _ => false) (wf := fun _ => false) Ty.mixed Try.func74 rfl Ty.hb_74 (by rw [Try.ntmps74]; simp) ?_
  rw [Try.ntmps74, Try.results74]
  repeat' (first | refine a_seq fun K hK => ?_ | ((first | refine a_regionS ?_ | refine a_ret ?_); simp (maxSteps := 2000000) only [Ty.w, simprocAttr, k3, k3']) | (refine a_skip ?_; try simp only [pst0, simprocAttr]) | (refine a_cond _ (by (try simp (maxSteps := 2000000) only [Ty.w, simprocAttr, k3, k3']); rfl) (fun hb => ?_) (fun hb => ?_) <;> (try simp only [hb0, decide_eq_true_eq, decide_eq_false_iff_not, simprocAttr] at hb) <;> (try (exfalso; omega))) | (refine hK _ _ ?_; clear hK; try simp only [pst0, simprocAttr]))
  exact ⟨fmz_frz _ _ _, grow_zF _ _⟩
 | true =>
  have e3 : kind = 3 := by simpa using k3
  have k3' : (kind != 3) = false := by simp [bne, k3]
  rw [if_neg (by omega), if_neg (by omega), if_pos e3, Bool.and_eq_true] at hsh
  cases kids with
  | nil =>
   unfold fmP at hF
   rw [if_pos e3] at hF
   dsimp only at hF
   subst hF
   have q : (((Sx.rows []).length : Int) == 0) = true := rfl
   generalize Sx.rows [] = R at q hll
   refine pcall_body (ow := fun _ => false) (wf := fun _ => false) Ty.mixed Try.func74 rfl Ty.hb_74 (by rw [Try.ntmps74]; simp) ?_
   rw [Try.ntmps74, Try.results74]
   repeat' (first | refine a_seq fun K hK => ?_ | ((first | refine a_regionS ?_ | refine a_ret ?_); simp (maxSteps := 2000000) only [Ty.w, simprocAttr, k3, k3', q]) | (refine hK _ _ ?_; clear hK; try simp only [pst0, simprocAttr]))
   exact ⟨frz_tup2 (frz_agg (by simp [opAnd, Fm.cells, Ex.rows, Fm.rows, pmRows, strRows, FrzL, FrzTo])), grow_zF _ _⟩
  | cons y rest =>
   have hrs : ∀ x ∈ rest, shapedS x = true := by
    have := hsh.1
    simp only [shapedSs, Bool.and_eq_true] at this
    exact ssR_mem this.2
   have hyt : (textOf y).size ≤ 9223372036854775807 := by
    have := hks y (by simp)
    obtain ⟨_, _, _, _, t, _⟩ := y
    simp only [Sx.ok] at this
    have h3 := this.2.2.1
    unfold bigN at h3
    simp only [textOf]; omega
   simp only [Sx.nodess] at hnd
   have hrl : rest.length ≤ 1048576 := by simp at hl; omega
   have hrb : rest.length ≤ bigN := by unfold bigN; omega
   have ihr : ∀ x ∈ rest, ∀ h : Heap, PCall Try.prog 74 [.agg x.cells] h fun r h' => r = .tup [.agg (fmP x).1.cells, iN (fmP x).2] ∧ h' = h := fun x hx => ih x (by simp [hx]) (hks x (by simp [hx])) (hss x (by simp [hx])) (hrs x hx) (by have := nodess_mem hx; omega)
   have hfs := rformulas_c hrl ihr
   have hex := rexprs_c hrl (fun x hx => rexpr_c x (hks x (by simp [hx])) (hss x (by simp [hx])) (hrs x hx))
   have htm := rterms_c hrl (fun x hx => hks x (by simp [hx]))
   have hpp : ∀ p ∈ rest, ∀ h : Heap, PCall Try.prog 138 [.imm 6 (Sx.rows (kidsOf p)), .sc (.bool true)] h fun r h' => r = .tup [.imm 2 (pmRows (paramsP true (kidsOf p)).1), iN (paramsP true (kidsOf p)).2] ∧ h' = h := by
    intro p hp
    have h1 := hks p (by simp [hp])
    have h2 := hss p (by simp [hp])
    have h3 := nodess_mem hp
    obtain ⟨_, _, _, _, _, pk⟩ := p
    simp only [Sx.ok] at h1
    simp only [Sx.small] at h2
    simp only [Sx.nodes] at h3
    refine rparams_p h2.1 (Sx.oks_iff.1 h1.2.2.2.2) fun x hx => ?_
    have h4 : x.nodes ≤ Sx.nodess pk := nodess_mem hx
    have h5 := Sx.depth_nodes x
    exact ⟨by omega, by omega⟩
   have hqu := fun w => rquantified_c (w := w) hpp hrb ihr
   have hcm := fun w => rcomparison_c (w := w) hex
   have hnm := fun h : Heap => rname_c (h := h) (s := textOf y) hyt
   have q : (((Sx.rows (y :: rest)).length : Int) == 0) = false := by rw [hll]; simp; omega
   have r0 := Sx.rows_get (l := y :: rest) (i := 0) rfl
   have q1 : (1 : Int) ≤ ((Sx.rows (y :: rest)).length : Int) := by rw [hll]; simp; omega
   have ht : List.take (((Sx.rows (y :: rest)).length : Int) - 1).toNat (List.drop 1 (Sx.rows (y :: rest))) = Sx.rows rest := by
    simp only [Sx.rows, List.drop_succ_cons, List.drop_zero, List.length_cons]
    rw [List.take_of_length_le (by omega)]
   have hlr := Sx.rows_len rest
   generalize Sx.rows (y :: rest) = R at q r0 q1 ht hll ⊢
   have hF1 : kindOf y = 1 → F = topR (textOf y) rest := fun hy => by rw [← hF, fmP_top e3 hy]
   have hF0 : ¬ kindOf y = 1 → F = (zeroFm, 2) := fun hy => by
    rw [← hF]; unfold fmP; rw [if_pos e3]; dsimp only
    rw [show (kindOf y == 1) = false by simpa using hy]; try rfl
   clear hF ih ihr hks hss hl hsh hpp hex hnd
   obtain ⟨yk, yv, yl, yc, yt, yks⟩ := y
   simp only [Sx.cells, kindOf, textOf] at r0 hF1 hF0 hnm hyt
   cases ky : (yk != 1) with
   | true =>
    have hF := hF0 (by simpa using ky)
    subst hF
    refine pcall_body (ow := fun _ => false) (wf := fun _ => false) Ty.mixed Try.func74 rfl Ty.hb_74 (by rw [Try.ntmps74]; simp) ?_
    rw [Try.ntmps74, Try.results74]
    repeat' (first | refine a_seq fun K hK => ?_ | ((first | refine a_regionS ?_ | refine a_ret ?_); simp (maxSteps := 2000000) only [Ty.w, simprocAttr, k3, k3', q, r0, ky]) | (refine a_skip ?_; try simp only [pst0, simprocAttr]) | (refine a_cond _ (by (try simp (maxSteps := 2000000) only [Ty.w, simprocAttr, k3, k3', q, r0, ky]); rfl) (fun hb => ?_) (fun hb => ?_) <;> (try simp only [hb0, decide_eq_true_eq, decide_eq_false_iff_not, simprocAttr] at hb) <;> (try (exfalso; omega))) | (refine hK _ _ ?_; clear hK; try simp only [pst0, simprocAttr]))
    exact ⟨fmz_frz _ _ _, grow_zF _ _⟩
   | false =>
    have hF := hF1 (by simpa using ky)
    clear hF1 hF0
    refine pcall_body (ow := fun _ => false) (wf := fun _ => false) Ty.mixed Try.func74 rfl Ty.hb_74 (by rw [Try.ntmps74]; simp) ?_
    rw [Try.ntmps74, Try.results74]
    repeat' (first | (with_reducible refine a_hold 6 ?_) | (first | refine a_seq fun K hK => ?_ | ((first | refine a_regionS ?_ | refine a_drawS (by decide +kernel) ?_); simp (maxSteps := 2000000) only [Ty.w, simprocAttr, k3, k3', q, r0, ky, q1, ht, Option.getD_some, Option.getD_none, Int.le_refl, Int.toNat_one]) | (refine a_skip ?_; try simp only [pst0, simprocAttr]) | (refine a_cond _ (by (try simp (maxSteps := 2000000) only [Ty.w, simprocAttr, k3, k3', q, r0, ky, q1, ht, Option.getD_some, Option.getD_none, Int.le_refl, Int.toNat_one]); rfl) (fun hb => ?_) (fun hb => ?_) <;> (try simp only [hb0, decide_eq_true_eq, decide_eq_false_iff_not, simprocAttr] at hb) <;> (try (exfalso; omega))) | (refine hK _ _ ?_; clear hK; try simp only [pst0, simprocAttr])))
    refine ⟨?_⟩
    refine a_gen (fun S h' => S 1 = .cptr [.sc (.int .i64 kind), .sc (.int .i64 value), .sc (.int .i64 line), .sc (.int .i64 col), sPV text, .imm 6 R] ∧ S 2 = .ptr h.next 0 0 ∧ S 4 = sPV yt ∧ S 5 = .imm 6 (Sx.rows rest) ∧ h' = h.new (.arr 6 [[.sc (.string ⟨#[]⟩), .sc (.string ⟨#[]⟩), .sc (.slice none 0 0), .sc (.slice none 0 0), .sc (.slice none 0 0), .sc (.slice none 0 0)]])) ?_ ?_
    ·simp only [Ty.w, simprocAttr]
    clear q r0 q1 ht hll hrs
    rintro S h' ⟨g1, g2, g4, g5, rfl⟩
    unfold topR at hF
    cases c0 : (yt.data.toList == (#[97, 110, 100] : Array UInt8).toList) with
    | true =>
     simp only [show bEq yt opAnd = true from c0, if_true, Bool.false_eq_true, if_false] at hF
     have m1 : (yt.data.toList == (#[110, 111, 116] : Array UInt8).toList) = false := ne_of_eq c0 rfl
     have m2 : (yt.data.toList == (#[105, 109, 112, 108, 121] : Array UInt8).toList) = false := ne_of_eq c0 rfl
     unfold lstR at hF
     generalize fmPs rest = E at hF hfs
     obtain ⟨fs, fc⟩ := E
     simp only at hF hfs
     have ef := fms_in h.next fs
     cases qc : fc == 0 with
     | false =>
      have qc' : (fc != 0) = true := by simp [bne, qc]
      rw [qc] at hF
      simp only [cond_false] at hF
      subst hF
      repeat' (first | refine a_seq fun K hK => ?_ | (refine a_regionS ?_; simp (maxSteps := 2000000) only [Ty.w, simprocAttr, g1, g2, g4, g5, c0, m1, m2]) | (refine a_skip ?_; try simp only [pst0, simprocAttr]) | (refine a_cond _ (by (try simp (maxSteps := 2000000) only [Ty.w, simprocAttr, g1, g2, g4, g5, c0, m1, m2]); rfl) (fun hb => ?_) (fun hb => ?_) <;> (try simp only [hb0, decide_eq_true_eq, decide_eq_false_iff_not, simprocAttr] at hb) <;> (try (exfalso; omega))) | (refine hK _ _ ?_; clear hK; try simp only [pst0, simprocAttr]))
      refine owp_useQ (hfs _) (by (try simp only [Ty.w, simprocAttr, g1, g2, g4, g5, c0, m1, m2]); try rfl) ?_; simp (maxSteps := 2000000) only [Ty.w, simprocAttr, g1, g2, g4, g5, c0, m1, m2]
      repeat' (first | refine a_seq fun K hK => ?_ | ((first | refine a_regionS ?_ | refine a_ret ?_); simp (maxSteps := 2000000) only [Ty.w, simprocAttr, g1, g2, g4, g5, c0, m1, m2, qc']) | (refine hK _ _ ?_; clear hK; try simp only [pst0, simprocAttr]))
      exact ⟨fmz_frz _ _ _, grow_zF _ _⟩
     | true =>
      have qc' : (fc != 0) = false := by simp [bne, qc]
      rw [qc] at hF
      simp only [cond_true] at hF
      subst hF
      have W := And.intro g1 (And.intro g2 (And.intro g4 (And.intro g5 (And.intro c0 (And.intro m1 m2)))))
      repeat' (first | refine a_seq fun K hK => ?_ | (refine a_regionS ?_; simp (maxSteps := 2000000) only [Ty.w, simprocAttr, W]) | (refine a_skip ?_; try simp only [pst0, simprocAttr]) | (refine a_cond _ (by (try simp (maxSteps := 2000000) only [Ty.w, simprocAttr, W]); rfl) (fun hb => ?_) (fun hb => ?_) <;> (try simp only [hb0, decide_eq_true_eq, decide_eq_false_iff_not, simprocAttr] at hb) <;> (try (exfalso; omega))) | (refine hK _ _ ?_; clear hK; try simp only [pst0, simprocAttr]))
      refine owp_useQ (hfs _) (by (try simp only [Ty.w, simprocAttr, W]); try rfl) ?_; simp (maxSteps := 2000000) only [Ty.w, simprocAttr, W]
      repeat' (first | refine a_seq fun K hK => ?_ | ((first | refine a_regionS ?_ | refine a_ret ?_); simp (maxSteps := 2000000) only [Ty.w, simprocAttr, W, qc']) | (refine a_skip ?_; try simp only [pst0, simprocAttr]) | (refine a_cond _ (by (try simp (maxSteps := 2000000) only [Ty.w, simprocAttr, W, qc']); rfl) (fun hb => ?_) (fun hb => ?_) <;> (try simp only [hb0, decide_eq_true_eq, decide_eq_false_iff_not, simprocAttr] at hb) <;> (try (exfalso; omega))) | (refine hK _ _ ?_; clear hK; try simp only [pst0, simprocAttr]))
      exact ⟨frz_tup2 (frz_agg (by simp [Fm.cells, Ex.rows, pmRows, strRows, FrzL, FrzTo, ef])), grow_zF _ _⟩
    | false =>
     simp only [show bEq yt opAnd = false from c0, Bool.false_eq_true, if_false] at hF
     cases c1 : (yt.data.toList == (#[111, 114] : Array UInt8).toList) with
     | true =>
      simp only [show bEq yt opAnd = false from c0, show bEq yt opOr = true from c1, if_true, Bool.false_eq_true, if_false] at hF
      have m1 : (yt.data.toList == (#[110, 111, 116] : Array UInt8).toList) = false := ne_of_eq c1 rfl
      have m2 : (yt.data.toList == (#[105, 109, 112, 108, 121] : Array UInt8).toList) = false := ne_of_eq c1 rfl
      unfold lstR at hF
      generalize fmPs rest = E at hF hfs
      obtain ⟨fs, fc⟩ := E
      simp only at hF hfs
      have ef := fms_in h.next fs
      cases qc : fc == 0 with
      | false =>
       have qc' : (fc != 0) = true := by simp [bne, qc]
       rw [qc] at hF
       simp only [cond_false] at hF
       subst hF
       repeat' (first | refine a_seq fun K hK => ?_ | (refine a_regionS ?_; simp (maxSteps := 2000000) only [Ty.w, simprocAttr, g1, g2, g4, g5, c0, c1, m1, m2]) | (refine a_skip ?_; try simp only [pst0, simprocAttr]) | (refine a_cond _ (by (try simp (maxSteps := 2000000) only [Ty.w, simprocAttr, g1, g2, g4, g5, c0, c1, m1, m2]); rfl) (fun hb => ?_) (fun hb => ?_) <;> (try simp only [hb0, decide_eq_true_eq, decide_eq_false_iff_not, simprocAttr] at hb) <;> (try (exfalso; omega))) | (refine hK _ _ ?_; clear hK; try simp only [pst0, simprocAttr]))
       refine owp_useQ (hfs _) (by (try simp only [Ty.w, simprocAttr, g1, g2, g4, g5, c0, c1, m1, m2]); try rfl) ?_; simp (maxSteps := 2000000) only [Ty.w, simprocAttr, g1, g2, g4, g5, c0, c1, m1, m2]
       repeat' (first | refine a_seq fun K hK => ?_ | ((first | refine a_regionS ?_ | refine a_ret ?_); simp (maxSteps := 2000000) only [Ty.w, simprocAttr, g1, g2, g4, g5, c0, c1, m1, m2, qc']) | (refine hK _ _ ?_; clear hK; try simp only [pst0, simprocAttr]))
       exact ⟨fmz_frz _ _ _, grow_zF _ _⟩
      | true =>
       have qc' : (fc != 0) = false := by simp [bne, qc]
       rw [qc] at hF
       simp only [cond_true] at hF
       subst hF
       have W := And.intro g1 (And.intro g2 (And.intro g4 (And.intro g5 (And.intro c0 (And.intro c1 (And.intro m1 m2))))))
       repeat' (first | refine a_seq fun K hK => ?_ | (refine a_regionS ?_; simp (maxSteps := 2000000) only [Ty.w, simprocAttr, W]) | (refine a_skip ?_; try simp only [pst0, simprocAttr]) | (refine a_cond _ (by (try simp (maxSteps := 2000000) only [Ty.w, simprocAttr, W]); rfl) (fun hb => ?_) (fun hb => ?_) <;> (try simp only [hb0, decide_eq_true_eq, decide_eq_false_iff_not, simprocAttr] at hb) <;> (try (exfalso; omega))) | (refine hK _ _ ?_; clear hK; try simp only [pst0, simprocAttr]))
       refine owp_useQ (hfs _) (by (try simp only [Ty.w, simprocAttr, W]); try rfl) ?_; simp (maxSteps := 2000000) only [Ty.w, simprocAttr, W]
       repeat' (first | refine a_seq fun K hK => ?_ | ((first | refine a_regionS ?_ | refine a_ret ?_); simp (maxSteps := 2000000) only [Ty.w, simprocAttr, W, qc']) | (refine a_skip ?_; try simp only [pst0, simprocAttr]) | (refine a_cond _ (by (try simp (maxSteps := 2000000) only [Ty.w, simprocAttr, W, qc']); rfl) (fun hb => ?_) (fun hb => ?_) <;> (try simp only [hb0, decide_eq_true_eq, decide_eq_false_iff_not, simprocAttr] at hb) <;> (try (exfalso; omega))) | (refine hK _ _ ?_; clear hK; try simp only [pst0, simprocAttr]))
       exact ⟨frz_tup2 (frz_agg (by simp [Fm.cells, Ex.rows, pmRows, strRows, FrzL, FrzTo, ef])), grow_zF _ _⟩
     | false =>
      simp only [show bEq yt opOr = false from c1, Bool.false_eq_true, if_false] at hF
      cases c2 : (yt.data.toList == (#[110, 111, 116] : Array UInt8).toList) with
      | true =>
       simp only [show bEq yt opAnd = false from c0, show bEq yt opOr = false from c1, show bEq yt opNot = true from c2, if_true, Bool.false_eq_true, if_false] at hF
       have m2 : (yt.data.toList == (#[105, 109, 112, 108, 121] : Array UInt8).toList) = false := ne_of_eq c2 rfl
       unfold lstR at hF
       generalize fmPs rest = E at hF hfs
       obtain ⟨fs, fc⟩ := E
       simp only at hF hfs
       have ef := fms_in h.next fs
       cases ql : ((rest.length : Int) != 1) with
       | true =>
        simp only [ql, cond_true] at hF
        subst hF
        repeat' (first | refine a_seq fun K hK => ?_ | ((first | refine a_regionS ?_ | refine a_ret ?_); simp (maxSteps := 2000000) only [Ty.w, simprocAttr, g1, g2, g4, g5, c0, c1, c2, m2, hlr, ql]) | (refine a_skip ?_; try simp only [pst0, simprocAttr]) | (refine a_cond _ (by (try simp (maxSteps := 2000000) only [Ty.w, simprocAttr, g1, g2, g4, g5, c0, c1, c2, m2, hlr, ql]); rfl) (fun hb => ?_) (fun hb => ?_) <;> (try simp only [hb0, decide_eq_true_eq, decide_eq_false_iff_not, simprocAttr] at hb) <;> (try (exfalso; omega))) | (refine hK _ _ ?_; clear hK; try simp only [pst0, simprocAttr]))
        exact ⟨fmz_frz _ _ _, grow_zF _ _⟩
       | false =>
        simp only [ql, cond_false] at hF
        cases qc : fc == 0 with
        | false =>
         have qc' : (fc != 0) = true := by simp [bne, qc]
         rw [qc] at hF
         simp only [cond_false] at hF
         subst hF
         have W := And.intro g1 (And.intro g2 (And.intro g4 (And.intro g5 (And.intro c0 (And.intro c1 (And.intro c2 (And.intro m2 (And.intro hlr ql))))))))
         repeat' (first | refine a_seq fun K hK => ?_ | (refine a_regionS ?_; simp (maxSteps := 2000000) only [Ty.w, simprocAttr, W]) | (refine a_skip ?_; try simp only [pst0, simprocAttr]) | (refine a_cond _ (by (try simp (maxSteps := 2000000) only [Ty.w, simprocAttr, W]); rfl) (fun hb => ?_) (fun hb => ?_) <;> (try simp only [hb0, decide_eq_true_eq, decide_eq_false_iff_not, simprocAttr] at hb) <;> (try (exfalso; omega))) | (refine hK _ _ ?_; clear hK; try simp only [pst0, simprocAttr]))
         refine owp_useQ (hfs _) (by (try simp only [Ty.w, simprocAttr, W]); try rfl) ?_; simp (maxSteps := 2000000) only [Ty.w, simprocAttr, W]
         repeat' (first | refine a_seq fun K hK => ?_ | ((first | refine a_regionS ?_ | refine a_ret ?_); simp (maxSteps := 2000000) only [Ty.w, simprocAttr, W, qc']) | (refine hK _ _ ?_; clear hK; try simp only [pst0, simprocAttr]))
         exact ⟨fmz_frz _ _ _, grow_zF _ _⟩
        | true =>
         have qc' : (fc != 0) = false := by simp [bne, qc]
         rw [qc] at hF
         simp only [cond_true] at hF
         subst hF
         have W := And.intro g1 (And.intro g2 (And.intro g4 (And.intro g5 (And.intro c0 (And.intro c1 (And.intro c2 (And.intro m2 (And.intro hlr ql))))))))
         repeat' (first | refine a_seq fun K hK => ?_ | (refine a_regionS ?_; simp (maxSteps := 2000000) only [Ty.w, simprocAttr, W]) | (refine a_skip ?_; try simp only [pst0, simprocAttr]) | (refine a_cond _ (by (try simp (maxSteps := 2000000) only [Ty.w, simprocAttr, W]); rfl) (fun hb => ?_) (fun hb => ?_) <;> (try simp only [hb0, decide_eq_true_eq, decide_eq_false_iff_not, simprocAttr] at hb) <;> (try (exfalso; omega))) | (refine hK _ _ ?_; clear hK; try simp only [pst0, simprocAttr]))
         refine owp_useQ (hfs _) (by (try simp only [Ty.w, simprocAttr, W]); try rfl) ?_; simp (maxSteps := 2000000) only [Ty.w, simprocAttr, W]
         repeat' (first | refine a_seq fun K hK => ?_ | ((first | refine a_regionS ?_ | refine a_ret ?_); simp (maxSteps := 2000000) only [Ty.w, simprocAttr, W, qc']) | (refine a_skip ?_; try simp only [pst0, simprocAttr]) | (refine a_cond _ (by (try simp (maxSteps := 2000000) only [Ty.w, simprocAttr, W, qc']); rfl) (fun hb => ?_) (fun hb => ?_) <;> (try simp only [hb0, decide_eq_true_eq, decide_eq_false_iff_not, simprocAttr] at hb) <;> (try (exfalso; omega))) | (refine hK _ _ ?_; clear hK; try simp only [pst0, simprocAttr]))
         exact ⟨frz_tup2 (frz_agg (by simp [Fm.cells, Ex.rows, pmRows, strRows, FrzL, FrzTo, ef])), grow_zF _ _⟩
      | false =>
       simp only [show bEq yt opNot = false from c2, Bool.false_eq_true, if_false] at hF
       cases c3 : (yt.data.toList == (#[105, 109, 112, 108, 121] : Array UInt8).toList) with
       | true =>
        simp only [show bEq yt opAnd = false from c0, show bEq yt opOr = false from c1, show bEq yt opNot = false from c2, show bEq yt opImp = true from c3, if_true, Bool.false_eq_true, if_false] at hF
        unfold lstR at hF
        generalize fmPs rest = E at hF hfs
        obtain ⟨fs, fc⟩ := E
        simp only at hF hfs
        have ef := fms_in h.next fs
        cases ql : ((rest.length : Int) != 2) with
        | true =>
         simp only [ql, cond_true] at hF
         subst hF
         repeat' (first | refine a_seq fun K hK => ?_ | ((first | refine a_regionS ?_ | refine a_ret ?_); simp (maxSteps := 2000000) only [Ty.w, simprocAttr, g1, g2, g4, g5, c0, c1, c2, c3, hlr, ql]) | (refine a_cond _ (by (try simp (maxSteps := 2000000) only [Ty.w, simprocAttr, g1, g2, g4, g5, c0, c1, c2, c3, hlr, ql]); rfl) (fun hb => ?_) (fun hb => ?_) <;> (try simp only [hb0, decide_eq_true_eq, decide_eq_false_iff_not, simprocAttr] at hb) <;> (try (exfalso; omega))) | (refine hK _ _ ?_; clear hK; try simp only [pst0, simprocAttr]))
         exact ⟨fmz_frz _ _ _, grow_zF _ _⟩
        | false =>
         simp only [ql, cond_false] at hF
         cases qc : fc == 0 with
         | false =>
          have qc' : (fc != 0) = true := by simp [bne, qc]
          rw [qc] at hF
          simp only [cond_false] at hF
          subst hF
          have W := And.intro g1 (And.intro g2 (And.intro g4 (And.intro g5 (And.intro c0 (And.intro c1 (And.intro c2 (And.intro c3 (And.intro hlr ql))))))))
          repeat' (first | refine a_seq fun K hK => ?_ | (refine a_regionS ?_; simp (maxSteps := 2000000) only [Ty.w, simprocAttr, W]) | (refine a_skip ?_; try simp only [pst0, simprocAttr]) | (refine a_cond _ (by (try simp (maxSteps := 2000000) only [Ty.w, simprocAttr, W]); rfl) (fun hb => ?_) (fun hb => ?_) <;> (try simp only [hb0, decide_eq_true_eq, decide_eq_false_iff_not, simprocAttr] at hb) <;> (try (exfalso; omega))) | (refine hK _ _ ?_; clear hK; try simp only [pst0, simprocAttr]))
          refine owp_useQ (hfs _) (by (try simp only [Ty.w, simprocAttr, W]); try rfl) ?_; simp (maxSteps := 2000000) only [Ty.w, simprocAttr, W]
          repeat' (first | refine a_seq fun K hK => ?_ | ((first | refine a_regionS ?_ | refine a_ret ?_); simp (maxSteps := 2000000) only [Ty.w, simprocAttr, W, qc']) | (refine hK _ _ ?_; clear hK; try simp only [pst0, simprocAttr]))
          exact ⟨fmz_frz _ _ _, grow_zF _ _⟩
         | true =>
          have qc' : (fc != 0) = false := by simp [bne, qc]
          rw [qc] at hF
          simp only [cond_true] at hF
          subst hF
          have W := And.intro g1 (And.intro g2 (And.intro g4 (And.intro g5 (And.intro c0 (And.intro c1 (And.intro c2 (And.intro c3 (And.intro hlr ql))))))))
          repeat' (first | refine a_seq fun K hK => ?_ | (refine a_regionS ?_; simp (maxSteps := 2000000) only [Ty.w, simprocAttr, W]) | (refine a_skip ?_; try simp only [pst0, simprocAttr]) | (refine a_cond _ (by (try simp (maxSteps := 2000000) only [Ty.w, simprocAttr, W]); rfl) (fun hb => ?_) (fun hb => ?_) <;> (try simp only [hb0, decide_eq_true_eq, decide_eq_false_iff_not, simprocAttr] at hb) <;> (try (exfalso; omega))) | (refine hK _ _ ?_; clear hK; try simp only [pst0, simprocAttr]))
          refine owp_useQ (hfs _) (by (try simp only [Ty.w, simprocAttr, W]); try rfl) ?_; simp (maxSteps := 2000000) only [Ty.w, simprocAttr, W]
          repeat' (first | refine a_seq fun K hK => ?_ | ((first | refine a_regionS ?_ | refine a_ret ?_); simp (maxSteps := 2000000) only [Ty.w, simprocAttr, W, qc']) | (refine a_skip ?_; try simp only [pst0, simprocAttr]) | (refine a_cond _ (by (try simp (maxSteps := 2000000) only [Ty.w, simprocAttr, W, qc']); rfl) (fun hb => ?_) (fun hb => ?_) <;> (try simp only [hb0, decide_eq_true_eq, decide_eq_false_iff_not, simprocAttr] at hb) <;> (try (exfalso; omega))) | (refine hK _ _ ?_; clear hK; try simp only [pst0, simprocAttr]))
          exact ⟨frz_tup2 (frz_agg (by simp [Fm.cells, Ex.rows, pmRows, strRows, FrzL, FrzTo, ef])), grow_zF _ _⟩
       | false =>
        simp only [show bEq yt opImp = false from c3, Bool.false_eq_true, if_false] at hF
        cases c4 : (yt.data.toList == (#[102, 111, 114, 97, 108, 108] : Array UInt8).toList) with
        | true =>
         simp only [show bEq yt opAnd = false from c0, show bEq yt opOr = false from c1, show bEq yt opNot = false from c2, show bEq yt opImp = false from c3, show bEq yt opAll = true from c4, if_true, Bool.false_eq_true, if_false] at hF
         have hcl := fun h : Heap => hqu yt h
         generalize quantR yt rest = E at hF hcl
         subst hF
         obtain ⟨f, fc⟩ := F
         have ef := fm_frz h.next
         obtain ⟨fop, fna, far, fpa, fex, fki⟩ := f
         simp only [Fm.cells] at hcl
         repeat' (first | refine a_seq fun K hK => ?_ | (refine a_regionS ?_; simp (maxSteps := 2000000) only [Ty.w, simprocAttr, g1, g2, g4, g5, c0, c1, c2, c3, c4]) | (refine a_skip ?_; try simp only [pst0, simprocAttr]) | (refine a_cond _ (by (try simp (maxSteps := 2000000) only [Ty.w, simprocAttr, g1, g2, g4, g5, c0, c1, c2, c3, c4]); rfl) (fun hb => ?_) (fun hb => ?_) <;> (try simp only [hb0, decide_eq_true_eq, decide_eq_false_iff_not, simprocAttr] at hb) <;> (try (exfalso; omega))) | (refine hK _ _ ?_; clear hK; try simp only [pst0, simprocAttr]))
         refine owp_useQ (hcl _) (by (try simp only [Ty.w, simprocAttr, g1, g2, g4, g5, c0, c1, c2, c3, c4]); try rfl) ?_; simp (maxSteps := 2000000) only [Ty.w, simprocAttr, g1, g2, g4, g5, c0, c1, c2, c3, c4]
         repeat' (first | (refine a_ret ?_; simp (maxSteps := 2000000) only [Ty.w, simprocAttr, g1, g2, g4, g5, c0, c1, c2, c3, c4]) | (refine hK _ _ ?_; clear hK; try simp only [pst0, simprocAttr]))
         exact ⟨frz_tup2 (frz_agg (by simpa only [Fm.cells] using ef _ (.mk fop fna far fpa fex fki))), grow_zF _ _⟩
        | false =>
         simp only [show bEq yt opAll = false from c4, Bool.false_eq_true, if_false] at hF
         cases c5 : (yt.data.toList == (#[101, 120, 105, 115, 116, 115] : Array UInt8).toList) with
         | true =>
          simp only [show bEq yt opAnd = false from c0, show bEq yt opOr = false from c1, show bEq yt opNot = false from c2, show bEq yt opImp = false from c3, show bEq yt opAll = false from c4, show bEq yt opSome = true from c5, if_true, Bool.false_eq_true, if_false] at hF
          have hcl := fun h : Heap => hqu yt h
          generalize quantR yt rest = E at hF hcl
          subst hF
          obtain ⟨f, fc⟩ := F
          have ef := fm_frz h.next
          obtain ⟨fop, fna, far, fpa, fex, fki⟩ := f
          simp only [Fm.cells] at hcl
          repeat' (first | refine a_seq fun K hK => ?_ | (refine a_regionS ?_; simp (maxSteps := 2000000) only [Ty.w, simprocAttr, g1, g2, g4, g5, c0, c1, c2, c3, c4, c5]) | (refine a_cond _ (by (try simp (maxSteps := 2000000) only [Ty.w, simprocAttr, g1, g2, g4, g5, c0, c1, c2, c3, c4, c5]); rfl) (fun hb => ?_) (fun hb => ?_) <;> (try simp only [hb0, decide_eq_true_eq, decide_eq_false_iff_not, simprocAttr] at hb) <;> (try (exfalso; omega))) | (refine hK _ _ ?_; clear hK; try simp only [pst0, simprocAttr]))
          refine owp_useQ (hcl _) (by (try simp only [Ty.w, simprocAttr, g1, g2, g4, g5, c0, c1, c2, c3, c4, c5]); try rfl) ?_; simp (maxSteps := 2000000) only [Ty.w, simprocAttr, g1, g2, g4, g5, c0, c1, c2, c3, c4, c5]
          repeat' (first | (refine a_ret ?_; simp (maxSteps := 2000000) only [Ty.w, simprocAttr, g1, g2, g4, g5, c0, c1, c2, c3, c4, c5]) | (refine hK _ _ ?_; clear hK; try simp only [pst0, simprocAttr]))
          exact ⟨frz_tup2 (frz_agg (by simpa only [Fm.cells] using ef _ (.mk fop fna far fpa fex fki))), grow_zF _ _⟩
         | false =>
          simp only [show bEq yt opSome = false from c5, Bool.false_eq_true, if_false] at hF
          cases c6 : (yt.data.toList == (#[60] : Array UInt8).toList) with
          | true =>
           simp only [show bEq yt opAnd = false from c0, show bEq yt opOr = false from c1, show bEq yt opNot = false from c2, show bEq yt opImp = false from c3, show bEq yt opAll = false from c4, show bEq yt opSome = false from c5, show bEq yt opLt = true from c6, if_true, Bool.false_eq_true, if_false] at hF
           have hcl := fun h : Heap => hcm yt h
           generalize cmpR yt rest = E at hF hcl
           subst hF
           obtain ⟨f, fc⟩ := F
           have ef := fm_frz h.next
           obtain ⟨fop, fna, far, fpa, fex, fki⟩ := f
           simp only [Fm.cells] at hcl
           have W := And.intro g1 (And.intro g2 (And.intro g4 (And.intro g5 (And.intro c0 (And.intro c1 (And.intro c2 (And.intro c3 (And.intro c4 (And.intro c5 c6)))))))))
           repeat' (first | refine a_seq fun K hK => ?_ | (refine a_regionS ?_; simp (maxSteps := 2000000) only [Ty.w, simprocAttr, W]) | (refine a_skip ?_; try simp only [pst0, simprocAttr]) | (refine a_cond _ (by (try simp (maxSteps := 2000000) only [Ty.w, simprocAttr, W]); rfl) (fun hb => ?_) (fun hb => ?_) <;> (try simp only [hb0, decide_eq_true_eq, decide_eq_false_iff_not, simprocAttr] at hb) <;> (try (exfalso; omega))) | (refine hK _ _ ?_; clear hK; try simp only [pst0, simprocAttr]))
           refine owp_useQ (hcl _) (by (try simp only [Ty.w, simprocAttr, W]); try rfl) ?_; simp (maxSteps := 2000000) only [Ty.w, simprocAttr, W]
           repeat' (first | (refine a_ret ?_; simp (maxSteps := 2000000) only [Ty.w, simprocAttr, W]) | (refine hK _ _ ?_; clear hK; try simp only [pst0, simprocAttr]))
           exact ⟨frz_tup2 (frz_agg (by simpa only [Fm.cells] using ef _ (.mk fop fna far fpa fex fki))), grow_zF _ _⟩
          | false =>
           simp only [show bEq yt opLt = false from c6, Bool.false_eq_true, if_false] at hF
           cases c7 : (yt.data.toList == (#[60, 61] : Array UInt8).toList) with
           | true =>
            simp only [show bEq yt opAnd = false from c0, show bEq yt opOr = false from c1, show bEq yt opNot = false from c2, show bEq yt opImp = false from c3, show bEq yt opAll = false from c4, show bEq yt opSome = false from c5, show bEq yt opLt = false from c6, show bEq yt opLe = true from c7, if_true, Bool.false_eq_true, if_false] at hF
            have hcl := fun h : Heap => hcm yt h
            generalize cmpR yt rest = E at hF hcl
            subst hF
            obtain ⟨f, fc⟩ := F
            have ef := fm_frz h.next
            obtain ⟨fop, fna, far, fpa, fex, fki⟩ := f
            simp only [Fm.cells] at hcl
            have W := And.intro g1 (And.intro g2 (And.intro g4 (And.intro g5 (And.intro c0 (And.intro c1 (And.intro c2 (And.intro c3 (And.intro c4 (And.intro c5 (And.intro c6 c7))))))))))
            repeat' (first | refine a_seq fun K hK => ?_ | (refine a_regionS ?_; simp (maxSteps := 2000000) only [Ty.w, simprocAttr, W]) | (refine a_skip ?_; try simp only [pst0, simprocAttr]) | (refine a_cond _ (by (try simp (maxSteps := 2000000) only [Ty.w, simprocAttr, W]); rfl) (fun hb => ?_) (fun hb => ?_) <;> (try simp only [hb0, decide_eq_true_eq, decide_eq_false_iff_not, simprocAttr] at hb) <;> (try (exfalso; omega))) | (refine hK _ _ ?_; clear hK; try simp only [pst0, simprocAttr]))
            refine owp_useQ (hcl _) (by (try simp only [Ty.w, simprocAttr, W]); try rfl) ?_; simp (maxSteps := 2000000) only [Ty.w, simprocAttr, W]
            repeat' (first | (refine a_ret ?_; simp (maxSteps := 2000000) only [Ty.w, simprocAttr, W]) | (refine hK _ _ ?_; clear hK; try simp only [pst0, simprocAttr]))
            exact ⟨frz_tup2 (frz_agg (by simpa only [Fm.cells] using ef _ (.mk fop fna far fpa fex fki))), grow_zF _ _⟩
           | false =>
            simp only [show bEq yt opLe = false from c7, Bool.false_eq_true, if_false] at hF
            cases c8 : (yt.data.toList == (#[62] : Array UInt8).toList) with
            | true =>
             simp only [show bEq yt opAnd = false from c0, show bEq yt opOr = false from c1, show bEq yt opNot = false from c2, show bEq yt opImp = false from c3, show bEq yt opAll = false from c4, show bEq yt opSome = false from c5, show bEq yt opLt = false from c6, show bEq yt opLe = false from c7, show bEq yt opGt = true from c8, if_true, Bool.false_eq_true, if_false] at hF
             have hcl := fun h : Heap => hcm yt h
             generalize cmpR yt rest = E at hF hcl
             subst hF
             obtain ⟨f, fc⟩ := F
             have ef := fm_frz h.next
             obtain ⟨fop, fna, far, fpa, fex, fki⟩ := f
             simp only [Fm.cells] at hcl
             have W := And.intro g1 (And.intro g2 (And.intro g4 (And.intro g5 (And.intro c0 (And.intro c1 (And.intro c2 (And.intro c3 (And.intro c4 (And.intro c5 (And.intro c6 (And.intro c7 c8)))))))))))
             repeat' (first | refine a_seq fun K hK => ?_ | (refine a_regionS ?_; simp (maxSteps := 2000000) only [Ty.w, simprocAttr, W]) | (refine a_skip ?_; try simp only [pst0, simprocAttr]) | (refine a_cond _ (by (try simp (maxSteps := 2000000) only [Ty.w, simprocAttr, W]); rfl) (fun hb => ?_) (fun hb => ?_) <;> (try simp only [hb0, decide_eq_true_eq, decide_eq_false_iff_not, simprocAttr] at hb) <;> (try (exfalso; omega))) | (refine hK _ _ ?_; clear hK; try simp only [pst0, simprocAttr]))
             refine owp_useQ (hcl _) (by (try simp only [Ty.w, simprocAttr, W]); try rfl) ?_; simp (maxSteps := 2000000) only [Ty.w, simprocAttr, W]
             repeat' (first | (refine a_ret ?_; simp (maxSteps := 2000000) only [Ty.w, simprocAttr, W]) | (refine hK _ _ ?_; clear hK; try simp only [pst0, simprocAttr]))
             exact ⟨frz_tup2 (frz_agg (by simpa only [Fm.cells] using ef _ (.mk fop fna far fpa fex fki))), grow_zF _ _⟩
            | false =>
             simp only [show bEq yt opGt = false from c8, Bool.false_eq_true, if_false] at hF
             cases c9 : (yt.data.toList == (#[62, 61] : Array UInt8).toList) with
             | true =>
              simp only [show bEq yt opAnd = false from c0, show bEq yt opOr = false from c1, show bEq yt opNot = false from c2, show bEq yt opImp = false from c3, show bEq yt opAll = false from c4, show bEq yt opSome = false from c5, show bEq yt opLt = false from c6, show bEq yt opLe = false from c7, show bEq yt opGt = false from c8, show bEq yt opGe = true from c9, if_true, Bool.false_eq_true, if_false] at hF
              have hcl := fun h : Heap => hcm yt h
              generalize cmpR yt rest = E at hF hcl
              subst hF
              obtain ⟨f, fc⟩ := F
              have ef := fm_frz h.next
              obtain ⟨fop, fna, far, fpa, fex, fki⟩ := f
              simp only [Fm.cells] at hcl
              have W := And.intro g1 (And.intro g2 (And.intro g4 (And.intro g5 (And.intro c0 (And.intro c1 (And.intro c2 (And.intro c3 (And.intro c4 (And.intro c5 (And.intro c6 (And.intro c7 (And.intro c8 c9))))))))))))
              repeat' (first | refine a_seq fun K hK => ?_ | (refine a_regionS ?_; simp (maxSteps := 2000000) only [Ty.w, simprocAttr, W]) | (refine a_cond _ (by (try simp (maxSteps := 2000000) only [Ty.w, simprocAttr, W]); rfl) (fun hb => ?_) (fun hb => ?_) <;> (try simp only [hb0, decide_eq_true_eq, decide_eq_false_iff_not, simprocAttr] at hb) <;> (try (exfalso; omega))) | (refine hK _ _ ?_; clear hK; try simp only [pst0, simprocAttr]))
              refine owp_useQ (hcl _) (by (try simp only [Ty.w, simprocAttr, W]); try rfl) ?_; simp (maxSteps := 2000000) only [Ty.w, simprocAttr, W]
              repeat' (first | (refine a_ret ?_; simp (maxSteps := 2000000) only [Ty.w, simprocAttr, W]) | (refine hK _ _ ?_; clear hK; try simp only [pst0, simprocAttr]))
              exact ⟨frz_tup2 (frz_agg (by simpa only [Fm.cells] using ef _ (.mk fop fna far fpa fex fki))), grow_zF _ _⟩
             | false =>
              simp only [show bEq yt opGe = false from c9, Bool.false_eq_true, if_false] at hF
              cases c10 : (yt.data.toList == (#[61] : Array UInt8).toList) with
              | true =>
               simp only [show bEq yt opAnd = false from c0, show bEq yt opOr = false from c1, show bEq yt opNot = false from c2, show bEq yt opImp = false from c3, show bEq yt opAll = false from c4, show bEq yt opSome = false from c5, show bEq yt opLt = false from c6, show bEq yt opLe = false from c7, show bEq yt opGt = false from c8, show bEq yt opGe = false from c9, show bEq yt opEq = true from c10, if_true, Bool.false_eq_true, if_false] at hF
               have hcl := fun h : Heap => hcm yt h
               generalize cmpR yt rest = E at hF hcl
               unfold termsR at hF
               generalize termsM rest = TM at hF htm
               obtain ⟨ts, tc⟩ := TM
               simp only at hF htm
               cases ql : ((rest.length : Int) == 2) with
               | false =>
                have hw : wordsB rest = false := by
                 match rest, ql with
                 | [], _ => rfl
                 | [_], _ => rfl
                 | [_, _], ql => exact absurd ql (by simp)
                 | _ :: _ :: _ :: _, _ => rfl
                rw [hw] at hF
                simp only [cond_false] at hF
                subst hF
                obtain ⟨f, fc⟩ := F
                have ef := fm_frz h.next
                obtain ⟨fop, fna, far, fpa, fex, fki⟩ := f
                simp only [Fm.cells] at hcl
                have W := And.intro g1 (And.intro g2 (And.intro g4 (And.intro g5 (And.intro c0 (And.intro c1 (And.intro c2 (And.intro c3 (And.intro c4 (And.intro c5 (And.intro c6 (And.intro c7 (And.intro c8 (And.intro c9 (And.intro c10 (And.intro hlr ql)))))))))))))))
                repeat' (first | refine a_seq fun K hK => ?_ | (refine a_regionS ?_; simp (maxSteps := 2000000) only [Ty.w, simprocAttr, W]) | (refine a_skip ?_; try simp only [pst0, simprocAttr]) | (refine a_cond _ (by (try simp (maxSteps := 2000000) only [Ty.w, simprocAttr, W]); rfl) (fun hb => ?_) (fun hb => ?_) <;> (try simp only [hb0, decide_eq_true_eq, decide_eq_false_iff_not, simprocAttr] at hb) <;> (try (exfalso; omega))) | (refine hK _ _ ?_; clear hK; try simp only [pst0, simprocAttr]))
                refine owp_useQ (hcl _) (by (try simp only [Ty.w, simprocAttr, W]); try rfl) ?_; simp (maxSteps := 2000000) only [Ty.w, simprocAttr, W]
                repeat' (first | (refine a_ret ?_; simp (maxSteps := 2000000) only [Ty.w, simprocAttr, W]) | (refine hK _ _ ?_; clear hK; try simp only [pst0, simprocAttr]))
                exact ⟨frz_tup2 (frz_agg (by simpa only [Fm.cells] using ef _ (.mk fop fna far fpa fex fki))), grow_zF _ _⟩
               | true =>
                obtain ⟨a, b, rfl⟩ : ∃ a b, rest = [a, b] := by
                 have h2 : rest.length = 2 := by simp at ql; omega
                 match rest, h2 with
                 | [a, b], _ => exact ⟨a, b, rfl⟩
                clear hfs hqu hcm hnm hrl hrb ql
                have ra := Sx.rows_get (l := [a, b]) (i := 0) rfl
                have rb := Sx.rows_get (l := [a, b]) (i := 1) rfl
                obtain ⟨n2, hn2⟩ : ∃ n2 : Nat, n2 = 2 := ⟨2, rfl⟩
                have hl2 : (Sx.rows [a, b]).length = n2 := by rw [hlr, hn2]; try rfl
                have ql : ((n2 : Int) == 2) = true := by rw [hn2]; try rfl
                clear hlr hn2
                generalize Sx.rows [a, b] = R2 at g5 htm hcl ra rb hl2
                obtain ⟨ak, av, al, ac, at2, aks⟩ := a
                obtain ⟨bk, bv, bl, bc, bt2, bks⟩ := b
                simp only [Sx.cells] at ra rb
                simp only [wordsB, kindOf] at hF
                cases ka : (ak == 1) with
                | false =>
                 simp only [ka, Bool.false_and, cond_false] at hF
                 subst hF
                 obtain ⟨f, fc⟩ := F
                 have ef := fm_frz h.next
                 obtain ⟨fop, fna, far, fpa, fex, fki⟩ := f
                 simp only [Fm.cells] at hcl
                 have W := And.intro g1 (And.intro g2 (And.intro g4 (And.intro g5 (And.intro c0 (And.intro c1 (And.intro c2 (And.intro c3 (And.intro c4 (And.intro c5 (And.intro c6 (And.intro c7 (And.intro c8 (And.intro c9 (And.intro c10 (And.intro hl2 (And.intro ql (And.intro ra (And.intro rb ka))))))))))))))))))
                 repeat' (first | refine a_seq fun K hK => ?_ | (refine a_regionS ?_; simp (maxSteps := 2000000) only [Ty.w, simprocAttr, W]) | (refine a_skip ?_; try simp only [pst0, simprocAttr]) | (refine a_cond _ (by (try simp (maxSteps := 2000000) only [Ty.w, simprocAttr, W]); rfl) (fun hb => ?_) (fun hb => ?_) <;> (try simp only [hb0, decide_eq_true_eq, decide_eq_false_iff_not, simprocAttr] at hb) <;> (try (exfalso; omega))) | (refine hK _ _ ?_; clear hK; try simp only [pst0, simprocAttr]))
                 refine owp_useQ (hcl _) (by (try simp only [Ty.w, simprocAttr, W]); try rfl) ?_; simp (maxSteps := 2000000) only [Ty.w, simprocAttr, W]
                 repeat' (first | (refine a_ret ?_; simp (maxSteps := 2000000) only [Ty.w, simprocAttr, W]) | (refine hK _ _ ?_; clear hK; try simp only [pst0, simprocAttr]))
                 exact ⟨frz_tup2 (frz_agg (by simpa only [Fm.cells] using ef _ (.mk fop fna far fpa fex fki))), grow_zF _ _⟩
                | true =>
                 cases kb : (bk == 1) with
                 | false =>
                  simp only [ka, kb, Bool.true_and, cond_false] at hF
                  subst hF
                  obtain ⟨f, fc⟩ := F
                  have ef := fm_frz h.next
                  obtain ⟨fop, fna, far, fpa, fex, fki⟩ := f
                  simp only [Fm.cells] at hcl
                  have W := And.intro g1 (And.intro g2 (And.intro g4 (And.intro g5 (And.intro c0 (And.intro c1 (And.intro c2 (And.intro c3 (And.intro c4 (And.intro c5 (And.intro c6 (And.intro c7 (And.intro c8 (And.intro c9 (And.intro c10 (And.intro hl2 (And.intro ql (And.intro ra (And.intro rb (And.intro ka kb)))))))))))))))))))
                  repeat' (first | refine a_seq fun K hK => ?_ | (refine a_regionS ?_; simp (maxSteps := 2000000) only [Ty.w, simprocAttr, W]) | (refine a_skip ?_; try simp only [pst0, simprocAttr]) | (refine a_cond _ (by (try simp (maxSteps := 2000000) only [Ty.w, simprocAttr, W]); rfl) (fun hb => ?_) (fun hb => ?_) <;> (try simp only [hb0, decide_eq_true_eq, decide_eq_false_iff_not, simprocAttr] at hb) <;> (try (exfalso; omega))) | (refine hK _ _ ?_; clear hK; try simp only [pst0, simprocAttr]))
                  refine owp_useQ (hcl _) (by (try simp only [Ty.w, simprocAttr, W]); try rfl) ?_; simp (maxSteps := 2000000) only [Ty.w, simprocAttr, W]
                  repeat' (first | (refine a_ret ?_; simp (maxSteps := 2000000) only [Ty.w, simprocAttr, W]) | (refine hK _ _ ?_; clear hK; try simp only [pst0, simprocAttr]))
                  exact ⟨frz_tup2 (frz_agg (by simpa only [Fm.cells] using ef _ (.mk fop fna far fpa fex fki))), grow_zF _ _⟩
                 | true =>
                  simp only [ka, kb, Bool.true_and, cond_true] at hF
                  cases qc : tc == 0 with
                  | false =>
                   have qc' : (tc != 0) = true := by simp [bne, qc]
                   rw [qc] at hF
                   simp only [cond_false] at hF
                   subst hF
                   have W := And.intro g1 (And.intro g2 (And.intro g4 (And.intro g5 (And.intro c0 (And.intro c1 (And.intro c2 (And.intro c3 (And.intro c4 (And.intro c5 (And.intro c6 (And.intro c7 (And.intro c8 (And.intro c9 (And.intro c10 (And.intro hl2 (And.intro ql (And.intro ra (And.intro rb (And.intro ka kb)))))))))))))))))))
                   repeat' (first | refine a_seq fun K hK => ?_ | (refine a_regionS ?_; simp (maxSteps := 2000000) only [Ty.w, simprocAttr, W]) | (refine a_cond _ (by (try simp (maxSteps := 2000000) only [Ty.w, simprocAttr, W]); rfl) (fun hb => ?_) (fun hb => ?_) <;> (try simp only [hb0, decide_eq_true_eq, decide_eq_false_iff_not, simprocAttr] at hb) <;> (try (exfalso; omega))) | (refine hK _ _ ?_; clear hK; try simp only [pst0, simprocAttr]))
                   refine owp_useQ (htm _) (by (try simp only [Ty.w, simprocAttr, W]); try rfl) ?_; simp (maxSteps := 2000000) only [Ty.w, simprocAttr, W]
                   repeat' (first | refine a_seq fun K hK => ?_ | ((first | refine a_regionS ?_ | refine a_ret ?_); simp (maxSteps := 2000000) only [Ty.w, simprocAttr, W, qc']) | (refine hK _ _ ?_; clear hK; try simp only [pst0, simprocAttr]))
                   exact ⟨fmz_frz _ _ _, grow_zF _ _⟩
                  | true =>
                   have qc' : (tc != 0) = false := by simp [bne, qc]
                   rw [qc] at hF
                   simp only [cond_true] at hF
                   subst hF
                   have W := And.intro g1 (And.intro g2 (And.intro g4 (And.intro g5 (And.intro c0 (And.intro c1 (And.intro c2 (And.intro c3 (And.intro c4 (And.intro c5 (And.intro c6 (And.intro c7 (And.intro c8 (And.intro c9 (And.intro c10 (And.intro hl2 (And.intro ql (And.intro ra (And.intro rb (And.intro ka kb)))))))))))))))))))
                   repeat' (first | refine a_seq fun K hK => ?_ | (refine a_regionS ?_; simp (maxSteps := 2000000) only [Ty.w, simprocAttr, W]) | (refine a_cond _ (by (try simp (maxSteps := 2000000) only [Ty.w, simprocAttr, W]); rfl) (fun hb => ?_) (fun hb => ?_) <;> (try simp only [hb0, decide_eq_true_eq, decide_eq_false_iff_not, simprocAttr] at hb) <;> (try (exfalso; omega))) | (refine hK _ _ ?_; clear hK; try simp only [pst0, simprocAttr]))
                   refine owp_useQ (htm _) (by (try simp only [Ty.w, simprocAttr, W]); try rfl) ?_; simp (maxSteps := 2000000) only [Ty.w, simprocAttr, W]
                   repeat' (first | refine a_seq fun K hK => ?_ | ((first | refine a_regionS ?_ | refine a_ret ?_); simp (maxSteps := 2000000) only [Ty.w, simprocAttr, W, qc']) | (refine a_skip ?_; try simp only [pst0, simprocAttr]) | (refine a_cond _ (by (try simp (maxSteps := 2000000) only [Ty.w, simprocAttr, W, qc']); rfl) (fun hb => ?_) (fun hb => ?_) <;> (try simp only [hb0, decide_eq_true_eq, decide_eq_false_iff_not, simprocAttr] at hb) <;> (try (exfalso; omega))) | (refine hK _ _ ?_; clear hK; try simp only [pst0, simprocAttr]))
                   exact ⟨frz_tup2 (frz_agg (by simp [opSame, Fm.cells, Ex.rows, Fm.rows, pmRows, FrzL, FrzTo, strs_in])), grow_zF _ _⟩
              | false =>
               simp only [show bEq yt opEq = false from c10, Bool.false_eq_true, if_false] at hF
               generalize nameB yt = bn at hnm hF
               cases bn with
               | false =>
                simp only [cond_false] at hF
                subst hF
                repeat' (first | refine a_seq fun K hK => ?_ | (refine a_block ?_) | (refine a_regionS ?_; simp (maxSteps := 2000000) only [Ty.w, simprocAttr, g1, g2, g4, g5, c0, c1, c2, c3, c4, c5, c6, c7, c8, c9, c10]) | (refine a_skip ?_; try simp only [pst0, simprocAttr]) | (refine a_cond _ (by (try simp (maxSteps := 2000000) only [Ty.w, simprocAttr, g1, g2, g4, g5, c0, c1, c2, c3, c4, c5, c6, c7, c8, c9, c10]); rfl) (fun hb => ?_) (fun hb => ?_) <;> (try simp only [hb0, decide_eq_true_eq, decide_eq_false_iff_not, simprocAttr] at hb) <;> (try (exfalso; omega))) | (refine hK _ _ ?_; clear hK; try simp only [pst0, simprocAttr]))
                refine owp_useQ (hnm _) (by (try simp only [Ty.w, simprocAttr, g1, g2, g4, g5, c0, c1, c2, c3, c4, c5, c6, c7, c8, c9, c10, Bool.not_false]); try rfl) ?_; simp (maxSteps := 2000000) only [Ty.w, simprocAttr, g1, g2, g4, g5, c0, c1, c2, c3, c4, c5, c6, c7, c8, c9, c10, Bool.not_false]
                repeat' (first | refine a_seq fun K hK => ?_ | ((first | refine a_regionS ?_ | refine a_ret ?_); simp (maxSteps := 2000000) only [Ty.w, simprocAttr, g1, g2, g4, g5, Bool.not_false]) | (refine hK _ _ ?_; clear hK; try simp only [pst0, simprocAttr]))
                exact ⟨fmz_frz _ _ _, grow_zF _ _⟩
               | true =>
                simp only [cond_true] at hF
                unfold termsR at hF
                generalize termsM rest = TM at hF htm
                obtain ⟨ts, tc⟩ := TM
                simp only at hF htm
                cases qc : tc == 0 with
                | false =>
                 have qc' : (tc != 0) = true := by simp [bne, qc]
                 rw [qc] at hF
                 simp only [cond_false] at hF
                 subst hF
                 have W := And.intro g1 (And.intro g2 (And.intro g4 (And.intro g5 (And.intro c0 (And.intro c1 (And.intro c2 (And.intro c3 (And.intro c4 (And.intro c5 (And.intro c6 (And.intro c7 (And.intro c8 (And.intro c9 c10)))))))))))))
                 repeat' (first | refine a_seq fun K hK => ?_ | (refine a_block ?_) | (refine a_regionS ?_; simp (maxSteps := 2000000) only [Ty.w, simprocAttr, W]) | (refine a_skip ?_; try simp only [pst0, simprocAttr]) | (refine a_cond _ (by (try simp (maxSteps := 2000000) only [Ty.w, simprocAttr, W]); rfl) (fun hb => ?_) (fun hb => ?_) <;> (try simp only [hb0, decide_eq_true_eq, decide_eq_false_iff_not, simprocAttr] at hb) <;> (try (exfalso; omega))) | (refine hK _ _ ?_; clear hK; try simp only [pst0, simprocAttr]))
                 refine owp_useQ (hnm _) (by (try simp only [Ty.w, simprocAttr, W, Bool.not_true]); try rfl) ?_; simp (maxSteps := 2000000) only [Ty.w, simprocAttr, W, Bool.not_true]
                 repeat' (first | refine a_seq fun K hK => ?_ | (refine a_regionS ?_; simp (maxSteps := 2000000) only [Ty.w, simprocAttr, W, Bool.not_true]) | (refine a_skip ?_; try simp only [pst0, simprocAttr]) | (refine a_cond _ (by (try simp (maxSteps := 2000000) only [Ty.w, simprocAttr, W, Bool.not_true]); rfl) (fun hb => ?_) (fun hb => ?_) <;> (try simp only [hb0, decide_eq_true_eq, decide_eq_false_iff_not, simprocAttr] at hb) <;> (try (exfalso; omega))) | (refine hK _ _ ?_; clear hK; try simp only [pst0, simprocAttr]))
                 refine owp_useQ (htm _) (by (try simp only [Ty.w, simprocAttr, W]); try rfl) ?_; simp (maxSteps := 2000000) only [Ty.w, simprocAttr, W]
                 repeat' (first | refine a_seq fun K hK => ?_ | ((first | refine a_regionS ?_ | refine a_ret ?_); simp (maxSteps := 2000000) only [Ty.w, simprocAttr, W, qc']) | (refine hK _ _ ?_; clear hK; try simp only [pst0, simprocAttr]))
                 exact ⟨fmz_frz _ _ _, grow_zF _ _⟩
                | true =>
                 have qc' : (tc != 0) = false := by simp [bne, qc]
                 rw [qc] at hF
                 simp only [cond_true] at hF
                 subst hF
                 have W := And.intro g1 (And.intro g2 (And.intro g4 (And.intro g5 (And.intro c0 (And.intro c1 (And.intro c2 (And.intro c3 (And.intro c4 (And.intro c5 (And.intro c6 (And.intro c7 (And.intro c8 (And.intro c9 c10)))))))))))))
                 repeat' (first | refine a_seq fun K hK => ?_ | (refine a_block ?_) | (refine a_regionS ?_; simp (maxSteps := 2000000) only [Ty.w, simprocAttr, W]) | (refine a_skip ?_; try simp only [pst0, simprocAttr]) | (refine a_cond _ (by (try simp (maxSteps := 2000000) only [Ty.w, simprocAttr, W]); rfl) (fun hb => ?_) (fun hb => ?_) <;> (try simp only [hb0, decide_eq_true_eq, decide_eq_false_iff_not, simprocAttr] at hb) <;> (try (exfalso; omega))) | (refine hK _ _ ?_; clear hK; try simp only [pst0, simprocAttr]))
                 refine owp_useQ (hnm _) (by (try simp only [Ty.w, simprocAttr, W, Bool.not_true]); try rfl) ?_; simp (maxSteps := 2000000) only [Ty.w, simprocAttr, W, Bool.not_true]
                 repeat' (first | refine a_seq fun K hK => ?_ | (refine a_regionS ?_; simp (maxSteps := 2000000) only [Ty.w, simprocAttr, W, Bool.not_true]) | (refine a_skip ?_; try simp only [pst0, simprocAttr]) | (refine a_cond _ (by (try simp (maxSteps := 2000000) only [Ty.w, simprocAttr, W, Bool.not_true]); rfl) (fun hb => ?_) (fun hb => ?_) <;> (try simp only [hb0, decide_eq_true_eq, decide_eq_false_iff_not, simprocAttr] at hb) <;> (try (exfalso; omega))) | (refine hK _ _ ?_; clear hK; try simp only [pst0, simprocAttr]))
                 refine owp_useQ (htm _) (by (try simp only [Ty.w, simprocAttr, W]); try rfl) ?_; simp (maxSteps := 2000000) only [Ty.w, simprocAttr, W]
                 repeat' (first | refine a_seq fun K hK => ?_ | ((first | refine a_regionS ?_ | refine a_ret ?_); simp (maxSteps := 2000000) only [Ty.w, simprocAttr, W, qc']) | (refine a_skip ?_; try simp only [pst0, simprocAttr]) | (refine a_cond _ (by (try simp (maxSteps := 2000000) only [Ty.w, simprocAttr, W, qc']); rfl) (fun hb => ?_) (fun hb => ?_) <;> (try simp only [hb0, decide_eq_true_eq, decide_eq_false_iff_not, simprocAttr] at hb) <;> (try (exfalso; omega))) | (refine hK _ _ ?_; clear hK; try simp only [pst0, simprocAttr]))
                 exact ⟨frz_tup2 (frz_agg (by simp [opAtom, Fm.cells, Ex.rows, Fm.rows, pmRows, FrzL, FrzTo, strs_in])), grow_zF _ _⟩
end Go.Proofs.Ytjlkapgpjamnkaa
