/- What the claim rests on, part 7: the abstract machine, contracts of the functions, plain data. -/
import Derived.Test.YtjlkapgpjamnkaaZp6
set_option linter.unusedVariables false
set_option linter.unusedSimpArgs false
set_option linter.unusedSectionVars false
namespace Go.Proofs.Ytjlkapgpjamnkaa
open Go.AM
set_option maxHeartbeats 8000000
set_option maxRecDepth 20000
theorem parse_step {kind value line col : Int} {text : ByteArray} {kids : List Sx} (hok : (Sx.mk kind value line col text kids).ok) (hsm : (Sx.mk kind value line col text kids).small)
  (ih : ∀ x ∈ kids, ∀ h : Heap, PCall Try.prog 73 [.agg x.cells] h fun r h' => r = .tup [.agg (fmP x).1.cells, errP (fmP x).2] ∧ h' = h) (h : Heap) :
  PCall Try.prog 73 [.agg (Sx.mk kind value line col text kids).cells] h fun r h' => r = .tup [.agg (fmP (.mk kind value line col text kids)).1.cells, errP (fmP (.mk kind value line col text kids)).2] ∧ h' = h := by
 refine PCall.frz Ty.hb_73 ?_
 have hok' := hok
 simp only [Sx.ok] at hok'
 obtain ⟨_, _, _, hkl, hks⟩ := hok'
 rw [Sx.oks_iff] at hks
 simp only [Sx.small] at hsm
 obtain ⟨hl, hss⟩ := hsm
 rw [Sx.smalls_iff] at hss
 have hh := head_c hok
 have hX := fmP_head (.mk kind value line col text kids)
 generalize fmP (.mk kind value line col text kids) = F at hX
 have hMo := fun w rest e => headM_ok (w := w) (rest := rest) hok e
 have hMr := fun w rest e => headM_rest (kind := kind) (value := value) (line := line) (col := col) (text := text) (kids := kids) (w := w) (rest := rest) e
 generalize headM (.mk kind value line col text kids) = M at hh hX hMo hMr
 have kk : kindOf (.mk kind value line col text kids) = kind := rfl
 have k5 : kidsOf (.mk kind value line col text kids) = kids := rfl
 rw [kk, k5] at hX
 have hlk := Sx.rows_len kids
 have hg1 : ∀ r, Grow h ((h.new (.arr 6 [[.sc (.string ⟨#[]⟩), .sc (.string ⟨#[]⟩), .sc (.slice none 0 0), .sc (.slice none 0 0), .sc (.slice none 0 0), .sc (.slice none 0 0)]])).set h.next r) := fun r => ((Grow.refl h).new _).set (Nat.le_refl _) _
 refine pcall_body (ow := fun _ => false) (wf := fun _ => false) Ty.mixed Try.func73 rfl Ty.hb_73 (by rw [Try.ntmps73]; simp) ?_
 rw [Try.ntmps73, Try.results73]
 simp only [Sx.cells] at hh ⊢
 repeat' (first | (with_reducible refine a_hold 1 ?_) | refine a_seq fun K hK => ?_ | (refine a_regionS ?_; simp (maxSteps := 2000000) only [Ty.w, simprocAttr]) | (refine hK _ _ ?_; clear hK; try simp only [pst0, simprocAttr]))
 refine ⟨?_⟩
 refine a_cut (fun S h' => S 1 = .cptr (Sx.mk kind value line col text kids).cells ∧ S 2 = .ptr h.next 0 0 ∧ h' = h.new fmZ ∧ (kind == 3 && kids.isEmpty) = false) ?_ ?_
 ·clear hh
  simp only [Sx.cells, fmZ]
  cases k3 : (kind == 3) with
  | false =>
   repeat' (first | refine a_seq fun K hK => ?_ | (refine a_regionS ?_; simp (maxSteps := 2000000) only [Ty.w, simprocAttr, k3]) | (refine a_skip ?_; try simp only [pst0, simprocAttr]) | (refine a_cond _ (by (try simp (maxSteps := 2000000) only [Ty.w, simprocAttr, k3]); rfl) (fun hb => ?_) (fun hb => ?_) <;> (try simp only [hb0, decide_eq_true_eq, decide_eq_false_iff_not, simprocAttr] at hb) <;> (try (exfalso; omega))) | (refine hK _ _ ?_; clear hK; try simp only [pst0, simprocAttr]))
   all_goals first | rfl | (simp only [Ty.w, simprocAttr, Bool.false_and]; done)
  | true =>
   cases q : (((Sx.rows kids).length : Int) == 0) with
   | false =>
    have q' : kids.isEmpty = false := by
     cases kids with
     | nil => simp [Sx.rows] at q
     | cons _ _ => rfl
    repeat' (first | refine a_seq fun K hK => ?_ | (refine a_regionS ?_; simp (maxSteps := 2000000) only [Ty.w, simprocAttr, k3, q]) | (refine a_skip ?_; try simp only [pst0, simprocAttr]) | (refine a_cond _ (by (try simp (maxSteps := 2000000) only [Ty.w, simprocAttr, k3, q]); rfl) (fun hb => ?_) (fun hb => ?_) <;> (try simp only [hb0, decide_eq_true_eq, decide_eq_false_iff_not, simprocAttr] at hb) <;> (try (exfalso; omega))) | (refine hK _ _ ?_; clear hK; try simp only [pst0, simprocAttr]))
    all_goals first | rfl | (simp only [Ty.w, simprocAttr, q', Bool.true_and]; done)
   | true =>
    have q' : kids.isEmpty = true := by
     cases kids with
     | nil => rfl
     | cons _ _ => simp [Sx.rows] at q; omega
    rw [k3, q'] at hX
    simp only [Bool.and_self, cond_true] at hX
    subst hX
    repeat' (first | refine a_seq fun K hK => ?_ | ((first | refine a_regionS ?_ | refine a_ret ?_); simp (maxSteps := 2000000) only [Ty.w, simprocAttr, k3, q]) | (refine hK _ _ ?_; clear hK; try simp only [pst0, simprocAttr]))
    refine ⟨?_, hg1 _⟩
    have e2 : errP 0 = .sc .nilIface := rfl
    simp only [e2, opAnd, Fm.cells, Ex.rows, Fm.rows, pmRows, strRows, List.map_nil, FrzTo, FrzL]
    exact ⟨_, rfl, ⟨_, rfl, rfl, rfl, .inr (.inl ⟨rfl, .inr rfl⟩), .inr (.inl ⟨rfl, .inr rfl⟩), .inr (.inl ⟨rfl, .inr rfl⟩), .inr (.inl ⟨rfl, .inr rfl⟩), trivial⟩, rfl, trivial⟩
 ·rintro S h' ⟨g1, g2, rfl, hq⟩
  rw [hq] at hX
  simp only [cond_false] at hX
  simp only [Sx.cells] at g1
  simp only [fmZ]
  clear hq
  cases M with
  | none =>
   simp only at hX
   simp only [headV] at hh
   repeat' (first | refine a_seq fun K hK => ?_ | (refine a_regionS ?_; simp (maxSteps := 2000000) only [Ty.w, simprocAttr, g1, g2]))
   refine owp_useQ (hh _) (by (try simp only [Ty.w, simprocAttr, g1, g2]); try rfl) ?_; simp (maxSteps := 2000000) only [Ty.w, simprocAttr, g1, g2]
   repeat' (first | refine a_seq fun K hK => ?_ | ((first | refine a_regionS ?_ | refine a_ret ?_); simp (maxSteps := 2000000) only [Ty.w, simprocAttr, g1, g2, Bool.not_false]) | (refine hK _ _ ?_; clear hK; try simp only [pst0, simprocAttr]))
   exact errRet (.inl rfl) (hg1 _) hX
  | some wr =>
   obtain ⟨w, rest⟩ := wr
   obtain ⟨hw, hro⟩ := hMo w rest rfl
   obtain ⟨y0, hy0⟩ := hMr w rest rfl
   have hrl : rest.length ≤ 1048576 := by rw [hy0] at hl; simp at hl; omega
   have ihr : ∀ x ∈ rest, ∀ h : Heap, PCall Try.prog 73 [.agg x.cells] h fun r h' => r = .tup [.agg (fmP x).1.cells, errP (fmP x).2] ∧ h' = h := fun x hx => ih x (by rw [hy0]; simp [hx])
   have hsr : ∀ x ∈ rest, x.small := fun x hx => hss x (by rw [hy0]; simp [hx])
   clear ih hMo hMr hks hss hl hkl hlk hy0 y0
   simp only at hX
   simp only [headV] at hh
   have hlr := Sx.rows_len rest
   repeat' (first | (with_reducible refine a_hold 6 ?_) | refine a_seq fun K hK => ?_ | (refine a_regionS ?_; simp (maxSteps := 2000000) only [Ty.w, simprocAttr, g1, g2]))
   refine owp_useQ (hh _) (by (try simp only [Ty.w, simprocAttr, g1, g2]); try rfl) ?_; simp (maxSteps := 2000000) only [Ty.w, simprocAttr, g1, g2]
   repeat' (first | (with_reducible refine a_hold 6 ?_) | refine a_seq fun K hK => ?_ | (refine a_regionS ?_; simp (maxSteps := 2000000) only [Ty.w, simprocAttr, g1, g2, Bool.not_true]) | (refine a_skip ?_; try simp only [pst0, simprocAttr]) | (refine a_cond _ (by (try simp (maxSteps := 2000000) only [Ty.w, simprocAttr, g1, g2, Bool.not_true]); rfl) (fun hb => ?_) (fun hb => ?_) <;> (try simp only [hb0, decide_eq_true_eq, decide_eq_false_iff_not, simprocAttr] at hb) <;> (try (exfalso; omega))) | (refine hK _ _ ?_; clear hK; try simp only [pst0, simprocAttr]))
   refine ⟨?_⟩
   refine a_cut (fun S h' => S 2 = .ptr h.next 0 0 ∧ S 4 = sPV w ∧ S 5 = .imm 6 (Sx.rows rest) ∧ h' = h.new fmZ ∧ (decide (countW w ≥ 0) && !(decide (countW w = rest.length))) = false) ?_ ?_
   ·have hcn := fun h : Heap => count_c (h := h) (op := w)
    simp only [fmZ]
    generalize countW w = n at hcn hX
    cases c1 : decide (n ≥ 0) with
    | false =>
     repeat' (first | refine a_seq fun K hK => ?_ | (refine a_regionS ?_; simp (maxSteps := 2000000) only [Ty.w, simprocAttr, g1, g2]))
     refine owp_useQ (hcn _) (by (try simp only [Ty.w, simprocAttr, g1, g2]); try rfl) ?_; simp (maxSteps := 2000000) only [Ty.w, simprocAttr, g1, g2]
     repeat' (first | refine a_seq fun K hK => ?_ | (refine a_regionS ?_; simp (maxSteps := 2000000) only [Ty.w, simprocAttr, g1, g2, c1]) | (refine a_skip ?_; try simp only [pst0, simprocAttr]) | (refine a_cond _ (by (try simp (maxSteps := 2000000) only [Ty.w, simprocAttr, g1, g2, c1]); rfl) (fun hb => ?_) (fun hb => ?_) <;> (try simp only [hb0, decide_eq_true_eq, decide_eq_false_iff_not, simprocAttr] at hb) <;> (try (exfalso; omega))) | (refine hK _ _ ?_; clear hK; try simp only [pst0, simprocAttr]))
     all_goals first | rfl | (simp only [Ty.w, simprocAttr, g2, Bool.false_and]; done)
    | true =>
     cases c2 : (n != (rest.length : Int)) with
     | false =>
      have c2' : decide (n = (rest.length : Int)) = true := by simpa using c2
      repeat' (first | refine a_seq fun K hK => ?_ | (refine a_regionS ?_; simp (maxSteps := 2000000) only [Ty.w, simprocAttr, g1, g2]))
      refine owp_useQ (hcn _) (by (try simp only [Ty.w, simprocAttr, g1, g2]); try rfl) ?_; simp (maxSteps := 2000000) only [Ty.w, simprocAttr, g1, g2]
      repeat' (first | refine a_seq fun K hK => ?_ | (refine a_regionS ?_; simp (maxSteps := 2000000) only [Ty.w, simprocAttr, g1, g2, c1, hlr, c2]) | (refine a_skip ?_; try simp only [pst0, simprocAttr]) | (refine a_cond _ (by (try simp (maxSteps := 2000000) only [Ty.w, simprocAttr, g1, g2, c1, hlr, c2]); rfl) (fun hb => ?_) (fun hb => ?_) <;> (try simp only [hb0, decide_eq_true_eq, decide_eq_false_iff_not, simprocAttr] at hb) <;> (try (exfalso; omega))) | (refine hK _ _ ?_; clear hK; try simp only [pst0, simprocAttr]))
      all_goals first | rfl | (simp only [Ty.w, simprocAttr, g2, c2', Bool.true_and, Bool.not_true]; done)
     | true =>
      have c2' : decide (n = (rest.length : Int)) = false := by simpa using c2
      rw [c1, c2'] at hX
      simp only [Bool.not_false, Bool.and_self, cond_true] at hX
      repeat' (first | refine a_seq fun K hK => ?_ | (refine a_regionS ?_; simp (maxSteps := 2000000) only [Ty.w, simprocAttr, g1, g2]))
      refine owp_useQ (hcn _) (by (try simp only [Ty.w, simprocAttr, g1, g2]); try rfl) ?_; simp (maxSteps := 2000000) only [Ty.w, simprocAttr, g1, g2]
      repeat' (first | refine a_seq fun K hK => ?_ | ((first | refine a_regionS ?_ | refine a_ret ?_); simp (maxSteps := 2000000) only [Ty.w, simprocAttr, g1, g2, c1, hlr, c2]) | (refine hK _ _ ?_; clear hK; try simp only [pst0, simprocAttr]))
      exact errRet (.inl rfl) (hg1 _) hX
   ·clear g1 g2 hh
    rintro S h' ⟨g2, g4, g5, rfl, hcnt⟩
    rw [hcnt] at hX
    simp only [cond_false] at hX
    simp only [fmZ]
    have n1 : (h.next = h.next + 1) = False := by simp
    repeat' (first | (with_reducible refine a_hold 11 ?_) | refine a_seq fun K hK => ?_ | (refine a_regionS ?_; simp (maxSteps := 2000000) only [Ty.w, simprocAttr, g2, g4, g5]) | (refine hK _ _ ?_; clear hK; try simp only [pst0, simprocAttr]))
    refine ⟨?_⟩
    refine a_gen (fun S h' => S 2 = .ptr h.next 0 0 ∧ S 4 = sPV w ∧ S 5 = .imm 6 (Sx.rows rest) ∧ S 8 = .ptr (h.next + 1) 0 0 ∧ S 9 = .sc .nilIface ∧ PI h w h') ?_ ?_
    ·simp only [Ty.w, simprocAttr, g2, g4, g5]
     refine ⟨(((Grow.refl h).new _).new _).set (Nat.le_succ _) _, rfl, ?_, ?_⟩
     ·simp [Heap.new, Heap.set, fmZ]
     ·simp [Heap.new, Heap.set]
    ·clear g2 g4 g5
     rintro S h' ⟨g2, g4, g5, g8, g9, hpi⟩
     refine a_cut (PJ h F) ?_ ?_
     ·have o1 := hpi.o1
      have o2 := hpi.o2
      simp only [fmZ] at o1
      have hN := hpi.nxt
      have n1 : (h.next = h.next + 1) = False := by simp
      have n2 : (h.next + 1 = h.next) = False := by simp
      have hz2 : errP 0 = .sc .nilIface := rfl
      repeat' (refine a_hold 16 ?_)
      refine ⟨?_⟩
      refine a_cut (fun S h2 => h2 = h' ∧ S 2 = .ptr h.next 0 0 ∧ S 4 = sPV w ∧ S 5 = .imm 6 (Sx.rows rest) ∧ S 8 = .ptr (h.next + 1) 0 0 ∧ S 9 = .sc .nilIface ∧ S 44 = sPV w ∧ S 59 = .sc (.bool (isQ w))) ?_ ?_
      ·cases u1 : (w.data.toList == (#[102, 111, 114, 97, 108, 108] : Array UInt8).toList) with
       | true =>
        have hq : isQ w = true := by unfold isQ; simp [show bEq w opAll = true from u1]
        rw [hq]
        repeat' (first | refine a_seq fun K hK => ?_ | (refine a_regionS ?_; simp (maxSteps := 2000000) only [Ty.w, simprocAttr, g2, g4, g5, g8, g9, u1]) | (refine a_skip ?_; try simp only [pst0, simprocAttr]) | (refine a_cond _ (by (try simp (maxSteps := 2000000) only [Ty.w, simprocAttr, g2, g4, g5, g8, g9, u1]); rfl) (fun hb => ?_) (fun hb => ?_) <;> (try simp only [hb0, decide_eq_true_eq, decide_eq_false_iff_not, simprocAttr] at hb) <;> (try (exfalso; omega))) | (refine hK _ _ ?_; clear hK; try simp only [pst0, simprocAttr]))
        all_goals first | rfl | (simp only [Ty.w, simprocAttr, g2, g4, g5, g8, g9]; done)
       | false =>
        cases u2 : (w.data.toList == (#[101, 120, 105, 115, 116, 115] : Array UInt8).toList) with
        | true =>
         have hq : isQ w = true := by unfold isQ; simp [show bEq w opAll = false from u1, show bEq w opSome = true from u2]
         rw [hq]
         repeat' (first | refine a_seq fun K hK => ?_ | (refine a_regionS ?_; simp (maxSteps := 2000000) only [Ty.w, simprocAttr, g2, g4, g5, g8, g9, u1, u2]) | (refine a_cond _ (by (try simp (maxSteps := 2000000) only [Ty.w, simprocAttr, g2, g4, g5, g8, g9, u1, u2]); rfl) (fun hb => ?_) (fun hb => ?_) <;> (try simp only [hb0, decide_eq_true_eq, decide_eq_false_iff_not, simprocAttr] at hb) <;> (try (exfalso; omega))) | (refine hK _ _ ?_; clear hK; try simp only [pst0, simprocAttr]))
         all_goals first | rfl | (simp only [Ty.w, simprocAttr, g2, g4, g5, g8, g9]; done)
        | false =>
         have hq : isQ w = false := by unfold isQ; simp [show bEq w opAll = false from u1, show bEq w opSome = false from u2]
         rw [hq]
         repeat' (first | refine a_seq fun K hK => ?_ | (refine a_regionS ?_; simp (maxSteps := 2000000) only [Ty.w, simprocAttr, g2, g4, g5, g8, g9, u1, u2]) | (refine a_cond _ (by (try simp (maxSteps := 2000000) only [Ty.w, simprocAttr, g2, g4, g5, g8, g9, u1, u2]); rfl) (fun hb => ?_) (fun hb => ?_) <;> (try simp only [hb0, decide_eq_true_eq, decide_eq_false_iff_not, simprocAttr] at hb) <;> (try (exfalso; omega))) | (refine hK _ _ ?_; clear hK; try simp only [pst0, simprocAttr]))
         all_goals first | rfl | (simp only [Ty.w, simprocAttr, g2, g4, g5, g8, g9]; done)
      ·clear g2 g4 g5 g8 g9
       rintro S h' ⟨rfl, g2, g4, g5, g8, g9, g44, g59⟩
       cases hQ : isQ w with
       | true =>
        rw [hQ] at g59
        simp only [fmBody, hQ, cond_true] at hX
        obtain ⟨p, b, rfl⟩ : ∃ p b, rest = [p, b] := by
         have h2 := count_two (.inl hQ) hcnt
         match rest, h2 with
         | [p, b], _ => exact ⟨p, b, rfl⟩
        simp only at hX
        have hpo := hro p (by simp)
        have hps := hsr p (by simp)
        have hck := fun h => kids_c (l := [b]) (by simp) (fun x hx => ihr x (by simp at hx ⊢; exact .inr hx)) h
        obtain ⟨pk, pv, pl, pc, pt, pks⟩ := p
        simp only [kindOf, kidsOf] at hX
        simp only [Sx.ok] at hpo
        simp only [Sx.small] at hps
        have hcp := fun h => parseParams_c (vars := true) (l := pks) hps.1 (Sx.oks_iff.1 hpo.2.2.2.2) h
        have r0 := Sx.rows_get (l := [.mk pk pv pl pc pt pks, b]) (i := 0) rfl
        have hq1 : (1 : Int) ≤ ((Sx.rows [.mk pk pv pl pc pt pks, b]).length : Int) := by rw [hlr]; simp
        have ht : List.take (((Sx.rows [.mk pk pv pl pc pt pks, b]).length : Int) - 1).toNat (List.drop 1 (Sx.rows [.mk pk pv pl pc pt pks, b])) = Sx.rows [b] := by rw [hlr]; try rfl
        generalize Sx.rows [.mk pk pv pl pc pt pks, b] = R at g5 r0 hq1 ht hlr
        generalize Sx.rows [b] = R1 at ht hck
        simp only [Sx.cells] at r0
        cases q3 : (pk != 3) with
        | true =>
         rw [show (pk == 3) = false by simpa using q3] at hX
         simp only [cond_false] at hX
         repeat' (first | refine a_seq fun K hK => ?_ | ((first | refine a_regionS ?_ | refine a_ret ?_); simp (maxSteps := 2000000) only [Ty.w, simprocAttr, g2, g4, g5, g8, g9, g44, g59, r0, q3, o1, o2]) | (refine a_cond _ (by (try simp (maxSteps := 2000000) only [Ty.w, simprocAttr, g2, g4, g5, g8, g9, g44, g59, r0, q3, o1, o2]); rfl) (fun hb => ?_) (fun hb => ?_) <;> (try simp only [hb0, decide_eq_true_eq, decide_eq_false_iff_not, simprocAttr] at hb) <;> (try (exfalso; omega))) | (refine hK _ _ ?_; clear hK; try simp only [pst0, simprocAttr]))
         exact errRet (.inl rfl) (hpi.grow.set (Nat.le_refl _) _) hX
        | false =>
         rw [show (pk == 3) = true by simpa using q3] at hX
         simp only [cond_true] at hX
         generalize paramsP true pks = PP at hcp hX
         obtain ⟨pms, c⟩ := PP
         simp only at hcp hX
         cases hc : c == 0 with
         | false =>
          rw [hc] at hX
          simp only [cond_false] at hX
          have e0 : errP c = errV c := by simp only [errP, hc, cond_false]
          rw [e0] at hcp
          simp only [errV] at hcp e0
          repeat' (first | refine a_seq fun K hK => ?_ | (refine a_regionS ?_; simp (maxSteps := 2000000) only [Ty.w, simprocAttr, g2, g4, g5, g8, g9, g44, g59, r0, q3, o1, o2]) | (refine a_skip ?_; try simp only [pst0, simprocAttr]) | (refine a_cond _ (by (try simp (maxSteps := 2000000) only [Ty.w, simprocAttr, g2, g4, g5, g8, g9, g44, g59, r0, q3, o1, o2]); rfl) (fun hb => ?_) (fun hb => ?_) <;> (try simp only [hb0, decide_eq_true_eq, decide_eq_false_iff_not, simprocAttr] at hb) <;> (try (exfalso; omega))) | (refine hK _ _ ?_; clear hK; try simp only [pst0, simprocAttr]))
          refine owp_useQ (hcp _) (by (try simp only [Ty.w, simprocAttr, g2, g4, g5, g8, g9, g44, r0, o1, o2, n1, n2, set_set]); try rfl) ?_; simp (maxSteps := 2000000) only [Ty.w, simprocAttr, g2, g4, g5, g8, g9, g44, r0, o1, o2, n1, n2, set_set]
          repeat' (first | refine a_seq fun K hK => ?_ | (refine a_block ?_) | (refine a_regionS ?_; simp (maxSteps := 2000000) only [Ty.w, simprocAttr, g2, g4, g5, g8, g9, g44, r0, o1, o2, n1, n2]) | (refine a_skip ?_; try simp only [pst0, simprocAttr]) | (refine hK _ _ ?_; clear hK; try simp only [pst0, simprocAttr]))
          refine PJ.mk2 hpi c w ⟨#[]⟩ _ _ _ _ ?_ ?_ ?_ ?_ ?_ ?_
          ·simp only [Ty.w, simprocAttr, g2]
          ·simp only [Ty.w, simprocAttr, g8]
          ·simp only [Ty.w, simprocAttr]; first | exact e0.symm | rfl
          ·exact ⟨rfl, rfl, rfl, rfl⟩
          ·exact fun _ => hX
          ·intro hh; rw [hc] at hh; exact absurd hh (by simp)
         | true =>
          rw [hc] at hX
          simp only [cond_true] at hX
          have e0 : errP c = .sc .nilIface := by simp only [errP, hc, cond_true]
          rw [e0] at hcp
          clear e0
          generalize fmPs [b] = KK at hck hX
          obtain ⟨ks, c2⟩ := KK
          simp only at hck hX
          cases hc2 : c2 == 0 with
          | false =>
           rw [hc2] at hX
           simp only [cond_false] at hX
           have e0 : errP c2 = errV c2 := by simp only [errP, hc2, cond_false]
           rw [e0] at hck
           simp only [errV] at hck e0
           have W := And.intro g2 (And.intro g4 (And.intro g5 (And.intro g8 (And.intro g9 (And.intro g44 (And.intro r0 (And.intro o1 (And.intro n1 (And.intro o2 (And.intro n2 (And.intro hq1 ht)))))))))))
           repeat' (first | refine a_seq fun K hK => ?_ | (refine a_regionS ?_; simp (maxSteps := 2000000) only [Ty.w, simprocAttr, W, g59, q3]) | (refine a_skip ?_; try simp only [pst0, simprocAttr]) | (refine a_cond _ (by (try simp (maxSteps := 2000000) only [Ty.w, simprocAttr, W, g59, q3]); rfl) (fun hb => ?_) (fun hb => ?_) <;> (try simp only [hb0, decide_eq_true_eq, decide_eq_false_iff_not, simprocAttr] at hb) <;> (try (exfalso; omega))) | (refine hK _ _ ?_; clear hK; try simp only [pst0, simprocAttr]))
           refine owp_useQ (hcp _) (by (try simp only [Ty.w, simprocAttr, W, set_set]); try rfl) ?_; simp (maxSteps := 2000000) only [Ty.w, simprocAttr, W, set_set]
           repeat' (first | refine a_seq fun K hK => ?_ | (refine a_block ?_) | ((first | refine a_regionS ?_ | refine a_region (fun K hK => ?_)); simp (maxSteps := 2000000) only [Ty.w, simprocAttr, W, Option.getD_some, Option.getD_none, Int.le_refl, Int.toNat_one]) | (refine hK _ _ ?_; clear hK; try simp only [pst0, simprocAttr]))
           refine owp_useQ (hck _) (by (try simp only [Ty.w, simprocAttr, W, Option.getD_some, Option.getD_none, Int.le_refl, Int.toNat_one, set_set]); try rfl) ?_; simp (maxSteps := 2000000) only [Ty.w, simprocAttr, W, Option.getD_some, Option.getD_none, Int.le_refl, Int.toNat_one, set_set]
           repeat' (refine hK _ _ ?_; clear hK; try simp only [pst0, simprocAttr])
           try rw [set_set]
           refine PJ.mk2 hpi c2 w ⟨#[]⟩ _ _ _ _ ?_ ?_ ?_ ?_ ?_ ?_
           ·simp only [Ty.w, simprocAttr, g2]
           ·simp only [Ty.w, simprocAttr, g8]
           ·simp only [Ty.w, simprocAttr]; first | exact e0.symm | rfl
           ·exact ⟨rfl, rfl, rfl, rfl⟩
           ·exact fun _ => hX
           ·intro hh; rw [hc2] at hh; exact absurd hh (by simp)
          | true =>
           rw [hc2] at hX
           simp only [cond_true] at hX
           have e0 : errP c2 = .sc .nilIface := by simp only [errP, hc2, cond_true]
           rw [e0] at hck
           have W := And.intro g2 (And.intro g4 (And.intro g5 (And.intro g8 (And.intro g9 (And.intro g44 (And.intro r0 (And.intro o1 (And.intro n1 (And.intro o2 (And.intro n2 (And.intro hq1 ht)))))))))))
           repeat' (first | refine a_seq fun K hK => ?_ | (refine a_regionS ?_; simp (maxSteps := 2000000) only [Ty.w, simprocAttr, W, g59, q3]) | (refine a_skip ?_; try simp only [pst0, simprocAttr]) | (refine a_cond _ (by (try simp (maxSteps := 2000000) only [Ty.w, simprocAttr, W, g59, q3]); rfl) (fun hb => ?_) (fun hb => ?_) <;> (try simp only [hb0, decide_eq_true_eq, decide_eq_false_iff_not, simprocAttr] at hb) <;> (try (exfalso; omega))) | (refine hK _ _ ?_; clear hK; try simp only [pst0, simprocAttr]))
           refine owp_useQ (hcp _) (by (try simp only [Ty.w, simprocAttr, W, set_set]); try rfl) ?_; simp (maxSteps := 2000000) only [Ty.w, simprocAttr, W, set_set]
           repeat' (first | refine a_seq fun K hK => ?_ | (refine a_block ?_) | ((first | refine a_regionS ?_ | refine a_region (fun K hK => ?_)); simp (maxSteps := 2000000) only [Ty.w, simprocAttr, W, Option.getD_some, Option.getD_none, Int.le_refl, Int.toNat_one]) | (refine hK _ _ ?_; clear hK; try simp only [pst0, simprocAttr]))
           refine owp_useQ (hck _) (by (try simp only [Ty.w, simprocAttr, W, Option.getD_some, Option.getD_none, Int.le_refl, Int.toNat_one, set_set]); try rfl) ?_; simp (maxSteps := 2000000) only [Ty.w, simprocAttr, W, Option.getD_some, Option.getD_none, Int.le_refl, Int.toNat_one, set_set]
           repeat' (refine hK _ _ ?_; clear hK; try simp only [pst0, simprocAttr])
           try rw [set_set]
           refine PJ.mk2 hpi c2 w ⟨#[]⟩ _ _ _ _ ?_ ?_ ?_ ?_ ?_ ?_
           ·simp only [Ty.w, simprocAttr, g2]
           ·simp only [Ty.w, simprocAttr, g8]
           ·simp only [Ty.w, simprocAttr]; first | exact e0.symm | rfl
           ·exact ⟨rfl, rfl, rfl, rfl⟩
           ·intro hh; rw [hc2] at hh; exact absurd hh (by simp)
           ·subst hX; refine fun _ => ⟨rfl, fun hh => ?_⟩; simp only [Fm.cells, FrzL]; refine ⟨?_, ?_, ?_, ?_, ?_, ?_, trivial⟩ <;> (unfold FrzTo; first | rfl | exact .inr (.inl ⟨rfl, .inr rfl⟩) | exact .inl ⟨rfl, strs_in _ _⟩ | exact .inl ⟨rfl, pms_in _ _⟩ | exact .inl ⟨rfl, fms_in _ _⟩)
       | false =>
        rw [hQ] at g59
        simp only [fmBody, hQ, cond_false] at hX
        repeat' (first | (refine a_hold 23 ?_) | (refine a_cond _ (by (try simp (maxSteps := 2000000) only [Ty.w, simprocAttr, g2, g4, g5, g8, g9, g44, g59]); rfl) (fun hb => ?_) (fun hb => ?_) <;> (try simp only [hb0, decide_eq_true_eq, decide_eq_false_iff_not, simprocAttr] at hb) <;> (try (exfalso; omega))))
        refine ⟨?_⟩
        refine a_cut (fun S h2 => h2 = h' ∧ S 2 = .ptr h.next 0 0 ∧ S 4 = sPV w ∧ S 5 = .imm 6 (Sx.rows rest) ∧ S 8 = .ptr (h.next + 1) 0 0 ∧ S 9 = .sc .nilIface ∧ S 44 = sPV w ∧ S 87 = .sc (.bool (isLst w))) ?_ ?_
        ·cases u1 : (w.data.toList == (#[110, 111, 116] : Array UInt8).toList) with
         | true =>
          have hq : isLst w = true := by unfold isLst; simp [show bEq w opNot = true from u1]
          rw [hq]
          repeat' (first | refine a_seq fun K hK => ?_ | (refine a_regionS ?_; simp (maxSteps := 2000000) only [Ty.w, simprocAttr, g2, g4, g5, g8, g9, g44, g59, u1]) | (refine a_skip ?_; try simp only [pst0, simprocAttr]) | (refine a_cond _ (by (try simp (maxSteps := 2000000) only [Ty.w, simprocAttr, g2, g4, g5, g8, g9, g44, g59, u1]); rfl) (fun hb => ?_) (fun hb => ?_) <;> (try simp only [hb0, decide_eq_true_eq, decide_eq_false_iff_not, simprocAttr] at hb) <;> (try (exfalso; omega))) | (refine hK _ _ ?_; clear hK; try simp only [pst0, simprocAttr]))
          all_goals first | rfl | (simp only [Ty.w, simprocAttr, g2, g4, g5, g8, g9, g44]; done)
         | false =>
          cases u2 : (w.data.toList == (#[105, 109, 112, 108, 121] : Array UInt8).toList) with
          | true =>
           have hq : isLst w = true := by unfold isLst; simp [show bEq w opNot = false from u1, show bEq w opImp = true from u2]
           rw [hq]
           repeat' (first | refine a_seq fun K hK => ?_ | (refine a_regionS ?_; simp (maxSteps := 2000000) only [Ty.w, simprocAttr, g2, g4, g5, g8, g9, g44, g59, u1, u2]) | (refine a_skip ?_; try simp only [pst0, simprocAttr]) | (refine a_cond _ (by (try simp (maxSteps := 2000000) only [Ty.w, simprocAttr, g2, g4, g5, g8, g9, g44, g59, u1, u2]); rfl) (fun hb => ?_) (fun hb => ?_) <;> (try simp only [hb0, decide_eq_true_eq, decide_eq_false_iff_not, simprocAttr] at hb) <;> (try (exfalso; omega))) | (refine hK _ _ ?_; clear hK; try simp only [pst0, simprocAttr]))
           all_goals first | rfl | (simp only [Ty.w, simprocAttr, g2, g4, g5, g8, g9, g44]; done)
          | false =>
           cases u3 : (w.data.toList == (#[97, 110, 100] : Array UInt8).toList) with
           | true =>
            have hq : isLst w = true := by unfold isLst; simp [show bEq w opNot = false from u1, show bEq w opImp = false from u2, show bEq w opAnd = true from u3]
            rw [hq]
            repeat' (first | refine a_seq fun K hK => ?_ | (refine a_regionS ?_; simp (maxSteps := 2000000) only [Ty.w, simprocAttr, g2, g4, g5, g8, g9, g44, g59, u1, u2, u3]) | (refine a_skip ?_; try simp only [pst0, simprocAttr]) | (refine a_cond _ (by (try simp (maxSteps := 2000000) only [Ty.w, simprocAttr, g2, g4, g5, g8, g9, g44, g59, u1, u2, u3]); rfl) (fun hb => ?_) (fun hb => ?_) <;> (try simp only [hb0, decide_eq_true_eq, decide_eq_false_iff_not, simprocAttr] at hb) <;> (try (exfalso; omega))) | (refine hK _ _ ?_; clear hK; try simp only [pst0, simprocAttr]))
            all_goals first | rfl | (simp only [Ty.w, simprocAttr, g2, g4, g5, g8, g9, g44]; done)
           | false =>
            cases u4 : (w.data.toList == (#[111, 114] : Array UInt8).toList) with
            | true =>
             have hq : isLst w = true := by unfold isLst; simp [show bEq w opNot = false from u1, show bEq w opImp = false from u2, show bEq w opAnd = false from u3, show bEq w opOr = true from u4]
             rw [hq]
             repeat' (first | refine a_seq fun K hK => ?_ | (refine a_regionS ?_; simp (maxSteps := 2000000) only [Ty.w, simprocAttr, g2, g4, g5, g8, g9, g44, g59, u1, u2, u3, u4]) | (refine a_cond _ (by (try simp (maxSteps := 2000000) only [Ty.w, simprocAttr, g2, g4, g5, g8, g9, g44, g59, u1, u2, u3, u4]); rfl) (fun hb => ?_) (fun hb => ?_) <;> (try simp only [hb0, decide_eq_true_eq, decide_eq_false_iff_not, simprocAttr] at hb) <;> (try (exfalso; omega))) | (refine hK _ _ ?_; clear hK; try simp only [pst0, simprocAttr]))
             all_goals first | rfl | (simp only [Ty.w, simprocAttr, g2, g4, g5, g8, g9, g44]; done)
            | false =>
             have hq : isLst w = false := by unfold isLst; simp [show bEq w opNot = false from u1, show bEq w opImp = false from u2, show bEq w opAnd = false from u3, show bEq w opOr = false from u4]
             rw [hq]
             repeat' (first | refine a_seq fun K hK => ?_ | (refine a_regionS ?_; simp (maxSteps := 2000000) only [Ty.w, simprocAttr, g2, g4, g5, g8, g9, g44, g59, u1, u2, u3, u4]) | (refine a_cond _ (by (try simp (maxSteps := 2000000) only [Ty.w, simprocAttr, g2, g4, g5, g8, g9, g44, g59, u1, u2, u3, u4]); rfl) (fun hb => ?_) (fun hb => ?_) <;> (try simp only [hb0, decide_eq_true_eq, decide_eq_false_iff_not, simprocAttr] at hb) <;> (try (exfalso; omega))) | (refine hK _ _ ?_; clear hK; try simp only [pst0, simprocAttr]))
             all_goals first | rfl | (simp only [Ty.w, simprocAttr, g2, g4, g5, g8, g9, g44]; done)
        ·clear g2 g4 g5 g8 g9 g44 g59
         rintro S h' ⟨rfl, g2, g4, g5, g8, g9, g44, g87⟩
         cases hL : isLst w with
         | true =>
          rw [hL] at g87 hX
          simp only [cond_true] at hX
          have hck := fun h => kids_c (l := rest) hrl ihr h
          generalize fmPs rest = KK at hck hX
          obtain ⟨ks, c2⟩ := KK
          simp only at hck hX
          cases hc2 : c2 == 0 with
          | false =>
           rw [hc2] at hX
           simp only [cond_false] at hX
           have e0 : errP c2 = errV c2 := by simp only [errP, hc2, cond_false]
           rw [e0] at hck
           simp only [errV] at hck e0
           repeat' (first | (refine a_region (fun K hK => ?_); simp (maxSteps := 2000000) only [Ty.w, simprocAttr, g2, g4, g5, g8, g9, g44, g87, o1, o2]) | (refine a_cond _ (by (try simp (maxSteps := 2000000) only [Ty.w, simprocAttr, g2, g4, g5, g8, g9, g44, g87, o1, o2]); rfl) (fun hb => ?_) (fun hb => ?_) <;> (try simp only [hb0, decide_eq_true_eq, decide_eq_false_iff_not, simprocAttr] at hb) <;> (try (exfalso; omega))))
           refine owp_useQ (hck _) (by (try simp only [Ty.w, simprocAttr, g2, g4, g5, g8, g9, g44, g87, o1, o2, n1, n2, set_set]); try rfl) ?_; simp (maxSteps := 2000000) only [Ty.w, simprocAttr, g2, g4, g5, g8, g9, g44, g87, o1, o2, n1, n2, set_set]
           repeat' (refine hK _ _ ?_; clear hK; try simp only [pst0, simprocAttr])
           refine PJ.mk2 hpi c2 w ⟨#[]⟩ _ _ _ _ ?_ ?_ ?_ ?_ ?_ ?_
           ·simp only [Ty.w, simprocAttr, g2]
           ·simp only [Ty.w, simprocAttr, g8]
           ·simp only [Ty.w, simprocAttr]; first | exact e0.symm | rfl
           ·exact ⟨rfl, rfl, rfl, rfl⟩
           ·exact fun _ => hX
           ·intro hh; rw [hc2] at hh; exact absurd hh (by simp)
          | true =>
           rw [hc2] at hX
           simp only [cond_true] at hX
           have e0 : errP c2 = .sc .nilIface := by simp only [errP, hc2, cond_true]
           rw [e0] at hck
           repeat' (first | (refine a_region (fun K hK => ?_); simp (maxSteps := 2000000) only [Ty.w, simprocAttr, g2, g4, g5, g8, g9, g44, g87, o1, o2]) | (refine a_cond _ (by (try simp (maxSteps := 2000000) only [Ty.w, simprocAttr, g2, g4, g5, g8, g9, g44, g87, o1, o2]); rfl) (fun hb => ?_) (fun hb => ?_) <;> (try simp only [hb0, decide_eq_true_eq, decide_eq_false_iff_not, simprocAttr] at hb) <;> (try (exfalso; omega))))
           refine owp_useQ (hck _) (by (try simp only [Ty.w, simprocAttr, g2, g4, g5, g8, g9, g44, g87, o1, o2, n1, n2, set_set]); try rfl) ?_; simp (maxSteps := 2000000) only [Ty.w, simprocAttr, g2, g4, g5, g8, g9, g44, g87, o1, o2, n1, n2, set_set]
           repeat' (refine hK _ _ ?_; clear hK; try simp only [pst0, simprocAttr])
           refine PJ.mk2 hpi c2 w ⟨#[]⟩ _ _ _ _ ?_ ?_ ?_ ?_ ?_ ?_
           ·simp only [Ty.w, simprocAttr, g2]
           ·simp only [Ty.w, simprocAttr, g8]
           ·simp only [Ty.w, simprocAttr]; first | exact e0.symm | rfl
           ·exact ⟨rfl, rfl, rfl, rfl⟩
           ·intro hh; rw [hc2] at hh; exact absurd hh (by simp)
           ·subst hX; refine fun _ => ⟨rfl, fun hh => ?_⟩; simp only [Fm.cells, FrzL]; refine ⟨?_, ?_, ?_, ?_, ?_, ?_, trivial⟩ <;> (unfold FrzTo; first | rfl | exact .inr (.inl ⟨rfl, .inr rfl⟩) | exact .inl ⟨rfl, strs_in _ _⟩ | exact .inl ⟨rfl, pms_in _ _⟩ | exact .inl ⟨rfl, fms_in _ _⟩)
         | false =>
          rw [hL] at g87 hX
          simp only [cond_false] at hX
          repeat' (first | (refine a_hold 28 ?_) | (refine a_cond _ (by (try simp (maxSteps := 2000000) only [Ty.w, simprocAttr, g2, g4, g5, g8, g9, g44, g87]); rfl) (fun hb => ?_) (fun hb => ?_) <;> (try simp only [hb0, decide_eq_true_eq, decide_eq_false_iff_not, simprocAttr] at hb) <;> (try (exfalso; omega))))
          refine ⟨?_⟩
          refine a_cut (fun S h2 => h2 = h' ∧ S 2 = .ptr h.next 0 0 ∧ S 4 = sPV w ∧ S 5 = .imm 6 (Sx.rows rest) ∧ S 8 = .ptr (h.next + 1) 0 0 ∧ S 9 = .sc .nilIface ∧ S 44 = sPV w ∧ S 98 = .sc (.bool (isCmp5 w))) ?_ ?_
          ·cases u1 : (w.data.toList == (#[61] : Array UInt8).toList) with
           | true =>
            have hq : isCmp5 w = true := by unfold isCmp5 isCmp; simp [show bEq w opEq = true from u1]
            rw [hq]
            repeat' (first | refine a_seq fun K hK => ?_ | (refine a_regionS ?_; simp (maxSteps := 2000000) only [Ty.w, simprocAttr, g2, g4, g5, g8, g9, g44, g87, u1]) | (refine a_skip ?_; try simp only [pst0, simprocAttr]) | (refine a_cond _ (by (try simp (maxSteps := 2000000) only [Ty.w, simprocAttr, g2, g4, g5, g8, g9, g44, g87, u1]); rfl) (fun hb => ?_) (fun hb => ?_) <;> (try simp only [hb0, decide_eq_true_eq, decide_eq_false_iff_not, simprocAttr] at hb) <;> (try (exfalso; omega))) | (refine hK _ _ ?_; clear hK; try simp only [pst0, simprocAttr]))
            all_goals first | rfl | (simp only [Ty.w, simprocAttr, g2, g4, g5, g8, g9, g44]; done)
           | false =>
            cases u2 : (w.data.toList == (#[60] : Array UInt8).toList) with
            | true =>
             have hq : isCmp5 w = true := by unfold isCmp5 isCmp; simp [show bEq w opEq = false from u1, show bEq w opLt = true from u2]
             rw [hq]
             repeat' (first | refine a_seq fun K hK => ?_ | (refine a_regionS ?_; simp (maxSteps := 2000000) only [Ty.w, simprocAttr, g2, g4, g5, g8, g9, g44, g87, u1, u2]) | (refine a_skip ?_; try simp only [pst0, simprocAttr]) | (refine a_cond _ (by (try simp (maxSteps := 2000000) only [Ty.w, simprocAttr, g2, g4, g5, g8, g9, g44, g87, u1, u2]); rfl) (fun hb => ?_) (fun hb => ?_) <;> (try simp only [hb0, decide_eq_true_eq, decide_eq_false_iff_not, simprocAttr] at hb) <;> (try (exfalso; omega))) | (refine hK _ _ ?_; clear hK; try simp only [pst0, simprocAttr]))
             all_goals first | rfl | (simp only [Ty.w, simprocAttr, g2, g4, g5, g8, g9, g44]; done)
            | false =>
             cases u3 : (w.data.toList == (#[60, 61] : Array UInt8).toList) with
             | true =>
              have hq : isCmp5 w = true := by unfold isCmp5 isCmp; simp [show bEq w opEq = false from u1, show bEq w opLt = false from u2, show bEq w opLe = true from u3]
              rw [hq]
              repeat' (first | refine a_seq fun K hK => ?_ | (refine a_regionS ?_; simp (maxSteps := 2000000) only [Ty.w, simprocAttr, g2, g4, g5, g8, g9, g44, g87, u1, u2, u3]) | (refine a_skip ?_; try simp only [pst0, simprocAttr]) | (refine a_cond _ (by (try simp (maxSteps := 2000000) only [Ty.w, simprocAttr, g2, g4, g5, g8, g9, g44, g87, u1, u2, u3]); rfl) (fun hb => ?_) (fun hb => ?_) <;> (try simp only [hb0, decide_eq_true_eq, decide_eq_false_iff_not, simprocAttr] at hb) <;> (try (exfalso; omega))) | (refine hK _ _ ?_; clear hK; try simp only [pst0, simprocAttr]))
              all_goals first | rfl | (simp only [Ty.w, simprocAttr, g2, g4, g5, g8, g9, g44]; done)
             | false =>
              cases u4 : (w.data.toList == (#[62] : Array UInt8).toList) with
              | true =>
               have hq : isCmp5 w = true := by unfold isCmp5 isCmp; simp [show bEq w opEq = false from u1, show bEq w opLt = false from u2, show bEq w opLe = false from u3, show bEq w opGt = true from u4]
               rw [hq]
               repeat' (first | refine a_seq fun K hK => ?_ | (refine a_regionS ?_; simp (maxSteps := 2000000) only [Ty.w, simprocAttr, g2, g4, g5, g8, g9, g44, g87, u1, u2, u3, u4]) | (refine a_skip ?_; try simp only [pst0, simprocAttr]) | (refine a_cond _ (by (try simp (maxSteps := 2000000) only [Ty.w, simprocAttr, g2, g4, g5, g8, g9, g44, g87, u1, u2, u3, u4]); rfl) (fun hb => ?_) (fun hb => ?_) <;> (try simp only [hb0, decide_eq_true_eq, decide_eq_false_iff_not, simprocAttr] at hb) <;> (try (exfalso; omega))) | (refine hK _ _ ?_; clear hK; try simp only [pst0, simprocAttr]))
               all_goals first | rfl | (simp only [Ty.w, simprocAttr, g2, g4, g5, g8, g9, g44]; done)
              | false =>
               cases u5 : (w.data.toList == (#[62, 61] : Array UInt8).toList) with
               | true =>
                have hq : isCmp5 w = true := by unfold isCmp5 isCmp; simp [show bEq w opEq = false from u1, show bEq w opLt = false from u2, show bEq w opLe = false from u3, show bEq w opGt = false from u4, show bEq w opGe = true from u5]
                rw [hq]
                repeat' (first | refine a_seq fun K hK => ?_ | (refine a_regionS ?_; simp (maxSteps := 2000000) only [Ty.w, simprocAttr, g2, g4, g5, g8, g9, g44, g87, u1, u2, u3, u4, u5]) | (refine a_cond _ (by (try simp (maxSteps := 2000000) only [Ty.w, simprocAttr, g2, g4, g5, g8, g9, g44, g87, u1, u2, u3, u4, u5]); rfl) (fun hb => ?_) (fun hb => ?_) <;> (try simp only [hb0, decide_eq_true_eq, decide_eq_false_iff_not, simprocAttr] at hb) <;> (try (exfalso; omega))) | (refine hK _ _ ?_; clear hK; try simp only [pst0, simprocAttr]))
                all_goals first | rfl | (simp only [Ty.w, simprocAttr, g2, g4, g5, g8, g9, g44]; done)
               | false =>
                have hq : isCmp5 w = false := by unfold isCmp5 isCmp; simp [show bEq w opEq = false from u1, show bEq w opLt = false from u2, show bEq w opLe = false from u3, show bEq w opGt = false from u4, show bEq w opGe = false from u5]
                rw [hq]
                repeat' (first | refine a_seq fun K hK => ?_ | (refine a_regionS ?_; simp (maxSteps := 2000000) only [Ty.w, simprocAttr, g2, g4, g5, g8, g9, g44, g87, u1, u2, u3, u4, u5]) | (refine a_cond _ (by (try simp (maxSteps := 2000000) only [Ty.w, simprocAttr, g2, g4, g5, g8, g9, g44, g87, u1, u2, u3, u4, u5]); rfl) (fun hb => ?_) (fun hb => ?_) <;> (try simp only [hb0, decide_eq_true_eq, decide_eq_false_iff_not, simprocAttr] at hb) <;> (try (exfalso; omega))) | (refine hK _ _ ?_; clear hK; try simp only [pst0, simprocAttr]))
                all_goals first | rfl | (simp only [Ty.w, simprocAttr, g2, g4, g5, g8, g9, g44]; done)
          ·clear g2 g4 g5 g8 g9 g44 g87
           rintro S h' ⟨rfl, g2, g4, g5, g8, g9, g44, g98⟩
           cases hC : isCmp5 w with
           | true =>
            rw [hC] at g98 hX
            simp only [cond_true] at hX
            obtain ⟨x, y, rfl⟩ : ∃ x y, rest = [x, y] := by
             have h2 := count_two (.inr hC) hcnt
             match rest, h2 with
             | [p, b], _ => exact ⟨p, b, rfl⟩
            simp only at hX
            have hcc := fun h => compare_c (w := w) (hro x (by simp)) (hro y (by simp)) (expr_c x (hro x (by simp)) (hsr x (by simp))) (expr_c y (hro y (by simp)) (hsr y (by simp))) h
            have hfz := fun hh => fm_frz h.next hh (compareP w x y).1
            generalize compareP w x y = CC at hcc hX hfz
            obtain ⟨f, c⟩ := CC
            simp only at hcc hfz
            have r0 := Sx.rows_get (l := [x, y]) (i := 0) rfl
            have r1 := Sx.rows_get (l := [x, y]) (i := 1) rfl
            generalize Sx.rows [x, y] = R at g5 r0 r1 hlr
            obtain ⟨xk, xv, xl, xc, xt, xks⟩ := x
            obtain ⟨yk, yv, yl, yc, yt, yks⟩ := y
            obtain ⟨fop, fna, far, fpa, fex, fki⟩ := f
            simp only [Sx.cells] at r0 r1 hcc
            simp only [Fm.cells] at hcc hfz
            cases hc2 : c == 0 with
            | false =>
             simp only [fin, hc2, cond_false] at hX
             have e0 : errP c = errV c := by simp only [errP, hc2, cond_false]
             rw [e0] at hcc
             simp only [errV] at hcc e0
             have W := And.intro g2 (And.intro g4 (And.intro g5 (And.intro g8 (And.intro g9 (And.intro g44 (And.intro g98 (And.intro r0 (And.intro r1 (And.intro o1 (And.intro o2 (And.intro n1 n2)))))))))))
             repeat' (first | (refine a_draw (by decide +kernel) (fun K hK => ?_); simp (maxSteps := 2000000) only [Ty.w, simprocAttr, W]) | (refine a_cond _ (by (try simp (maxSteps := 2000000) only [Ty.w, simprocAttr, W]); rfl) (fun hb => ?_) (fun hb => ?_) <;> (try simp only [hb0, decide_eq_true_eq, decide_eq_false_iff_not, simprocAttr] at hb) <;> (try (exfalso; omega))))
             (first | refine a_dcall0 (hcc _) (by (try simp only [Ty.w, simprocAttr, W, set_set]); try rfl) ?_ | refine a_dcallA (hcc _) (by (try simp only [Ty.w, simprocAttr, W, set_set]); try rfl) (by simp only [Ty.w, simprocAttr, W, set_set]; try trivial) ?_); simp (maxSteps := 2000000) only [Ty.w, simprocAttr, W, Option.getD_some, set_set]
             repeat' (first | (refine hK _ _ ?_; clear hK; try simp only [pst0, simprocAttr]) | (with_reducible refine a_past2 (by simp only [List.forall_mem_cons, Ty.w, simprocAttr, g2, g4, g5, g8, g9, g44, g98, o1, o2, n1, n2]; (repeat' apply And.intro) <;> first | trivial | exact .inl (by decide +kernel)) ?_; try simp (maxSteps := 2000000) only [Ty.w, simprocAttr, W]))
             refine PJ.mk2 hpi c fop fna _ _ _ _ ?_ ?_ ?_ ?_ ?_ ?_
             ·simp only [Ty.w, simprocAttr, g2]
             ·simp only [Ty.w, simprocAttr, g8]
             ·simp only [Ty.w, simprocAttr]; first | exact e0.symm | rfl
             ·exact ⟨rfl, rfl, rfl, rfl⟩
             ·exact fun _ => hX
             ·intro hh; rw [hc2] at hh; exact absurd hh (by simp)
            | true =>
             simp only [fin, hc2, cond_true] at hX
             have e0 : errP c = .sc .nilIface := by simp only [errP, hc2, cond_true]
             rw [e0] at hcc
             have W := And.intro g2 (And.intro g4 (And.intro g5 (And.intro g8 (And.intro g9 (And.intro g44 (And.intro g98 (And.intro r0 (And.intro r1 (And.intro o1 (And.intro o2 (And.intro n1 n2)))))))))))
             repeat' (first | (refine a_draw (by decide +kernel) (fun K hK => ?_); simp (maxSteps := 2000000) only [Ty.w, simprocAttr, W]) | (refine a_cond _ (by (try simp (maxSteps := 2000000) only [Ty.w, simprocAttr, W]); rfl) (fun hb => ?_) (fun hb => ?_) <;> (try simp only [hb0, decide_eq_true_eq, decide_eq_false_iff_not, simprocAttr] at hb) <;> (try (exfalso; omega))))
             (first | refine a_dcall0 (hcc _) (by (try simp only [Ty.w, simprocAttr, W, set_set]); try rfl) ?_ | refine a_dcallA (hcc _) (by (try simp only [Ty.w, simprocAttr, W, set_set]); try rfl) (by simp only [Ty.w, simprocAttr, W, set_set]; try trivial) ?_); simp (maxSteps := 2000000) only [Ty.w, simprocAttr, W, Option.getD_some, set_set]
             repeat' (first | (refine hK _ _ ?_; clear hK; try simp only [pst0, simprocAttr]) | (with_reducible refine a_past2 (by simp only [List.forall_mem_cons, Ty.w, simprocAttr, g2, g4, g5, g8, g9, g44, g98, o1, o2, n1, n2]; (repeat' apply And.intro) <;> first | trivial | exact .inl (by decide +kernel)) ?_; try simp (maxSteps := 2000000) only [Ty.w, simprocAttr, W]))
             refine PJ.mk2 hpi c fop fna _ _ _ _ ?_ ?_ ?_ ?_ ?_ ?_
             ·simp only [Ty.w, simprocAttr, g2]
             ·simp only [Ty.w, simprocAttr, g8]
             ·simp only [Ty.w, simprocAttr]; first | exact e0.symm | rfl
             ·exact ⟨rfl, rfl, rfl, rfl⟩
             ·intro hh; rw [hc2] at hh; exact absurd hh (by simp)
             ·subst hX; exact fun _ => ⟨by simpa using hc2, fun hh => by simpa only [Fm.cells] using hfz hh⟩
           | false =>
            rw [hC] at g98 hX
            simp only [cond_false] at hX
            have hw' : w.size ≤ 9223372036854775807 := by unfold bigN at hw; omega
            have hn := fun h : Heap => fname_c (h := h) hw'
            cases hN1 : nameB w with
            | false =>
             rw [hN1] at hn hX
             simp only [cond_false] at hX
             repeat' (first | refine a_seq fun K hK => ?_ | (refine a_regionS ?_; simp (maxSteps := 2000000) only [Ty.w, simprocAttr, g2, g4, g5, g8, g9, g44, g98, o1, o2]) | (refine a_cond _ (by (try simp (maxSteps := 2000000) only [Ty.w, simprocAttr, g2, g4, g5, g8, g9, g44, g98, o1, o2]); rfl) (fun hb => ?_) (fun hb => ?_) <;> (try simp only [hb0, decide_eq_true_eq, decide_eq_false_iff_not, simprocAttr] at hb) <;> (try (exfalso; omega))))
             refine owp_useQ (hn _) (by (try simp only [Ty.w, simprocAttr, g2, g4, g5, g8, g9, g44, g98]); try rfl) ?_; simp (maxSteps := 2000000) only [Ty.w, simprocAttr, g2, g4, g5, g8, g9, g44, g98]
             repeat' (first | refine a_seq fun K hK => ?_ | ((first | refine a_regionS ?_ | refine a_ret ?_); simp (maxSteps := 2000000) only [Ty.w, simprocAttr, g2, g4, g5, g8, g9, g44, g98, o1, o2, Bool.not_false]) | (refine hK _ _ ?_; clear hK; try simp only [pst0, simprocAttr]))
             exact errRet (.inr rfl) (hpi.grow.set (Nat.le_refl _) _) hX
            | true =>
             rw [hN1] at hn hX
             simp only [cond_true] at hX
             have ht := fun h : Heap => terms_c hrl hro h
             generalize termsM rest = T at ht hX
             obtain ⟨t, c⟩ := T
             simp only at ht hX
             cases hc2 : c == 0 with
             | false =>
              rw [hc2] at hX
              simp only [cond_false] at hX
              have e0 : errP c = errV c := by simp only [errP, hc2, cond_false]
              rw [e0] at ht
              simp only [errV] at ht e0
              have W := And.intro g2 (And.intro g4 (And.intro g5 (And.intro g8 (And.intro g9 (And.intro g44 (And.intro g98 (And.intro o1 (And.intro o2 (And.intro n1 n2)))))))))
              repeat' (first | refine a_seq fun K hK => ?_ | (refine a_regionS ?_; simp (maxSteps := 2000000) only [Ty.w, simprocAttr, W]) | (refine a_cond _ (by (try simp (maxSteps := 2000000) only [Ty.w, simprocAttr, W]); rfl) (fun hb => ?_) (fun hb => ?_) <;> (try simp only [hb0, decide_eq_true_eq, decide_eq_false_iff_not, simprocAttr] at hb) <;> (try (exfalso; omega))))
              refine owp_useQ (hn _) (by (try simp only [Ty.w, simprocAttr, W]); try rfl) ?_; simp (maxSteps := 2000000) only [Ty.w, simprocAttr, W]
              repeat' (first | refine a_seq fun K hK => ?_ | ((first | refine a_regionS ?_ | refine a_region (fun K hK => ?_)); simp (maxSteps := 2000000) only [Ty.w, simprocAttr, W, Bool.not_true]) | (refine a_skip ?_; try simp only [pst0, simprocAttr]) | (refine a_cond _ (by (try simp (maxSteps := 2000000) only [Ty.w, simprocAttr, W, Bool.not_true]); rfl) (fun hb => ?_) (fun hb => ?_) <;> (try simp only [hb0, decide_eq_true_eq, decide_eq_false_iff_not, simprocAttr] at hb) <;> (try (exfalso; omega))) | (refine hK _ _ ?_; clear hK; try simp only [pst0, simprocAttr]))
              refine owp_useQ (ht _) (by (try simp only [Ty.w, simprocAttr, W, set_set]); try rfl) ?_; simp (maxSteps := 2000000) only [Ty.w, simprocAttr, W, set_set]
              repeat' (refine hK _ _ ?_; clear hK; try simp only [pst0, simprocAttr])
              try simp only [set_set]
              refine PJ.mk2 hpi c ⟨#[97, 116, 111, 109]⟩ w _ _ _ _ ?_ ?_ ?_ ?_ ?_ ?_
              ·simp only [Ty.w, simprocAttr, g2]
              ·simp only [Ty.w, simprocAttr, g8]
              ·simp only [Ty.w, simprocAttr]; first | exact e0.symm | rfl
              ·exact ⟨rfl, rfl, rfl, rfl⟩
              ·exact fun _ => hX
              ·intro hh; rw [hc2] at hh; exact absurd hh (by simp)
             | true =>
              rw [hc2] at hX
              simp only [cond_true] at hX
              have e0 : errP c = .sc .nilIface := by simp only [errP, hc2, cond_true]
              rw [e0] at ht
              have W := And.intro g2 (And.intro g4 (And.intro g5 (And.intro g8 (And.intro g9 (And.intro g44 (And.intro g98 (And.intro o1 (And.intro o2 (And.intro n1 n2)))))))))
              repeat' (first | refine a_seq fun K hK => ?_ | (refine a_regionS ?_; simp (maxSteps := 2000000) only [Ty.w, simprocAttr, W]) | (refine a_cond _ (by (try simp (maxSteps := 2000000) only [Ty.w, simprocAttr, W]); rfl) (fun hb => ?_) (fun hb => ?_) <;> (try simp only [hb0, decide_eq_true_eq, decide_eq_false_iff_not, simprocAttr] at hb) <;> (try (exfalso; omega))))
              refine owp_useQ (hn _) (by (try simp only [Ty.w, simprocAttr, W]); try rfl) ?_; simp (maxSteps := 2000000) only [Ty.w, simprocAttr, W]
              repeat' (first | refine a_seq fun K hK => ?_ | ((first | refine a_regionS ?_ | refine a_region (fun K hK => ?_)); simp (maxSteps := 2000000) only [Ty.w, simprocAttr, W, Bool.not_true]) | (refine a_skip ?_; try simp only [pst0, simprocAttr]) | (refine a_cond _ (by (try simp (maxSteps := 2000000) only [Ty.w, simprocAttr, W, Bool.not_true]); rfl) (fun hb => ?_) (fun hb => ?_) <;> (try simp only [hb0, decide_eq_true_eq, decide_eq_false_iff_not, simprocAttr] at hb) <;> (try (exfalso; omega))) | (refine hK _ _ ?_; clear hK; try simp only [pst0, simprocAttr]))
              refine owp_useQ (ht _) (by (try simp only [Ty.w, simprocAttr, W, set_set]); try rfl) ?_; simp (maxSteps := 2000000) only [Ty.w, simprocAttr, W, set_set]
              repeat' (refine hK _ _ ?_; clear hK; try simp only [pst0, simprocAttr])
              try simp only [set_set]
              refine PJ.mk2 hpi c ⟨#[97, 116, 111, 109]⟩ w _ _ _ _ ?_ ?_ ?_ ?_ ?_ ?_
              ·simp only [Ty.w, simprocAttr, g2]
              ·simp only [Ty.w, simprocAttr, g8]
              ·simp only [Ty.w, simprocAttr]; first | exact e0.symm | rfl
              ·exact ⟨rfl, rfl, rfl, rfl⟩
              ·intro hh; rw [hc2] at hh; exact absurd hh (by simp)
              ·subst hX; refine fun _ => ⟨rfl, fun hh => ?_⟩; simp only [Fm.cells, FrzL]; refine ⟨?_, ?_, ?_, ?_, ?_, ?_, trivial⟩ <;> (unfold FrzTo; first | rfl | exact .inr (.inl ⟨rfl, .inr rfl⟩) | exact .inl ⟨rfl, strs_in _ _⟩ | exact .inl ⟨rfl, pms_in _ _⟩ | exact .inl ⟨rfl, fms_in _ _⟩)
     ·clear g2 g4 g5 g8 g9 hpi
      rintro S h' ⟨g2, g8, hg, c, a, b, p2, p3, p4, p5, g9, o1, o2, ⟨z2, z3, z4, z5⟩, hc, hd⟩
      simp only [fmZ] at o1
      cases hcc : c == 0 with
      | false =>
       have hF := hc hcc
       have e0 : errP c = errV c := by simp only [errP, hcc, cond_false]
       rw [e0] at g9
       simp only [errV] at g9
       subst hF
       rw [e0]
       simp only [errV]
       repeat' (first | refine a_seq fun K hK => ?_ | ((first | refine a_regionS ?_ | refine a_ret ?_); simp (maxSteps := 2000000) only [Ty.w, simprocAttr, g2, g8, g9, o1, o2]) | (refine hK _ _ ?_; clear hK; try simp only [pst0, simprocAttr]))
       refine ⟨?_, hg.set (Nat.le_refl _) _⟩
       simp only [zeroFm, Fm.cells, Ex.rows, Fm.rows, pmRows, strRows, List.map_nil, FrzTo, FrzL]
       exact ⟨_, rfl, ⟨_, rfl, rfl, rfl, .inr (.inl ⟨rfl, .inr rfl⟩), .inr (.inl ⟨rfl, .inr rfl⟩), .inr (.inl ⟨rfl, .inr rfl⟩), .inr (.inl ⟨rfl, .inr rfl⟩), trivial⟩, rfl, trivial⟩
      | true =>
       have hF := hd hcc
       have e0 : errP c = .sc .nilIface := by simp only [errP, hcc, cond_true]
       rw [e0] at g9
       have e2 : errP F.2 = .sc .nilIface := by rw [hF.1]; try rfl
       rw [e2]
       repeat' (first | refine a_seq fun K hK => ?_ | ((first | refine a_regionS ?_ | refine a_ret ?_); simp (maxSteps := 2000000) only [Ty.w, simprocAttr, g2, g8, g9, o1, o2, z2, z3, z4, z5]) | (refine a_skip ?_; try simp only [pst0, simprocAttr]) | (refine a_cond _ (by (try simp (maxSteps := 2000000) only [Ty.w, simprocAttr, g2, g8, g9, o1, o2, z2, z3, z4, z5]); rfl) (fun hb => ?_) (fun hb => ?_) <;> (try simp only [hb0, decide_eq_true_eq, decide_eq_false_iff_not, simprocAttr] at hb) <;> (try (exfalso; omega))) | (refine hK _ _ ?_; clear hK; try simp only [pst0, simprocAttr]))
       refine ⟨?_, hg.set (Nat.le_refl _) _⟩
       have h1 := hF.2 (h'.set h.next (.arr 6 [[sPV a, sPV b, p2, p3, p4, p5]]))
       unfold FrzTo
       refine ⟨_, rfl, ?_⟩
       unfold FrzL
       refine ⟨?_, by unfold FrzL; exact ⟨by simp only [FrzTo], by simp only [FrzL]⟩⟩
       unfold FrzTo
       exact ⟨_, rfl, h1⟩
end Go.Proofs.Ytjlkapgpjamnkaa
namespace Go.Proofs.Ytjlkapgpjamnkaa
open Go.AM
set_option maxHeartbeats 4000000
set_option maxRecDepth 20000
theorem parse_c : ∀ x : Sx, x.ok → x.small → ∀ h : Heap, PCall Try.prog 73 [.agg x.cells] h fun r h' => r = .tup [.agg (fmP x).1.cells, errP (fmP x).2] ∧ h' = h := by
 refine Sx.ind ?_
 intro kind value line col text kids ih hok hsm h
 have hok' := hok
 simp only [Sx.ok] at hok'
 obtain ⟨_, _, _, _, hks⟩ := hok'
 rw [Sx.oks_iff] at hks
 have hsm' := hsm
 simp only [Sx.small] at hsm'
 have hss := hsm'.2
 rw [Sx.smalls_iff] at hss
 exact parse_step hok hsm (fun x hx => ih x hx (hks x hx) (hss x hx)) h
theorem Parse_c {x : Sx} (hok : x.ok) (h : Heap) : PCall Try.prog 33 [.agg x.cells] h fun r h' => r = .tup [.agg (parseF x).1.cells, errP (parseF x).2] ∧ h' = h := by
 refine PCall.frz Ty.hb_33 ?_
 have hv := fun h : Heap => svalid_c hok h
 have hX : parseF x = (if (svalid x 0 0).1 = true then (if (fmP x).2 = 0 then (if validF (fmP x).1 = true then ((fmP x).1, 0) else (zeroFm, 5)) else (zeroFm, (fmP x).2)) else (zeroFm, 2)) := rfl
 generalize parseF x = F at hX
 have bad : ∀ (c : Int) (h' : Heap), (c == 0) = false → Grow h h' → F = (zeroFm, c) → FrzTo h.next h' (.tup [.agg F.1.cells, errP F.2]) (.tup [.agg [.sc (.string ⟨#[]⟩), .sc (.string ⟨#[]⟩), .sc (.slice none 0 0), .sc (.slice none 0 0), .sc (.slice none 0 0), .sc (.slice none 0 0)], errV c]) ∧ Grow h h' := by
  intro c h' hc hg hF
  subst hF
  have : errP c = errV c := by simp only [errP, hc, cond_false]
  simp only [this]
  refine ⟨?_, hg⟩
  simp only [errV, zeroFm, Fm.cells, Ex.rows, Fm.rows, pmRows, strRows, List.map_nil, FrzTo, FrzL]
  exact ⟨_, rfl, ⟨_, rfl, rfl, rfl, .inr (.inl ⟨rfl, .inr rfl⟩), .inr (.inl ⟨rfl, .inr rfl⟩), .inr (.inl ⟨rfl, .inr rfl⟩), .inr (.inl ⟨rfl, .inr rfl⟩), trivial⟩, rfl, trivial⟩
 simp only [errV] at bad
 have hg1 : ∀ r, Grow h ((h.new (.arr 6 [[.sc (.string ⟨#[]⟩), .sc (.string ⟨#[]⟩), .sc (.slice none 0 0), .sc (.slice none 0 0), .sc (.slice none 0 0), .sc (.slice none 0 0)]])).set h.next r) := fun r => ((Grow.refl h).new _).set (Nat.le_refl _) _
 have hg2 : ∀ o1 o2 r, Grow h ((((h.new (.arr 6 [[.sc (.string ⟨#[]⟩), .sc (.string ⟨#[]⟩), .sc (.slice none 0 0), .sc (.slice none 0 0), .sc (.slice none 0 0), .sc (.slice none 0 0)]])).new o1).set (h.next + 1) o2).set h.next r) := fun o1 o2 r => ((((Grow.refl h).new _).new _).set (Nat.le_succ _) _).set (Nat.le_refl _) _
 have n1 : (h.next = h.next + 1) = False := by simp
 cases v1 : (svalid x 0 0).1 with
 | false =>
  rw [v1] at hv
  rw [if_neg (by rw [v1]; simp)] at hX
  obtain ⟨kind, value, line, col, text, kids⟩ := x
  simp only [Sx.cells] at hv ⊢
  refine pcall_body (ow := fun _ => false) (wf := fun _ => false) Ty.mixed Try.func33 rfl Ty.hb_33 (by rw [Try.ntmps33]; simp) ?_
  rw [Try.ntmps33, Try.results33]
  repeat' (first | refine a_seq fun K hK => ?_ | (refine a_regionS ?_; simp only [Ty.w, simprocAttr]) | (refine hK _ _ ?_; clear hK; try simp only [pst0, simprocAttr]))
  refine owp_useQ (hv _) (by (try simp only [Ty.w, simprocAttr, ]); try rfl) ?_; simp only [Ty.w, simprocAttr, ]
  repeat' (first | refine a_seq fun K hK => ?_ | ((first | refine a_regionS ?_ | refine a_ret ?_); simp only [Ty.w, simprocAttr, Bool.not_false]) | (refine hK _ _ ?_; clear hK; try simp only [pst0, simprocAttr]))
  exact bad 2 _ rfl (hg1 _) hX
 | true =>
  have hsm := svalid_small v1
  have hp := parse_c x hok hsm
  have hfo := fmP_ok x hok hsm
  rw [v1] at hv
  rw [if_pos v1] at hX
  have hfz := fun n hh => fm_frz n hh (fmP x).1
  generalize fmP x = E at hp hfo hX hfz
  obtain ⟨f, c⟩ := E
  simp only at hp hfo hX hfz
  obtain ⟨kind, value, line, col, text, kids⟩ := x
  simp only [Sx.cells] at hv hp ⊢
  cases hc : c == 0 with
  | false =>
   rw [if_neg (by simpa using hc)] at hX
   have e0 : errP c = errV c := by simp only [errP, hc, cond_false]
   rw [e0] at hp
   simp only [errV] at hp
   obtain ⟨fop, fna, far, fpa, fex, fki⟩ := f
   simp only [Fm.cells] at hp
   refine pcall_body (ow := fun _ => false) (wf := fun _ => false) Ty.mixed Try.func33 rfl Ty.hb_33 (by rw [Try.ntmps33]; simp) ?_
   rw [Try.ntmps33, Try.results33]
   repeat' (first | refine a_seq fun K hK => ?_ | (refine a_regionS ?_; simp only [Ty.w, simprocAttr]) | (refine hK _ _ ?_; clear hK; try simp only [pst0, simprocAttr]))
   refine owp_useQ (hv _) (by (try simp only [Ty.w, simprocAttr, ]); try rfl) ?_; simp only [Ty.w, simprocAttr, ]
   repeat' (first | refine a_seq fun K hK => ?_ | (refine a_regionS ?_; simp only [Ty.w, simprocAttr, Bool.not_true]) | (refine a_skip ?_; try simp only [pst0, simprocAttr]) | (refine a_cond _ (by (try simp only [Ty.w, simprocAttr, Bool.not_true]); rfl) (fun hb => ?_) (fun hb => ?_) <;> (try simp only [hb0, decide_eq_true_eq, decide_eq_false_iff_not, simprocAttr] at hb) <;> (try (exfalso; omega))) | (refine hK _ _ ?_; clear hK; try simp only [pst0, simprocAttr]))
   refine owp_useQ (hp _) (by (try simp only [Ty.w, simprocAttr, ]); try rfl) ?_; simp only [Ty.w, simprocAttr, ]
   repeat' (first | refine a_seq fun K hK => ?_ | ((first | refine a_regionS ?_ | refine a_ret ?_); simp only [Ty.w, simprocAttr, n1, nsucc]) | (refine hK _ _ ?_; clear hK; try simp only [pst0, simprocAttr]))
   exact bad c _ hc (hg2 _ _ _) hX
  | true =>
   rw [if_pos (by simpa using hc)] at hX
   have e0 : errP c = .sc .nilIface := by simp only [errP, hc, cond_true]
   rw [e0] at hp
   have hV := fun h : Heap => fvalid_c hfo.1 hfo.2 h
   cases v2 : validF f with
   | false =>
    rw [v2] at hV
    rw [if_neg (by rw [v2]; simp)] at hX
    obtain ⟨fop, fna, far, fpa, fex, fki⟩ := f
    simp only [Fm.cells] at hp hV
    refine pcall_body (ow := fun _ => false) (wf := fun _ => false) Ty.mixed Try.func33 rfl Ty.hb_33 (by rw [Try.ntmps33]; simp) ?_
    rw [Try.ntmps33, Try.results33]
    repeat' (first | refine a_seq fun K hK => ?_ | (refine a_regionS ?_; simp only [Ty.w, simprocAttr]) | (refine hK _ _ ?_; clear hK; try simp only [pst0, simprocAttr]))
    refine owp_useQ (hv _) (by (try simp only [Ty.w, simprocAttr, ]); try rfl) ?_; simp only [Ty.w, simprocAttr, ]
    repeat' (first | refine a_seq fun K hK => ?_ | (refine a_regionS ?_; simp only [Ty.w, simprocAttr, Bool.not_true]) | (refine a_skip ?_; try simp only [pst0, simprocAttr]) | (refine a_cond _ (by (try simp only [Ty.w, simprocAttr, Bool.not_true]); rfl) (fun hb => ?_) (fun hb => ?_) <;> (try simp only [hb0, decide_eq_true_eq, decide_eq_false_iff_not, simprocAttr] at hb) <;> (try (exfalso; omega))) | (refine hK _ _ ?_; clear hK; try simp only [pst0, simprocAttr]))
    refine owp_useQ (hp _) (by (try simp only [Ty.w, simprocAttr, ]); try rfl) ?_; simp only [Ty.w, simprocAttr, ]
    repeat' (first | refine a_seq fun K hK => ?_ | (refine a_regionS ?_; simp only [Ty.w, simprocAttr, n1, nsucc]) | (refine a_skip ?_; try simp only [pst0, simprocAttr]) | (refine a_cond _ (by (try simp only [Ty.w, simprocAttr, n1, nsucc]); rfl) (fun hb => ?_) (fun hb => ?_) <;> (try simp only [hb0, decide_eq_true_eq, decide_eq_false_iff_not, simprocAttr] at hb) <;> (try (exfalso; omega))) | (refine hK _ _ ?_; clear hK; try simp only [pst0, simprocAttr]))
    refine owp_useQ (hV _) (by (try simp only [Ty.w, simprocAttr, n1, nsucc]); try rfl) ?_; simp only [Ty.w, simprocAttr, n1, nsucc]
    repeat' (first | refine a_seq fun K hK => ?_ | ((first | refine a_regionS ?_ | refine a_ret ?_); simp only [Ty.w, simprocAttr, n1, nsucc, Bool.not_false]) | (refine hK _ _ ?_; clear hK; try simp only [pst0, simprocAttr]))
    exact bad 5 _ rfl (hg2 _ _ _) hX
   | true =>
    rw [v2] at hV
    rw [if_pos v2] at hX
    subst hX
    obtain ⟨fop, fna, far, fpa, fex, fki⟩ := f
    simp only [Fm.cells] at hp hV hfz
    have e2 : errP 0 = .sc .nilIface := rfl
    simp only [e2, Fm.cells]
    refine pcall_body (ow := fun _ => false) (wf := fun _ => false) Ty.mixed Try.func33 rfl Ty.hb_33 (by rw [Try.ntmps33]; simp) ?_
    rw [Try.ntmps33, Try.results33]
    repeat' (first | refine a_seq fun K hK => ?_ | (refine a_regionS ?_; simp only [Ty.w, simprocAttr]) | (refine hK _ _ ?_; clear hK; try simp only [pst0, simprocAttr]))
    refine owp_useQ (hv _) (by (try simp only [Ty.w, simprocAttr, ]); try rfl) ?_; simp only [Ty.w, simprocAttr, ]
    repeat' (first | refine a_seq fun K hK => ?_ | (refine a_regionS ?_; simp only [Ty.w, simprocAttr, Bool.not_true]) | (refine a_skip ?_; try simp only [pst0, simprocAttr]) | (refine a_cond _ (by (try simp only [Ty.w, simprocAttr, Bool.not_true]); rfl) (fun hb => ?_) (fun hb => ?_) <;> (try simp only [hb0, decide_eq_true_eq, decide_eq_false_iff_not, simprocAttr] at hb) <;> (try (exfalso; omega))) | (refine hK _ _ ?_; clear hK; try simp only [pst0, simprocAttr]))
    refine owp_useQ (hp _) (by (try simp only [Ty.w, simprocAttr, ]); try rfl) ?_; simp only [Ty.w, simprocAttr, ]
    repeat' (first | refine a_seq fun K hK => ?_ | (refine a_regionS ?_; simp only [Ty.w, simprocAttr, n1, nsucc]) | (refine a_skip ?_; try simp only [pst0, simprocAttr]) | (refine a_cond _ (by (try simp only [Ty.w, simprocAttr, n1, nsucc]); rfl) (fun hb => ?_) (fun hb => ?_) <;> (try simp only [hb0, decide_eq_true_eq, decide_eq_false_iff_not, simprocAttr] at hb) <;> (try (exfalso; omega))) | (refine hK _ _ ?_; clear hK; try simp only [pst0, simprocAttr]))
    refine owp_useQ (hV _) (by (try simp only [Ty.w, simprocAttr, n1, nsucc]); try rfl) ?_; simp only [Ty.w, simprocAttr, n1, nsucc]
    repeat' (first | refine a_seq fun K hK => ?_ | ((first | refine a_regionS ?_ | refine a_ret ?_); simp only [Ty.w, simprocAttr, n1, nsucc, Bool.not_true]) | (refine a_skip ?_; try simp only [pst0, simprocAttr]) | (refine a_cond _ (by (try simp only [Ty.w, simprocAttr, n1, nsucc, Bool.not_true]); rfl) (fun hb => ?_) (fun hb => ?_) <;> (try simp only [hb0, decide_eq_true_eq, decide_eq_false_iff_not, simprocAttr] at hb) <;> (try (exfalso; omega))) | (refine hK _ _ ?_; clear hK; try simp only [pst0, simprocAttr]))
    refine ⟨?_, hg2 _ _ _⟩
    have h1 := fun hh => hfz h.next hh
    unfold FrzTo
    refine ⟨_, rfl, ?_⟩
    unfold FrzL
    refine ⟨?_, by unfold FrzL; exact ⟨by simp only [FrzTo], by simp only [FrzL]⟩⟩
    unfold FrzTo
    exact ⟨_, rfl, h1 _⟩
end Go.Proofs.Ytjlkapgpjamnkaa
namespace Go.Proofs.Ytjlkapgpjamnkaa
open Go.AM
set_option maxHeartbeats 2000000
set_option maxRecDepth 20000
theorem fnum_c {h : Heap} {n : Int} : PCall Try.prog 35 [errV n] h fun r h' => r = .sc (.int .i64 n) ∧ h' = h := by
 unfold errV
 refine pcall_body (ow := fun _ => false) (wf := fun _ => false) Ty.mixed Try.func35 rfl Ty.hb_35 (by rw [Try.ntmps35]; simp) ?_
 rw [Try.ntmps35, Try.results35]
 repeat' (first | refine a_seq fun K hK => ?_ | ((first | refine a_regionS ?_ | refine a_ret ?_); simp only [Ty.w, simprocAttr]) | (refine a_skip ?_; try simp only [pst0, simprocAttr]) | (refine a_cond _ (by (try simp only [Ty.w, simprocAttr]); rfl) (fun hb => ?_) (fun hb => ?_) <;> (try simp only [hb0, decide_eq_true_eq, decide_eq_false_iff_not, simprocAttr] at hb) <;> (try (exfalso; omega))) | (refine hK _ _ ?_; clear hK; try simp only [pst0, simprocAttr]))
 all_goals rfl
theorem fnum_nil_c {h : Heap} : PCall Try.prog 35 [.sc .nilIface] h fun r h' => r = .sc (.int .i64 0) ∧ h' = h := by
 refine pcall_body (ow := fun _ => false) (wf := fun _ => false) Ty.mixed Try.func35 rfl Ty.hb_35 (by rw [Try.ntmps35]; simp) ?_
 rw [Try.ntmps35, Try.results35]
 repeat' (first | refine a_seq fun K hK => ?_ | ((first | refine a_regionS ?_ | refine a_ret ?_); simp only [Ty.w, simprocAttr]) | (refine hK _ _ ?_; clear hK; try simp only [pst0, simprocAttr]))
 all_goals rfl
end Go.Proofs.Ytjlkapgpjamnkaa
namespace Go.Proofs.Ytjlkapgpjamnkaa
open Go.AM
set_option maxHeartbeats 4000000
set_option maxRecDepth 20000
theorem rsameE_c : ∀ a : Ex, a.ok → ∀ b : Ex, b.ok → ∀ h : Heap, PCall Try.prog 38 [.agg a.cells, .agg b.cells] h fun r h' => r = .sc (.bool (a.same b)) ∧ h' = h := by
 refine Ex.ind ?_
 intro op name n args kids ih hok
 rintro ⟨op3, name3, n3, args3, kids3⟩ hok3 h
 simp only [Ex.ok] at hok hok3
 obtain ⟨_, _, _, ⟨ha, _⟩, hk, hks⟩ := hok
 obtain ⟨_, _, _, ⟨ha3, _⟩, hk3, hks3⟩ := hok3
 rw [Ex.oks_iff] at hks hks3
 have hfk : ∀ a ∈ kids, ∀ b ∈ kids3, ∀ h : Heap, PCall Try.prog 38 [.agg a.cells, .agg b.cells] h fun r h' => r = .sc (.bool (a.same b)) ∧ h' = h := fun a ha b hb => ih a ha (hks a ha) b (hks3 b hb)
 clear ih
 have hl_kids := Ex.rows_len kids
 have hl_kids3 := Ex.rows_len kids3
 have cellsA : (Ex.mk op name n args kids).cells = (Ex.mk op name n args kids).cells := rfl
 have cellsB : (Ex.mk op3 name3 n3 args3 kids3).cells = (Ex.mk op3 name3 n3 args3 kids3).cells := rfl
 conv at cellsA => rhs; simp only [Ex.cells]
 conv at cellsB => rhs; simp only [Ex.cells]
 rw [cellsA, cellsB]
 refine pcall_body (ow := fun _ => false) (wf := fun _ => false) Ty.mixed Try.func38 rfl Ty.hb_38 (by rw [Try.ntmps38]; simp) ?_
 rw [Try.ntmps38, Try.results38]
 cases e0 : (op.data.toList == op3.data.toList) with
 | false =>
  have hs : (Ex.mk op name n args kids).same (.mk op3 name3 n3 args3 kids3) = false := by simp only [Ex.same, bEq, e0, Bool.false_and, Bool.and_false]
  repeat' (first | refine a_seq fun K hK => ?_ | ((first | refine a_regionS ?_ | refine a_ret ?_); simp only [Ty.w, simprocAttr, Bool.not_true, Bool.not_false, e0]) | (refine hK _ _ ?_; clear hK; try simp only [pst0, simprocAttr]))
  rw [hs]
 | true =>
  cases e1 : (name.data.toList == name3.data.toList) with
  | false =>
   have hs : (Ex.mk op name n args kids).same (.mk op3 name3 n3 args3 kids3) = false := by simp only [Ex.same, bEq, e0, e1, Bool.false_and, Bool.and_false]
   repeat' (first | refine a_seq fun K hK => ?_ | ((first | refine a_regionS ?_ | refine a_ret ?_); simp only [Ty.w, simprocAttr, Bool.not_true, Bool.not_false, e0, e1]) | (refine hK _ _ ?_; clear hK; try simp only [pst0, simprocAttr]))
   rw [hs]
  | true =>
   cases e2 : (n != n3) with
   | true =>
    have en : (n == n3) = false := by simpa using e2
    have hs : (Ex.mk op name n args kids).same (.mk op3 name3 n3 args3 kids3) = false := by simp only [Ex.same, bEq, e0, e1, en, Bool.false_and, Bool.and_false]
    repeat' (first | refine a_seq fun K hK => ?_ | ((first | refine a_regionS ?_ | refine a_ret ?_); simp only [Ty.w, simprocAttr, Bool.not_true, Bool.not_false, e0, e1, e2]) | (refine hK _ _ ?_; clear hK; try simp only [pst0, simprocAttr]))
    rw [hs]
   | false =>
    have en : (n == n3) = true := by simpa using e2
    repeat' (first | refine a_seq fun K hK => ?_ | (refine a_regionS ?_; simp only [Ty.w, simprocAttr, Bool.not_true, Bool.not_false, e0, e1, e2]) | (refine hK _ _ ?_; clear hK; try simp only [pst0, simprocAttr]))
    cases e3 : bsEq args args3 with
    | false =>
     have hs : (Ex.mk op name n args kids).same (.mk op3 name3 n3 args3 kids3) = false := by simp only [Ex.same, bEq, e0, e1, en, e3, Bool.false_and, Bool.and_false]
     refine owp_useQ (rtexts_c (l := args) (m := args3) ha ha3) (by (try simp only [Ty.w, simprocAttr, Bool.not_true, Bool.not_false, e0, e1, e2, e3]); try rfl) ?_; simp only [Ty.w, simprocAttr, Bool.not_true, Bool.not_false, e0, e1, e2, e3]
     repeat' (first | refine a_seq fun K hK => ?_ | ((first | refine a_regionS ?_ | refine a_ret ?_); simp only [Ty.w, simprocAttr, Bool.not_true, Bool.not_false, e0, e1, e2, e3]) | (refine hK _ _ ?_; clear hK; try simp only [pst0, simprocAttr]))
     rw [hs]
    | true =>
     cases l_kids : ((kids.length : Int) != kids3.length) with
     | true =>
      have hlen : Ex.sames kids kids3 = false := Ex.sames_len (by simp at l_kids; omega)
      have hs : (Ex.mk op name n args kids).same (.mk op3 name3 n3 args3 kids3) = false := by simp only [Ex.same, bEq, e0, e1, en, e3, hlen, Bool.false_and, Bool.and_false]
      refine owp_useQ (rtexts_c (l := args) (m := args3) ha ha3) (by (try simp only [Ty.w, simprocAttr, Bool.not_true, Bool.not_false, e0, e1, e2, e3, l_kids, hl_kids, hl_kids3]); try rfl) ?_; simp only [Ty.w, simprocAttr, Bool.not_true, Bool.not_false, e0, e1, e2, e3, l_kids, hl_kids, hl_kids3]
      repeat' (first | refine a_seq fun K hK => ?_ | ((first | refine a_regionS ?_ | refine a_ret ?_); simp only [Ty.w, simprocAttr, Bool.not_true, Bool.not_false, e0, e1, e2, e3, l_kids, hl_kids, hl_kids3]) | (refine hK _ _ ?_; clear hK; try simp only [pst0, simprocAttr]))
      rw [hs]
     | false =>
      have hn_kids : kids.length = kids3.length := by simp at l_kids; omega
      refine owp_useQ (rtexts_c (l := args) (m := args3) ha ha3) (by (try simp only [Ty.w, simprocAttr, Bool.not_true, Bool.not_false, e0, e1, e2, e3, l_kids, hl_kids, hl_kids3]); try rfl) ?_; simp only [Ty.w, simprocAttr, Bool.not_true, Bool.not_false, e0, e1, e2, e3, l_kids, hl_kids, hl_kids3]
      repeat' (first | refine a_seq fun K hK => ?_ | (refine a_block ?_) | (refine a_regionS ?_; simp only [Ty.w, simprocAttr, Bool.not_true, Bool.not_false, e0, e1, e2, e3, l_kids, hl_kids, hl_kids3]) | (refine a_skip ?_; try simp only [pst0, simprocAttr]) | (refine a_cond _ (by (try simp only [Ty.w, simprocAttr, Bool.not_true, Bool.not_false, e0, e1, e2, e3, l_kids, hl_kids, hl_kids3]); rfl) (fun hb => ?_) (fun hb => ?_) <;> (try simp only [hb0, decide_eq_true_eq, decide_eq_false_iff_not, simprocAttr] at hb) <;> (try (exfalso; omega))) | (refine hK _ _ ?_; clear hK; try simp only [pst0, simprocAttr]))
      refine a_loop (fun c S h7 => h7 = h ∧ S 2 = .cptr (Ex.mk op name n args kids).cells ∧ S 3 = .cptr (Ex.mk op3 name3 n3 args3 kids3).cells ∧ ∃ k : Nat, S 5 = .sc (.int .i64 k) ∧ k ≤ kids.length ∧ c = kids.length - k ∧ Ex.sames kids kids3 = Ex.sames (kids.drop k) (kids3.drop k)) kids.length ?_ ?_
      ·simp only [Ty.w, simprocAttr, cellsA, cellsB]
       exact ⟨0, rfl, by omega, rfl, by simp⟩
      ·rintro c S h7 ⟨rfl, g2, g3, k, gk, hkl, rfl, hinv⟩
       rw [cellsA] at g2
       rw [cellsB] at g3
       by_cases hlt : k < kids.length
       ·have hd : decide ((k : Int) < (kids.length : Int)) = true := by simp; omega
        have w7 : IntKind.i64.wrap ((k : Int) + 1) = k + 1 := by unfold bigN at hk; rw [wrap64 (by omega) (by omega)]
        obtain ⟨a, hx⟩ : ∃ a, kids[k]? = some a := ⟨_, List.getElem?_eq_getElem hlt⟩
        obtain ⟨b, hy⟩ : ∃ b, kids3[k]? = some b := ⟨_, List.getElem?_eq_getElem (by omega)⟩
        have hc := hfk a (List.mem_of_getElem? hx) b (List.mem_of_getElem? hy)
        rw [drop_of_get hx, drop_of_get hy] at hinv
        simp only [Ex.sames] at hinv
        have hr := Ex.rows_get hx
        have hr2 := Ex.rows_get hy
        generalize he : a.same b = e at hc hinv
        clear he
        obtain ⟨op2, name2, n2, args2, kids2⟩ := a
        obtain ⟨op4, name4, n4, args4, kids4⟩ := b
        simp only [Ex.cells] at hr hr2 hc
        cases e with
        | false =>
         have hs : (Ex.mk op name n args kids).same (.mk op3 name3 n3 args3 kids3) = false := by simp only [Ex.same, bEq, hinv, e0, e1, en, e3, Bool.false_and, Bool.and_false]
         have W := And.intro g2 (And.intro g3 (And.intro gk (And.intro hd (And.intro hr (And.intro hr2 w7)))))
         repeat' (first | refine a_seq fun K hK => ?_ | ((first | refine a_regionS ?_ | refine a_drawS (by decide +kernel) ?_); simp only [Ty.w, simprocAttr, W, hl_kids, hl_kids3, Bool.not_false]) | (refine a_skip ?_; try simp only [pst0, simprocAttr]) | (refine a_cond _ (by (try simp only [Ty.w, simprocAttr, W, hl_kids, hl_kids3, Bool.not_false]); rfl) (fun hb => ?_) (fun hb => ?_) <;> (try simp only [hb0, decide_eq_true_eq, decide_eq_false_iff_not, simprocAttr] at hb) <;> (try (exfalso; omega))) | (refine hK _ _ ?_; clear hK; try simp only [pst0, simprocAttr]))
         (first | refine a_dcall0 (hc _) (by (try simp only [Ty.w, simprocAttr, W, hl_kids, hl_kids3]); try rfl) ?_ | refine a_dcallA (hc _) (by (try simp only [Ty.w, simprocAttr, W, hl_kids, hl_kids3]); try rfl) (by simp only [Ty.w, simprocAttr, W, hl_kids, hl_kids3]; try trivial) ?_); simp only [Ty.w, simprocAttr, W, Option.getD_some, hl_kids, hl_kids3]
         repeat' (first | refine a_seq fun K hK => ?_ | ((first | refine a_regionS ?_ | refine a_ret ?_); simp only [Ty.w, simprocAttr, W, Bool.not_false]) | (refine hK _ _ ?_; clear hK; try simp only [pst0, simprocAttr]))
         rw [hs]
        | true =>
         rw [Bool.true_and] at hinv
         have W := And.intro g2 (And.intro g3 (And.intro gk (And.intro hd (And.intro hr (And.intro hr2 w7)))))
         repeat' (first | refine a_seq fun K hK => ?_ | ((first | refine a_regionS ?_ | refine a_drawS (by decide +kernel) ?_); simp only [Ty.w, simprocAttr, W, hl_kids, hl_kids3, Bool.not_true]) | (refine a_skip ?_; try simp only [pst0, simprocAttr]) | (refine a_cond _ (by (try simp only [Ty.w, simprocAttr, W, hl_kids, hl_kids3, Bool.not_true]); rfl) (fun hb => ?_) (fun hb => ?_) <;> (try simp only [hb0, decide_eq_true_eq, decide_eq_false_iff_not, simprocAttr] at hb) <;> (try (exfalso; omega))) | (refine hK _ _ ?_; clear hK; try simp only [pst0, simprocAttr]))
         (first | refine a_dcall0 (hc _) (by (try simp only [Ty.w, simprocAttr, W, hl_kids, hl_kids3]); try rfl) ?_ | refine a_dcallA (hc _) (by (try simp only [Ty.w, simprocAttr, W, hl_kids, hl_kids3]); try rfl) (by simp only [Ty.w, simprocAttr, W, hl_kids, hl_kids3]; try trivial) ?_); simp only [Ty.w, simprocAttr, W, Option.getD_some, hl_kids, hl_kids3]
         repeat' (first | (refine a_block ?_) | (refine a_regionS ?_; simp only [Ty.w, simprocAttr, W, Bool.not_true]) | (refine a_skip ?_; try simp only [pst0, simprocAttr]) | (refine hK _ _ ?_; clear hK; try simp only [pst0, simprocAttr]))
         exact ⟨kids.length - (k + 1), by omega, by rw [cellsA], by rw [cellsB], k + 1, by simp, by omega, rfl, hinv⟩
       ·have hd : decide ((k : Int) < (kids.length : Int)) = false := by simp; omega
        rw [List.drop_eq_nil_of_le (by omega), List.drop_eq_nil_of_le (by omega)] at hinv
        have hq0 := hinv
        simp only [Ex.sames] at hq0
        clear hinv
        have hs : (Ex.mk op name n args kids).same (.mk op3 name3 n3 args3 kids3) = true := by simp only [Ex.same, bEq, e0, e1, en, e3, hq0, Bool.true_and]
        repeat' (first | refine a_seq fun K hK => ?_ | ((first | refine a_regionS ?_ | refine a_ret ?_); simp only [Ty.w, simprocAttr, g2, g3, gk, hl_kids, hl_kids3, hd]) | (refine a_exit ?_; try simp only [pst0, simprocAttr]) | (refine a_cond _ (by (try simp only [Ty.w, simprocAttr, g2, g3, gk, hl_kids, hl_kids3, hd]); rfl) (fun hb => ?_) (fun hb => ?_) <;> (try simp only [hb0, decide_eq_true_eq, decide_eq_false_iff_not, simprocAttr] at hb) <;> (try (exfalso; omega))) | ((first | refine hK _ _ ?_ | (clear hK; refine hK _ _ ?_)); clear hK; try simp only [pst0, simprocAttr]))
        rw [hs]
theorem rsame_c : ∀ a : Fm, a.ok → ∀ b : Fm, b.ok → ∀ h : Heap, PCall Try.prog 21 [.agg a.cells, .agg b.cells] h fun r h' => r = .sc (.bool (a.same b)) ∧ h' = h := by
 refine Fm.ind ?_
 intro op name args params exprs kids ih hok
 rintro ⟨op3, name3, args3, params3, exprs3, kids3⟩ hok3 h
 simp only [Fm.ok] at hok hok3
 obtain ⟨_, _, ⟨ha, _⟩, ⟨hp, _⟩, ⟨he, hes⟩, hk, hks⟩ := hok
 obtain ⟨_, _, ⟨ha3, _⟩, ⟨hp3, _⟩, ⟨he3, hes3⟩, hk3, hks3⟩ := hok3
 rw [Fm.oks_iff] at hks hks3
 have hfk : ∀ a ∈ kids, ∀ b ∈ kids3, ∀ h : Heap, PCall Try.prog 21 [.agg a.cells, .agg b.cells] h fun r h' => r = .sc (.bool (a.same b)) ∧ h' = h := fun a ha b hb => ih a ha (hks a ha) b (hks3 b hb)
 rw [Ex.oks_iff] at hes hes3
 have hfe : ∀ a ∈ exprs, ∀ b ∈ exprs3, ∀ h : Heap, PCall Try.prog 38 [.agg a.cells, .agg b.cells] h fun r h' => r = .sc (.bool (a.same b)) ∧ h' = h := fun a ha b hb => rsameE_c a (hes a ha) b (hes3 b hb)
 clear ih
 have hl_exprs := Ex.rows_len exprs
 have hl_exprs3 := Ex.rows_len exprs3
 have hl_kids := Fm.rows_len kids
 have hl_kids3 := Fm.rows_len kids3
 have cellsA : (Fm.mk op name args params exprs kids).cells = (Fm.mk op name args params exprs kids).cells := rfl
 have cellsB : (Fm.mk op3 name3 args3 params3 exprs3 kids3).cells = (Fm.mk op3 name3 args3 params3 exprs3 kids3).cells := rfl
 conv at cellsA => rhs; simp only [Fm.cells]
 conv at cellsB => rhs; simp only [Fm.cells]
 rw [cellsA, cellsB]
 refine pcall_body (ow := fun _ => false) (wf := fun _ => false) Ty.mixed Try.func21 rfl Ty.hb_21 (by rw [Try.ntmps21]; simp) ?_
 rw [Try.ntmps21, Try.results21]
 cases e0 : (op.data.toList == op3.data.toList) with
 | false =>
  have hs : (Fm.mk op name args params exprs kids).same (.mk op3 name3 args3 params3 exprs3 kids3) = false := by simp only [Fm.same, bEq, e0, Bool.false_and, Bool.and_false]
  repeat' (first | refine a_seq fun K hK => ?_ | ((first | refine a_regionS ?_ | refine a_ret ?_); simp only [Ty.w, simprocAttr, Bool.not_true, Bool.not_false, e0]) | (refine hK _ _ ?_; clear hK; try simp only [pst0, simprocAttr]))
  rw [hs]
 | true =>
  cases e1 : (name.data.toList == name3.data.toList) with
  | false =>
   have hs : (Fm.mk op name args params exprs kids).same (.mk op3 name3 args3 params3 exprs3 kids3) = false := by simp only [Fm.same, bEq, e0, e1, Bool.false_and, Bool.and_false]
   repeat' (first | refine a_seq fun K hK => ?_ | ((first | refine a_regionS ?_ | refine a_ret ?_); simp only [Ty.w, simprocAttr, Bool.not_true, Bool.not_false, e0, e1]) | (refine hK _ _ ?_; clear hK; try simp only [pst0, simprocAttr]))
   rw [hs]
  | true =>
   repeat' (first | refine a_seq fun K hK => ?_ | (refine a_regionS ?_; simp only [Ty.w, simprocAttr, Bool.not_true, Bool.not_false, e0, e1]) | (refine hK _ _ ?_; clear hK; try simp only [pst0, simprocAttr]))
   cases e2 : bsEq args args3 with
   | false =>
    have hs : (Fm.mk op name args params exprs kids).same (.mk op3 name3 args3 params3 exprs3 kids3) = false := by simp only [Fm.same, bEq, e0, e1, e2, Bool.false_and, Bool.and_false]
    refine owp_useQ (rtexts_c (l := args) (m := args3) ha ha3) (by (try simp only [Ty.w, simprocAttr, Bool.not_true, Bool.not_false, e0, e1, e2]); try rfl) ?_; simp only [Ty.w, simprocAttr, Bool.not_true, Bool.not_false, e0, e1, e2]
    repeat' (first | refine a_seq fun K hK => ?_ | ((first | refine a_regionS ?_ | refine a_ret ?_); simp only [Ty.w, simprocAttr, Bool.not_true, Bool.not_false, e0, e1, e2]) | (refine hK _ _ ?_; clear hK; try simp only [pst0, simprocAttr]))
    rw [hs]
   | true =>
    refine owp_useQ (rtexts_c (l := args) (m := args3) ha ha3) (by (try simp only [Ty.w, simprocAttr, Bool.not_true, Bool.not_false, e0, e1, e2, hl_exprs, hl_exprs3, hl_kids, hl_kids3]); try rfl) ?_; simp only [Ty.w, simprocAttr, Bool.not_true, Bool.not_false, e0, e1, e2, hl_exprs, hl_exprs3, hl_kids, hl_kids3]
    skip
    cases e3 : pmsEq params params3 with
    | false =>
     have hs : (Fm.mk op name args params exprs kids).same (.mk op3 name3 args3 params3 exprs3 kids3) = false := by simp only [Fm.same, bEq, e0, e1, e2, e3, Bool.false_and, Bool.and_false]
     refine owp_useQ (rparams_c (l := params) (m := params3) hp hp3) (by (try simp only [Ty.w, simprocAttr, Bool.not_true, Bool.not_false, e0, e1, e2, e3]); try rfl) ?_; simp only [Ty.w, simprocAttr, Bool.not_true, Bool.not_false, e0, e1, e2, e3]
     repeat' (first | refine a_seq fun K hK => ?_ | ((first | refine a_regionS ?_ | refine a_ret ?_); simp only [Ty.w, simprocAttr, Bool.not_true, Bool.not_false, e0, e1, e2, e3]) | (refine hK _ _ ?_; clear hK; try simp only [pst0, simprocAttr]))
     rw [hs]
    | true =>
     cases l_exprs : ((exprs.length : Int) != exprs3.length) with
     | true =>
      have hlen : Ex.sames exprs exprs3 = false := Ex.sames_len (by simp at l_exprs; omega)
      have hs : (Fm.mk op name args params exprs kids).same (.mk op3 name3 args3 params3 exprs3 kids3) = false := by simp only [Fm.same, bEq, e0, e1, e2, e3, hlen, Bool.false_and, Bool.and_false]
      refine owp_useQ (rparams_c (l := params) (m := params3) hp hp3) (by (try simp only [Ty.w, simprocAttr, Bool.not_true, Bool.not_false, e0, e1, e2, e3, l_exprs, hl_exprs, hl_exprs3, hl_kids, hl_kids3]); try rfl) ?_; simp only [Ty.w, simprocAttr, Bool.not_true, Bool.not_false, e0, e1, e2, e3, l_exprs, hl_exprs, hl_exprs3, hl_kids, hl_kids3]
      repeat' (first | refine a_seq fun K hK => ?_ | ((first | refine a_regionS ?_ | refine a_ret ?_); simp only [Ty.w, simprocAttr, Bool.not_true, Bool.not_false, e0, e1, e2, e3, l_exprs, hl_exprs, hl_exprs3, hl_kids, hl_kids3]) | (refine hK _ _ ?_; clear hK; try simp only [pst0, simprocAttr]))
      rw [hs]
     | false =>
      have hn_exprs : exprs.length = exprs3.length := by simp at l_exprs; omega
      cases l_kids : ((kids.length : Int) != kids3.length) with
      | true =>
       have hlen : Fm.sames kids kids3 = false := Fm.sames_len (by simp at l_kids; omega)
       have hs : (Fm.mk op name args params exprs kids).same (.mk op3 name3 args3 params3 exprs3 kids3) = false := by simp only [Fm.same, bEq, e0, e1, e2, e3, hlen, Bool.false_and, Bool.and_false]
       refine owp_useQ (rparams_c (l := params) (m := params3) hp hp3) (by (try simp only [Ty.w, simprocAttr, Bool.not_true, Bool.not_false, e0, e1, e2, e3, l_exprs, l_kids, hl_exprs, hl_exprs3, hl_kids, hl_kids3]); try rfl) ?_; simp only [Ty.w, simprocAttr, Bool.not_true, Bool.not_false, e0, e1, e2, e3, l_exprs, l_kids, hl_exprs, hl_exprs3, hl_kids, hl_kids3]
       repeat' (first | refine a_seq fun K hK => ?_ | ((first | refine a_regionS ?_ | refine a_ret ?_); simp only [Ty.w, simprocAttr, Bool.not_true, Bool.not_false, e0, e1, e2, e3, l_exprs, l_kids, hl_exprs, hl_exprs3, hl_kids, hl_kids3]) | (refine hK _ _ ?_; clear hK; try simp only [pst0, simprocAttr]))
       rw [hs]
      | false =>
       have hn_kids : kids.length = kids3.length := by simp at l_kids; omega
       refine owp_useQ (rparams_c (l := params) (m := params3) hp hp3) (by (try simp only [Ty.w, simprocAttr, Bool.not_true, Bool.not_false, e0, e1, e2, e3, l_exprs, l_kids, hl_exprs, hl_exprs3, hl_kids, hl_kids3]); try rfl) ?_; simp only [Ty.w, simprocAttr, Bool.not_true, Bool.not_false, e0, e1, e2, e3, l_exprs, l_kids, hl_exprs, hl_exprs3, hl_kids, hl_kids3]
       repeat' (first | refine a_seq fun K hK => ?_ | (refine a_block ?_) | (refine a_regionS ?_; simp only [Ty.w, simprocAttr, Bool.not_true, Bool.not_false, e0, e1, e2, e3, l_exprs, l_kids, hl_exprs, hl_exprs3, hl_kids, hl_kids3]) | (refine a_skip ?_; try simp only [pst0, simprocAttr]) | (refine a_cond _ (by (try simp only [Ty.w, simprocAttr, Bool.not_true, Bool.not_false, e0, e1, e2, e3, l_exprs, l_kids, hl_exprs, hl_exprs3, hl_kids, hl_kids3]); rfl) (fun hb => ?_) (fun hb => ?_) <;> (try simp only [hb0, decide_eq_true_eq, decide_eq_false_iff_not, simprocAttr] at hb) <;> (try (exfalso; omega))) | (refine hK _ _ ?_; clear hK; try simp only [pst0, simprocAttr]))
       refine a_loop (fun c S h7 => h7 = h ∧ S 2 = .cptr (Fm.mk op name args params exprs kids).cells ∧ S 3 = .cptr (Fm.mk op3 name3 args3 params3 exprs3 kids3).cells ∧ ∃ k : Nat, S 5 = .sc (.int .i64 k) ∧ k ≤ exprs.length ∧ c = exprs.length - k ∧ Ex.sames exprs exprs3 = Ex.sames (exprs.drop k) (exprs3.drop k)) exprs.length ?_ ?_
       ·simp only [Ty.w, simprocAttr, cellsA, cellsB]
        exact ⟨0, rfl, by omega, rfl, by simp⟩
       ·rintro c S h7 ⟨rfl, g2, g3, k, gk, hkl, rfl, hinv⟩
        rw [cellsA] at g2
        rw [cellsB] at g3
        by_cases hlt : k < exprs.length
        ·have hd : decide ((k : Int) < (exprs.length : Int)) = true := by simp; omega
         have w7 : IntKind.i64.wrap ((k : Int) + 1) = k + 1 := by unfold bigN at he; rw [wrap64 (by omega) (by omega)]
         obtain ⟨a, hx⟩ : ∃ a, exprs[k]? = some a := ⟨_, List.getElem?_eq_getElem hlt⟩
         obtain ⟨b, hy⟩ : ∃ b, exprs3[k]? = some b := ⟨_, List.getElem?_eq_getElem (by omega)⟩
         have hc := hfe a (List.mem_of_getElem? hx) b (List.mem_of_getElem? hy)
         rw [drop_of_get hx, drop_of_get hy] at hinv
         simp only [Ex.sames] at hinv
         have hr := Ex.rows_get hx
         have hr2 := Ex.rows_get hy
         generalize he : a.same b = e at hc hinv
         clear he
         obtain ⟨op2, name2, n2, args2, kids2⟩ := a
         obtain ⟨op4, name4, n4, args4, kids4⟩ := b
         simp only [Ex.cells] at hr hr2 hc
         cases e with
         | false =>
          have hs : (Fm.mk op name args params exprs kids).same (.mk op3 name3 args3 params3 exprs3 kids3) = false := by simp only [Fm.same, bEq, hinv, e0, e1, e2, e3, Bool.false_and, Bool.and_false]
          have W := And.intro g2 (And.intro g3 (And.intro gk (And.intro hd (And.intro hr (And.intro hr2 w7)))))
          repeat' (first | refine a_seq fun K hK => ?_ | ((first | refine a_regionS ?_ | refine a_drawS (by decide +kernel) ?_); simp only [Ty.w, simprocAttr, W, hl_exprs, hl_exprs3, hl_kids, hl_kids3, Bool.not_false]) | (refine a_skip ?_; try simp only [pst0, simprocAttr]) | (refine a_cond _ (by (try simp only [Ty.w, simprocAttr, W, hl_exprs, hl_exprs3, hl_kids, hl_kids3, Bool.not_false]); rfl) (fun hb => ?_) (fun hb => ?_) <;> (try simp only [hb0, decide_eq_true_eq, decide_eq_false_iff_not, simprocAttr] at hb) <;> (try (exfalso; omega))) | (refine hK _ _ ?_; clear hK; try simp only [pst0, simprocAttr]))
          (first | refine a_dcall0 (hc _) (by (try simp only [Ty.w, simprocAttr, W, hl_exprs, hl_exprs3, hl_kids, hl_kids3]); try rfl) ?_ | refine a_dcallA (hc _) (by (try simp only [Ty.w, simprocAttr, W, hl_exprs, hl_exprs3, hl_kids, hl_kids3]); try rfl) (by simp only [Ty.w, simprocAttr, W, hl_exprs, hl_exprs3, hl_kids, hl_kids3]; try trivial) ?_); simp only [Ty.w, simprocAttr, W, Option.getD_some, hl_exprs, hl_exprs3, hl_kids, hl_kids3]
          repeat' (first | refine a_seq fun K hK => ?_ | ((first | refine a_regionS ?_ | refine a_ret ?_); simp only [Ty.w, simprocAttr, W, Bool.not_false]) | (refine hK _ _ ?_; clear hK; try simp only [pst0, simprocAttr]))
          rw [hs]
         | true =>
          rw [Bool.true_and] at hinv
          have W := And.intro g2 (And.intro g3 (And.intro gk (And.intro hd (And.intro hr (And.intro hr2 w7)))))
          repeat' (first | refine a_seq fun K hK => ?_ | ((first | refine a_regionS ?_ | refine a_drawS (by decide +kernel) ?_); simp only [Ty.w, simprocAttr, W, hl_exprs, hl_exprs3, hl_kids, hl_kids3, Bool.not_true]) | (refine a_skip ?_; try simp only [pst0, simprocAttr]) | (refine a_cond _ (by (try simp only [Ty.w, simprocAttr, W, hl_exprs, hl_exprs3, hl_kids, hl_kids3, Bool.not_true]); rfl) (fun hb => ?_) (fun hb => ?_) <;> (try simp only [hb0, decide_eq_true_eq, decide_eq_false_iff_not, simprocAttr] at hb) <;> (try (exfalso; omega))) | (refine hK _ _ ?_; clear hK; try simp only [pst0, simprocAttr]))
          (first | refine a_dcall0 (hc _) (by (try simp only [Ty.w, simprocAttr, W, hl_exprs, hl_exprs3, hl_kids, hl_kids3]); try rfl) ?_ | refine a_dcallA (hc _) (by (try simp only [Ty.w, simprocAttr, W, hl_exprs, hl_exprs3, hl_kids, hl_kids3]); try rfl) (by simp only [Ty.w, simprocAttr, W, hl_exprs, hl_exprs3, hl_kids, hl_kids3]; try trivial) ?_); simp only [Ty.w, simprocAttr, W, Option.getD_some, hl_exprs, hl_exprs3, hl_kids, hl_kids3]
          repeat' (first | (refine a_block ?_) | (refine a_regionS ?_; simp only [Ty.w, simprocAttr, W, Bool.not_true]) | (refine a_skip ?_; try simp only [pst0, simprocAttr]) | (refine hK _ _ ?_; clear hK; try simp only [pst0, simprocAttr]))
          exact ⟨exprs.length - (k + 1), by omega, by rw [cellsA], by rw [cellsB], k + 1, by simp, by omega, rfl, hinv⟩
        ·have hd : decide ((k : Int) < (exprs.length : Int)) = false := by simp; omega
         rw [List.drop_eq_nil_of_le (by omega), List.drop_eq_nil_of_le (by omega)] at hinv
         have hq0 := hinv
         simp only [Ex.sames] at hq0
         clear hinv
         repeat' (first | refine a_seq fun K hK => ?_ | (refine a_block ?_) | (refine a_regionS ?_; simp only [Ty.w, simprocAttr, g2, g3, gk, hl_exprs, hl_exprs3, hl_kids, hl_kids3, hd]) | (refine a_exit ?_; try simp only [pst0, simprocAttr]) | (refine a_cond _ (by (try simp only [Ty.w, simprocAttr, g2, g3, gk, hl_exprs, hl_exprs3, hl_kids, hl_kids3, hd]); rfl) (fun hb => ?_) (fun hb => ?_) <;> (try simp only [hb0, decide_eq_true_eq, decide_eq_false_iff_not, simprocAttr] at hb) <;> (try (exfalso; omega))) | ((first | refine hK _ _ ?_ | (clear hK; refine hK _ _ ?_)); clear hK; try simp only [pst0, simprocAttr]))
         clear gk
         refine a_loop (fun c S h8 => h8 = h7 ∧ S 2 = .cptr (Fm.mk op name args params exprs kids).cells ∧ S 3 = .cptr (Fm.mk op3 name3 args3 params3 exprs3 kids3).cells ∧ ∃ k : Nat, S 6 = .sc (.int .i64 k) ∧ k ≤ kids.length ∧ c = kids.length - k ∧ Fm.sames kids kids3 = Fm.sames (kids.drop k) (kids3.drop k)) kids.length ?_ ?_
         ·simp only [Ty.w, simprocAttr, cellsA, cellsB, g2, g3]
          exact ⟨0, rfl, by omega, rfl, by simp⟩
         ·clear g2 g3; rintro c S h8 ⟨rfl, g2, g3, k, gk, hkl, rfl, hinv⟩
          rw [cellsA] at g2
          rw [cellsB] at g3
          by_cases hlt : k < kids.length
          ·have hd : decide ((k : Int) < (kids.length : Int)) = true := by simp; omega
           have w7 : IntKind.i64.wrap ((k : Int) + 1) = k + 1 := by unfold bigN at hk; rw [wrap64 (by omega) (by omega)]
           obtain ⟨a, hx⟩ : ∃ a, kids[k]? = some a := ⟨_, List.getElem?_eq_getElem hlt⟩
           obtain ⟨b, hy⟩ : ∃ b, kids3[k]? = some b := ⟨_, List.getElem?_eq_getElem (by omega)⟩
           have hc := hfk a (List.mem_of_getElem? hx) b (List.mem_of_getElem? hy)
           rw [drop_of_get hx, drop_of_get hy] at hinv
           simp only [Fm.sames] at hinv
           have hr := Fm.rows_get hx
           have hr2 := Fm.rows_get hy
           generalize he : a.same b = e at hc hinv
           clear he
           obtain ⟨op2, name2, args2, params2, exprs2, kids2⟩ := a
           obtain ⟨op4, name4, args4, params4, exprs4, kids4⟩ := b
           simp only [Fm.cells] at hr hr2 hc
           cases e with
           | false =>
            have hs : (Fm.mk op name args params exprs kids).same (.mk op3 name3 args3 params3 exprs3 kids3) = false := by simp only [Fm.same, bEq, hinv, e0, e1, e2, e3, hq0, Bool.false_and, Bool.and_false]
            have W := And.intro g2 (And.intro g3 (And.intro gk (And.intro hd (And.intro hr (And.intro hr2 w7)))))
            repeat' (first | refine a_seq fun K hK => ?_ | ((first | refine a_regionS ?_ | refine a_drawS (by decide +kernel) ?_); simp only [Ty.w, simprocAttr, W, hl_exprs, hl_exprs3, hl_kids, hl_kids3, Bool.not_false]) | (refine a_skip ?_; try simp only [pst0, simprocAttr]) | (refine a_cond _ (by (try simp only [Ty.w, simprocAttr, W, hl_exprs, hl_exprs3, hl_kids, hl_kids3, Bool.not_false]); rfl) (fun hb => ?_) (fun hb => ?_) <;> (try simp only [hb0, decide_eq_true_eq, decide_eq_false_iff_not, simprocAttr] at hb) <;> (try (exfalso; omega))) | (refine hK _ _ ?_; clear hK; try simp only [pst0, simprocAttr]))
            (first | refine a_dcall0 (hc _) (by (try simp only [Ty.w, simprocAttr, W, hl_exprs, hl_exprs3, hl_kids, hl_kids3]); try rfl) ?_ | refine a_dcallA (hc _) (by (try simp only [Ty.w, simprocAttr, W, hl_exprs, hl_exprs3, hl_kids, hl_kids3]); try rfl) (by simp only [Ty.w, simprocAttr, W, hl_exprs, hl_exprs3, hl_kids, hl_kids3]; try trivial) ?_); simp only [Ty.w, simprocAttr, W, Option.getD_some, hl_exprs, hl_exprs3, hl_kids, hl_kids3]
            repeat' (first | refine a_seq fun K hK => ?_ | ((first | refine a_regionS ?_ | refine a_ret ?_); simp only [Ty.w, simprocAttr, W, Bool.not_false]) | (refine hK _ _ ?_; clear hK; try simp only [pst0, simprocAttr]))
            rw [hs]
           | true =>
            rw [Bool.true_and] at hinv
            have W := And.intro g2 (And.intro g3 (And.intro gk (And.intro hd (And.intro hr (And.intro hr2 w7)))))
            repeat' (first | refine a_seq fun K hK => ?_ | ((first | refine a_regionS ?_ | refine a_drawS (by decide +kernel) ?_); simp only [Ty.w, simprocAttr, W, hl_exprs, hl_exprs3, hl_kids, hl_kids3, Bool.not_true]) | (refine a_skip ?_; try simp only [pst0, simprocAttr]) | (refine a_cond _ (by (try simp only [Ty.w, simprocAttr, W, hl_exprs, hl_exprs3, hl_kids, hl_kids3, Bool.not_true]); rfl) (fun hb => ?_) (fun hb => ?_) <;> (try simp only [hb0, decide_eq_true_eq, decide_eq_false_iff_not, simprocAttr] at hb) <;> (try (exfalso; omega))) | (refine hK _ _ ?_; clear hK; try simp only [pst0, simprocAttr]))
            (first | refine a_dcall0 (hc _) (by (try simp only [Ty.w, simprocAttr, W, hl_exprs, hl_exprs3, hl_kids, hl_kids3]); try rfl) ?_ | refine a_dcallA (hc _) (by (try simp only [Ty.w, simprocAttr, W, hl_exprs, hl_exprs3, hl_kids, hl_kids3]); try rfl) (by simp only [Ty.w, simprocAttr, W, hl_exprs, hl_exprs3, hl_kids, hl_kids3]; try trivial) ?_); simp only [Ty.w, simprocAttr, W, Option.getD_some, hl_exprs, hl_exprs3, hl_kids, hl_kids3]
            repeat' (first | (refine a_block ?_) | (refine a_regionS ?_; simp only [Ty.w, simprocAttr, W, Bool.not_true]) | (refine a_skip ?_; try simp only [pst0, simprocAttr]) | (refine hK _ _ ?_; clear hK; try simp only [pst0, simprocAttr]))
            exact ⟨kids.length - (k + 1), by omega, by rw [cellsA], by rw [cellsB], k + 1, by simp, by omega, rfl, hinv⟩
          ·have hd : decide ((k : Int) < (kids.length : Int)) = false := by simp; omega
           rw [List.drop_eq_nil_of_le (by omega), List.drop_eq_nil_of_le (by omega)] at hinv
           have hq1 := hinv
           simp only [Fm.sames] at hq1
           clear hinv
           have hs : (Fm.mk op name args params exprs kids).same (.mk op3 name3 args3 params3 exprs3 kids3) = true := by simp only [Fm.same, bEq, e0, e1, e2, e3, hq0, hq1, Bool.true_and]
           repeat' (first | refine a_seq fun K hK => ?_ | ((first | refine a_regionS ?_ | refine a_ret ?_); simp only [Ty.w, simprocAttr, g2, g3, gk, hl_exprs, hl_exprs3, hl_kids, hl_kids3, hd]) | (refine a_exit ?_; try simp only [pst0, simprocAttr]) | (refine a_cond _ (by (try simp only [Ty.w, simprocAttr, g2, g3, gk, hl_exprs, hl_exprs3, hl_kids, hl_kids3, hd]); rfl) (fun hb => ?_) (fun hb => ?_) <;> (try simp only [hb0, decide_eq_true_eq, decide_eq_false_iff_not, simprocAttr] at hb) <;> (try (exfalso; omega))) | ((first | refine hK _ _ ?_ | (clear hK; refine hK _ _ ?_)); clear hK; try simp only [pst0, simprocAttr]))
           rw [hs]
end Go.Proofs.Ytjlkapgpjamnkaa
namespace Go.AM
open Go.ChangeShapes Go.WideShapes
section
variable {P : Program} {c : Nat} {t e : TypeId} {ps : List PV} {a : PV}
theorem Arg_int {k : IntKind} (hu : P.underlying t = some (.int k)) (h : Arg P (c + 1) t ps) : ∃ n, (Lit.int k n).wf = true ∧ ps = [.sc (.int k n)] := by
  unfold Arg at h; rw [hu] at h; exact h
theorem Arg_slice (hu : P.underlying t = some (.slice e)) (h : Arg P (c + 1) t ps) : ∃ rows, ps = [.imm (P.cellsOf e) rows] ∧ rows.length * P.bytesOf e ≤ reachBytes ∧ rows.length ≤ maxLen ∧ ∀ r ∈ rows, r.length = P.cellsOf e ∧ Arg P c e r := by
  unfold Arg at h; rw [hu] at h; exact h
theorem Arg_struct {fs : Array Field} (hu : P.underlying t = some (.struct fs)) (h : Arg P (c + 1) t ps) : ps.length = P.cellsOf t ∧ ∀ p ∈ partsT P t, Arg P c p.2 ((ps.drop p.1).take (P.cellsOf p.2)) := by
  unfold Arg at h; rw [hu] at h; exact h
theorem rows_map {α : Type} {Q : α → Prop} {f : α → List PV} : (rows : List (List PV)) → (∀ r ∈ rows, ∃ x, Q x ∧ r = f x) → ∃ xs : List α, rows = xs.map f ∧ ∀ x ∈ xs, Q x
  | [], _ => ⟨[], rfl, by simp⟩
  | r :: rows, h => by
    obtain ⟨xs, h1, h2⟩ := rows_map rows (fun q hq => h q (by simp [hq]))
    obtain ⟨x, h3, h4⟩ := h r (by simp)
    refine ⟨x :: xs, by simp [h1, h4], fun y hy => ?_⟩
    rcases List.mem_cons.1 hy with rfl | hy
    · exact h3
    · exact h2 y hy
theorem i64_in {n : Int} (h : (Lit.int .i64 n).wf = true) : -9223372036854775808 ≤ n ∧ n ≤ 9223372036854775807 := by
  simp [Lit.wf, IntKind.min, IntKind.max, IntKind.bits, IntKind.signed] at h
  omega
end
end Go.AM
namespace Go.Proofs.Ytjlkapgpjamnkaa
open Go.AM
set_option maxHeartbeats 1000000
set_option maxRecDepth 20000
def recTs : List TypeId := [41, 3, 9, 39]
theorem partsSx : partsT Try.prog 41 = [(0, 3), (1, 3), (2, 3), (3, 3), (4, 9), (5, 39)] := by kernel_rfl
theorem coStr : Try.prog.cellsOf 9 = 1 := by kernel_rfl
theorem coInt : Try.prog.cellsOf 3 = 1 := by kernel_rfl
theorem coSxs : Try.prog.cellsOf 39 = 1 := by kernel_rfl
theorem coSx : Try.prog.cellsOf 41 = 6 := by kernel_rfl
theorem bySx : Try.prog.bytesOf 41 = 72 := by kernel_rfl
theorem arg_sx : ∀ (c : Nat) {ps : List PV}, Arg Try.prog c 41 ps → ∃ x : Sx, x.ok ∧ ps = x.cells := by
 have str : ∀ {c : Nat} {ps : List PV}, Arg Try.prog c 9 ps → ∃ s : ByteArray, s.size ≤ bigN ∧ ps = [sPV s] := by
  intro c ps h
  cases c with
  | zero => simp [Arg] at h
  | succ c =>
   unfold Arg at h
   rw [Try.underlying9] at h
   obtain ⟨s, h1, h2⟩ := h
   exact ⟨s, by unfold reachBytes at h1; unfold bigN; omega, h2⟩
 have int : ∀ {c : Nat} {ps : List PV}, Arg Try.prog c 3 ps → ∃ n : Int, (-9223372036854775808 ≤ n ∧ n ≤ 9223372036854775807) ∧ ps = [.sc (.int .i64 n)] := by
  intro c ps h
  cases c with
  | zero => simp [Arg] at h
  | succ c =>
   obtain ⟨n, h1, h2⟩ := Arg_int Try.underlying3 h
   exact ⟨n, i64_in h1, h2⟩
 intro c
 induction c using Nat.strongRecOn with
 | _ c ih =>
  intro ps h
  cases c with
  | zero => simp [Arg] at h
  | succ c =>
   obtain ⟨h1, h2⟩ := Arg_struct Try.underlying41 h
   rw [coSx] at h1
   rw [partsSx] at h2
   match ps, h1, h2 with
   | [p0, p1, p2, p3, p4, p5], _, h2 =>
    have a0 := h2 (0, 3) (by simp)
    have a1 := h2 (1, 3) (by simp)
    have a2 := h2 (2, 3) (by simp)
    have a3 := h2 (3, 3) (by simp)
    have a4 := h2 (4, 9) (by simp)
    have a5 := h2 (5, 39) (by simp)
    simp only [coStr, coInt, coSxs, List.drop_zero, List.drop_succ_cons, List.take_succ_cons, List.take_zero] at a0 a1 a2 a3 a4 a5
    obtain ⟨kind, hk, e0⟩ := int a0
    obtain ⟨value, hv, e1⟩ := int a1
    obtain ⟨line, _, e2⟩ := int a2
    obtain ⟨col, _, e3⟩ := int a3
    obtain ⟨text, ht, e4⟩ := str a4
    cases c with
    | zero => simp [Arg] at a5
    | succ c =>
     obtain ⟨rows, e5, h3, _, h4⟩ := Arg_slice Try.underlying39 a5
     obtain ⟨xs, rfl, h5⟩ := rows_map (Q := Sx.ok) (f := Sx.cells) rows (fun r hr => ih c (by omega) (h4 r hr).2)
     rw [coSx] at e5
     simp at e0 e1 e2 e3 e4 e5
     refine ⟨.mk kind value line col text xs, ?_, ?_⟩
     ·simp only [Sx.ok]
      refine ⟨hk, hv, ht, ?_, Sx.oks_iff.2 h5⟩
      rw [bySx, List.length_map] at h3
      unfold reachBytes at h3; unfold bigN; omega
     ·simp only [Sx.cells, e0, e1, e2, e3, e4, e5, Sx.rows_map]
end Go.Proofs.Ytjlkapgpjamnkaa
namespace Go.AM
mutual
theorem Sx.nodes_bulk : ∀ x : Sx, x.nodes ≤ PV.bulkL x.cells
 | .mk kind value line col text kids => by
  have := Sx.nodess_bulk kids
  simp only [Sx.nodes, Sx.cells, PV.bulkL, PV.bulk]
  omega
theorem Sx.nodess_bulk : ∀ l : List Sx, Sx.nodess l ≤ PV.bulkR (Sx.rows l)
 | [] => by simp [Sx.nodess]
 | k :: l => by
  have h1 := Sx.nodes_bulk k
  have h2 := Sx.nodess_bulk l
  simp only [Sx.nodess, Sx.rows, PV.bulkR]
  omega
end
end Go.AM
namespace Go.Proofs.Ytjlkapgpjamnkaa
open Go.AM
set_option maxHeartbeats 4000000
set_option maxRecDepth 20000
theorem exS_refl : ∀ l : List Ex, (∀ e ∈ l, e.same e = true) → Ex.sames l l = true
 | [], _ => rfl
 | a :: l, h => by rw [Ex.sames, h a (List.mem_cons_self ..), exS_refl l fun e he => h e (List.mem_cons_of_mem _ he)]; try rfl
theorem bsS_refl : ∀ l : List ByteArray, bsEq l l = true
 | [] => rfl
 | a :: l => by simp only [bsEq, bEq, beq_self_eq_true, bsS_refl l, Bool.and_true]
theorem exs_refl' : ∀ e : Ex, e.same e = true := by
 refine Ex.ind ?_
 intro op name n args kids ih
 simp only [Ex.same, bEq, beq_self_eq_true, bsS_refl, exS_refl kids ih, Bool.and_true]
theorem errP_sc (c : Int) : ∃ v, errP c = .sc v ∧ ∀ h : Heap, PCall Try.prog 35 [.sc v] h fun r h' => r = .sc (.int .i64 c) ∧ h' = h := by
 unfold errP
 cases hc : c == 0 with
 | true =>
  refine ⟨_, rfl, fun h => ?_⟩
  have : c = 0 := by simpa using hc
  subst this
  exact fnum_nil_c
 | false => exact ⟨_, rfl, fun h => fnum_c⟩
theorem formulaParses_c {x : Sx} (hok : x.ok) (hb : PV.bulkL x.cells ≤ 1048576) : PCall Try.prog 7 [.agg x.cells] Heap.nil fun r _ => r = .sc (.bool true) := by
 have hn : x.nodes ≤ bigN := by have := Sx.nodes_bulk x; unfold bigN; omega
 have hcnt := rcount_c x hok
 have hP := fun h : Heap => Parse_c hok h
 have hR := fun h : Heap => rParse_c hok hn h
 have hE := fun h : Heap => ParseExpr_c hok h
 have hRE := fun h : Heap => rParseExpr_c hok hn h
 have hfo := (parseF_ok hok).1
 have heo : (parseE x).1.ok := by
  unfold parseE
  split
  ·rename_i h1
   have := exprP_ok x hok (svalid_small h1)
   split
   ·split
    ·exact this.1
    ·exact zeroEx_ok.1
   ·exact zeroEx_ok.1
  ·exact zeroEx_ok.1
 generalize x.count = n at hcnt
 generalize parseF x = F at hP hR hfo
 generalize parseE x = E at hE hRE heo
 obtain ⟨f, c⟩ := F
 obtain ⟨e, c2⟩ := E
 simp only at hP hR hE hRE hfo heo
 obtain ⟨v, hv, hN⟩ := errP_sc c
 obtain ⟨v2, hv2, hN2⟩ := errP_sc c2
 rw [hv] at hP
 rw [hv2] at hE
 have hS := rsame_c f hfo f hfo
 rw [Fm.same_refl] at hS
 have hSE := rsameE_c e heo e heo
 rw [exs_refl'] at hSE
 have hcc : (c != c) = false := by simp [bne]
 have hcc2 : (c2 == c2) = true := by simp
 clear hb hn hok hfo heo hv hv2
 obtain ⟨kind, value, line, col, text, kids⟩ := x
 obtain ⟨fop, fna, far, fpa, fex, fki⟩ := f
 obtain ⟨eop, ena, env, ear, eki⟩ := e
 simp only [Sx.cells, Fm.cells, Ex.cells] at hcnt hP hR hE hRE hS hSE ⊢
 cases l1 : decide (n > 5000) with
 | true =>
  refine pcall_body (ow := fun _ => false) (wf := fun _ => false) Ty.mixed Try.func7 rfl Ty.hb_7 (by rw [Try.ntmps7]; simp) ?_
  rw [Try.ntmps7, Try.results7]
  repeat' (first | refine a_seq fun K hK => ?_ | (refine a_regionS ?_; simp only [Ty.w, simprocAttr]) | (refine hK _ _ ?_; clear hK; try simp only [pst0, simprocAttr]))
  refine owp_useQ (hcnt _) (by (try simp only [Ty.w, simprocAttr, l1]); try rfl) ?_; simp only [Ty.w, simprocAttr, l1]
  repeat' (first | refine a_seq fun K hK => ?_ | (refine a_regionS ?_; simp only [Ty.w, simprocAttr, l1]) | (refine hK _ _ ?_; clear hK; try simp only [pst0, simprocAttr]))
  refine owp_useQ (awake_c) (by (try simp only [Ty.w, simprocAttr, ]); try rfl) ?_; simp only [Ty.w, simprocAttr, ]
  repeat' (first | (refine a_ret ?_; simp only [Ty.w, simprocAttr]) | (refine hK _ _ ?_; clear hK; try simp only [pst0, simprocAttr]))
 | false =>
  refine pcall_body (ow := fun _ => false) (wf := fun _ => false) Ty.mixed Try.func7 rfl Ty.hb_7 (by rw [Try.ntmps7]; simp) ?_
  rw [Try.ntmps7, Try.results7]
  repeat' (first | refine a_seq fun K hK => ?_ | (refine a_regionS ?_; simp only [Ty.w, simprocAttr]) | (refine hK _ _ ?_; clear hK; try simp only [pst0, simprocAttr]))
  refine owp_useQ (hcnt _) (by (try simp only [Ty.w, simprocAttr, l1]); try rfl) ?_; simp only [Ty.w, simprocAttr, l1]
  skip
  refine owp_useQ (awake_c) (by (try simp only [Ty.w, simprocAttr, ]); try rfl) ?_; simp only [Ty.w, simprocAttr, ]
  repeat' (first | refine a_seq fun K hK => ?_ | (refine a_regionS ?_; simp only [Ty.w, simprocAttr, l1, Bool.not_true]) | (refine a_skip ?_; try simp only [pst0, simprocAttr]) | (refine a_cond _ (by (try simp only [Ty.w, simprocAttr, l1, Bool.not_true]); rfl) (fun hb => ?_) (fun hb => ?_) <;> (try simp only [hb0, decide_eq_true_eq, decide_eq_false_iff_not, simprocAttr] at hb) <;> (try (exfalso; omega))) | (refine hK _ _ ?_; clear hK; try simp only [pst0, simprocAttr]))
  refine owp_useQ (hP _) (by (try simp only [Ty.w, simprocAttr, ]); try rfl) ?_; simp only [Ty.w, simprocAttr, ]
  repeat' (first | refine a_seq fun K hK => ?_ | (refine a_regionS ?_; simp only [Ty.w, simprocAttr, nsucc]) | (refine hK _ _ ?_; clear hK; try simp only [pst0, simprocAttr]))
  refine owp_useQ (hR _) (by (try simp only [Ty.w, simprocAttr, nsucc]); try rfl) ?_; simp only [Ty.w, simprocAttr, nsucc]
  repeat' (first | refine a_seq fun K hK => ?_ | (refine a_regionS ?_; simp only [Ty.w, simprocAttr, nsucc]) | (refine hK _ _ ?_; clear hK; try simp only [pst0, simprocAttr]))
  refine owp_useQ (hN _) (by (try simp only [Ty.w, simprocAttr, nsucc]); try rfl) ?_; simp only [Ty.w, simprocAttr, nsucc]
  repeat' (with_reducible refine ite_in (fun hb => ?_) (fun hb => ?_) <;> (try simp only [Decidable.not_not] at hb) <;> (try simp only [hb, if_true, if_false, not_false_eq_true, not_true_eq_false, ↓reduceIte]) <;> (try simp only [hb0, decide_eq_true_eq, decide_eq_false_iff_not, simprocAttr] at hb) <;> (try (exfalso; omega)))
  refine owp_useQ (hS _) (by (try simp only [Ty.w, simprocAttr, nsucc, hcc, Nat.add_eq_left, Nat.one_ne_zero]); try rfl) ?_; simp only [Ty.w, simprocAttr, nsucc, hcc, Nat.add_eq_left, Nat.one_ne_zero]
  repeat' (first | refine a_seq fun K hK => ?_ | (refine a_regionS ?_; simp only [Ty.w, simprocAttr, nsucc, hcc, Bool.not_true]) | (refine a_skip ?_; try simp only [pst0, simprocAttr]) | (refine a_cond _ (by (try simp only [Ty.w, simprocAttr, nsucc, hcc, Bool.not_true]); rfl) (fun hb => ?_) (fun hb => ?_) <;> (try simp only [hb0, decide_eq_true_eq, decide_eq_false_iff_not, simprocAttr] at hb) <;> (try (exfalso; omega))) | (refine hK _ _ ?_; clear hK; try simp only [pst0, simprocAttr]))
  refine owp_useQ (hE _) (by (try simp only [Ty.w, simprocAttr, nsucc]); try rfl) ?_; simp only [Ty.w, simprocAttr, nsucc]
  repeat' (first | refine a_seq fun K hK => ?_ | (refine a_regionS ?_; simp only [Ty.w, simprocAttr, nsucc]) | (refine hK _ _ ?_; clear hK; try simp only [pst0, simprocAttr]))
  refine owp_useQ (hRE _) (by (try simp only [Ty.w, simprocAttr, nsucc]); try rfl) ?_; simp only [Ty.w, simprocAttr, nsucc]
  repeat' (first | refine a_seq fun K hK => ?_ | (refine a_regionS ?_; simp only [Ty.w, simprocAttr, nsucc]) | (refine hK _ _ ?_; clear hK; try simp only [pst0, simprocAttr]))
  refine owp_useQ (hN2 _) (by (try simp only [Ty.w, simprocAttr, nsucc]); try rfl) ?_; simp only [Ty.w, simprocAttr, nsucc]
  skip
  refine owp_useQ (hSE _) (by (try simp only [Ty.w, simprocAttr, nsucc, hcc2, Nat.add_eq_left, Nat.one_ne_zero]); try rfl) ?_; simp only [Ty.w, simprocAttr, nsucc, hcc2, Nat.add_eq_left, Nat.one_ne_zero]
  repeat' (first | (refine a_ret ?_; simp only [Ty.w, simprocAttr, nsucc, hcc2]) | (refine hK _ _ ?_; clear hK; try simp only [pst0, simprocAttr]))
end Go.Proofs.Ytjlkapgpjamnkaa
