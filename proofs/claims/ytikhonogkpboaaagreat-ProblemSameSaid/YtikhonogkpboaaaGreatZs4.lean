/- What the claim rests on, part 4: the abstract machine, contracts of the functions, plain data. -/
import Derived.OpenShut
import Derived.ChangeShapes
import Derived.SizedLaws
import Derived.Test.YtikhonogkpboaaaGreatZs3
set_option linter.unusedVariables false
set_option linter.unusedSimpArgs false
set_option linter.unusedSectionVars false
namespace Go.AM
def At.same (a b : At) : Bool := bEq a.name b.name && bsEq a.args b.args
def atsEq : List At → List At → Bool
  | [], [] => true
  | a :: l, b :: m => a.same b && atsEq l m
  | _, _ => false
def Vl.same (a b : Vl) : Bool := (a.n == b.n) && a.at_.same b.at_
def vlsEq : List Vl → List Vl → Bool
  | [], [] => true
  | a :: l, b :: m => a.same b && vlsEq l m
  | _, _ => false
def Pb.same (p q : Pb) : Bool := bEq p.name q.name && bEq p.domain q.domain && pmsEq p.objects q.objects && atsEq p.init q.init && vlsEq p.values q.values && p.goal.same q.goal
theorem atsEq_len : ∀ {l m : List At}, ¬ l.length = m.length → atsEq l m = false
  | [], [], h => by simp at h
  | [], _ :: _, _ => rfl
  | _ :: _, [], _ => rfl
  | a :: l, b :: m, h => by simp only [atsEq, atsEq_len (l := l) (m := m) (by simpa using h), Bool.and_false]
theorem vlsEq_len : ∀ {l m : List Vl}, ¬ l.length = m.length → vlsEq l m = false
  | [], [], h => by simp at h
  | [], _ :: _, _ => rfl
  | _ :: _, [], _ => rfl
  | a :: l, b :: m, h => by simp only [vlsEq, vlsEq_len (l := l) (m := m) (by simpa using h), Bool.and_false]
/-- what problem's atoms are, as it came in -/
def Vl.okS (v : Vl) : Prop := v.at_.ok
structure Pb.okS (p : Pb) : Prop where
  objects : p.objects.length ≤ bigN
  init : p.init.length ≤ bigN ∧ ∀ a ∈ p.init, a.ok
  values : p.values.length ≤ bigN ∧ ∀ v ∈ p.values, v.okS
  goal : p.goal.ok
/-- how two atoms stand to each other -/
def cmpS : List ByteArray → List ByteArray → Int
  | [], [] => 0
  | [], m => 0 - (m.length : Int)
  | l, [] => (l.length : Int)
  | a :: l, b :: m => bif Op.bytesLess a.data.toList b.data.toList then -1 else bif !(Op.bytesLess a.data.toList b.data.toList || (a.data.toList == b.data.toList)) then 1 else cmpS l m
def cmpA (a b : At) : Int := bif bEq a.name b.name then cmpS a.args b.args else bif Op.bytesLess a.name.data.toList b.name.data.toList then -1 else 1
theorem less_self : ∀ l : List UInt8, Op.bytesLess l l = false
  | [] => rfl
  | a :: l => by simp [Op.bytesLess, less_self l]
theorem cmpS_zero : ∀ l m : List ByteArray, (cmpS l m == 0) = bsEq l m
  | [], [] => rfl
  | [], b :: m => by
    simp only [cmpS, bsEq, List.length_cons]
    simp; omega
  | a :: l, [] => by
    simp only [cmpS, bsEq, List.length_cons]
    simp; omega
  | a :: l, b :: m => by
    simp only [cmpS, bsEq, bEq]
    cases he : (a.data.toList == b.data.toList) with
    | true =>
      have h2 := eq_of_beq he
      rw [h2, less_self]
      simp only [cond_false, Bool.or_true, Bool.not_true, Bool.true_and]
      exact cmpS_zero l m
    | false =>
      cases hl : Op.bytesLess a.data.toList b.data.toList with
      | true => simp only [cond_true, Bool.false_and]; rfl
      | false => simp only [cond_false, Bool.or_false, Bool.not_false, cond_true, Bool.false_and]; rfl
theorem cmpA_zero (a b : At) : (cmpA a b == 0) = a.same b := by
  unfold cmpA At.same
  cases he : bEq a.name b.name with
  | true => simp only [cond_true, Bool.true_and]; exact cmpS_zero _ _
  | false =>
    simp only [cond_false, Bool.false_and]
    cases Op.bytesLess a.name.data.toList b.name.data.toList <;> rfl
end Go.AM
namespace Go.Proofs.YtikhonogkpboaaaGreat
open Go.AM
set_option maxHeartbeats 4000000
set_option maxRecDepth 20000
theorem psameAtom_c {a b : At} (ha : a.ok) (hb : b.ok) (h : Heap) : PCall Tryz.prog 70 [.agg (atRow a), .agg (atRow b)] h fun r h' => r = .sc (.bool (a.same b)) ∧ h' = h := by
  have hc := fun h : Heap => ftexts_c (h := h) (l := a.args) (m := b.args) ha.2.1 hb.2.1
  unfold At.same bEq
  simp only [atRow]
  generalize bsEq a.args b.args = e at hc ⊢
  cases e0 : (a.name.data.toList == b.name.data.toList) with
  | false =>
    refine pcall_body (ow := fun _ => false) (wf := fun _ => false) Ty.mixed Tryz.func70 rfl Ty.hb_70 (by rw [Tryz.ntmps70]; simp) ?_
    rw [Tryz.ntmps70, Tryz.results70]
    repeat' (first | (refine a_seq (fun K hK => ?_)) | (refine a_block ?_) | ((first | refine a_regionS ?_ | refine a_region (fun K hK => ?_) | refine a_ret ?_); simp (maxSteps := 2000000) only [Ty.w, simprocAttr, e0]) | ((first | refine a_skip ?_ | refine a_exit ?_); (try simp only [pst0, simprocAttr])) | (refine a_cond _ (by (try simp (maxSteps := 2000000) only [Ty.w, simprocAttr, e0]); rfl) (fun hb => ?_) (fun hb => ?_) <;> (try simp only [hb0, decide_eq_true_eq, decide_eq_false_iff_not, simprocAttr] at hb) <;> (try (exfalso; omega))) | (with_reducible refine ite_in (fun hb => ?_) (fun hb => ?_) <;> (try simp only [Decidable.not_not] at hb) <;> (try simp only [hb, if_true, if_false, not_false_eq_true, not_true_eq_false, ↓reduceIte]) <;> (try simp only [hb0, decide_eq_true_eq, decide_eq_false_iff_not, simprocAttr] at hb) <;> (try (exfalso; omega))) | ((first | refine hK _ _ ?_ | (clear hK; refine hK _ _ ?_) | (clear hK; clear hK; refine hK _ _ ?_) | (clear hK; clear hK; clear hK; refine hK _ _ ?_)); clear hK; (try simp only [pst0, simprocAttr])) | (rw [if_pos]; rotate_left 1; omega; simp (maxSteps := 2000000) only [Ty.w, simprocAttr, e0]))
    all_goals simp only [Bool.false_and]
  | true =>
    refine pcall_body (ow := fun _ => false) (wf := fun _ => false) Ty.mixed Tryz.func70 rfl Ty.hb_70 (by rw [Tryz.ntmps70]; simp) ?_
    rw [Tryz.ntmps70, Tryz.results70]
    repeat' (first | (refine a_seq (fun K hK => ?_)) | (refine a_block ?_) | ((first | refine a_regionS ?_ | refine a_region (fun K hK => ?_) | refine a_ret ?_); simp (maxSteps := 2000000) only [Ty.w, simprocAttr, e0]) | ((first | refine a_skip ?_ | refine a_exit ?_); (try simp only [pst0, simprocAttr])) | (refine a_cond _ (by (try simp (maxSteps := 2000000) only [Ty.w, simprocAttr, e0]); rfl) (fun hb => ?_) (fun hb => ?_) <;> (try simp only [hb0, decide_eq_true_eq, decide_eq_false_iff_not, simprocAttr] at hb) <;> (try (exfalso; omega))) | (with_reducible refine ite_in (fun hb => ?_) (fun hb => ?_) <;> (try simp only [Decidable.not_not] at hb) <;> (try simp only [hb, if_true, if_false, not_false_eq_true, not_true_eq_false, ↓reduceIte]) <;> (try simp only [hb0, decide_eq_true_eq, decide_eq_false_iff_not, simprocAttr] at hb) <;> (try (exfalso; omega))) | ((first | refine hK _ _ ?_ | (clear hK; refine hK _ _ ?_) | (clear hK; clear hK; refine hK _ _ ?_) | (clear hK; clear hK; clear hK; refine hK _ _ ?_)); clear hK; (try simp only [pst0, simprocAttr])) | (rw [if_pos]; rotate_left 1; omega; simp (maxSteps := 2000000) only [Ty.w, simprocAttr, e0]))
    refine owp_useQ (hc _) (by (try simp only [Ty.w, simprocAttr, e0]); try rfl) ?_; simp (maxSteps := 2000000) only [Ty.w, simprocAttr, e0]
    repeat' (first | (refine a_seq (fun K hK => ?_)) | (refine a_block ?_) | ((first | refine a_regionS ?_ | refine a_region (fun K hK => ?_) | refine a_ret ?_); simp (maxSteps := 2000000) only [Ty.w, simprocAttr, e0]) | ((first | refine a_skip ?_ | refine a_exit ?_); (try simp only [pst0, simprocAttr])) | (refine a_cond _ (by (try simp (maxSteps := 2000000) only [Ty.w, simprocAttr, e0]); rfl) (fun hb => ?_) (fun hb => ?_) <;> (try simp only [hb0, decide_eq_true_eq, decide_eq_false_iff_not, simprocAttr] at hb) <;> (try (exfalso; omega))) | (with_reducible refine ite_in (fun hb => ?_) (fun hb => ?_) <;> (try simp only [Decidable.not_not] at hb) <;> (try simp only [hb, if_true, if_false, not_false_eq_true, not_true_eq_false, ↓reduceIte]) <;> (try simp only [hb0, decide_eq_true_eq, decide_eq_false_iff_not, simprocAttr] at hb) <;> (try (exfalso; omega))) | ((first | refine hK _ _ ?_ | (clear hK; refine hK _ _ ?_) | (clear hK; clear hK; refine hK _ _ ?_) | (clear hK; clear hK; clear hK; refine hK _ _ ?_)); clear hK; (try simp only [pst0, simprocAttr])) | (rw [if_pos]; rotate_left 1; omega; simp (maxSteps := 2000000) only [Ty.w, simprocAttr, e0]))
    all_goals simp only [Bool.true_and]
theorem psameValue_c {a b : Vl} (ha : a.okS) (hb : b.okS) (h : Heap) : PCall Tryz.prog 72 [.agg (vlRow a), .agg (vlRow b)] h fun r h' => r = .sc (.bool (a.same b)) ∧ h' = h := by
  have hc := psameAtom_c ha hb
  unfold Vl.same
  simp only [vlRow]
  simp only [atRow] at hc
  generalize a.at_.same b.at_ = e at hc ⊢
  cases e0 : (a.n == b.n) with
  | false =>
    refine pcall_body (ow := fun _ => false) (wf := fun _ => false) Ty.mixed Tryz.func72 rfl Ty.hb_72 (by rw [Tryz.ntmps72]; simp) ?_
    rw [Tryz.ntmps72, Tryz.results72]
    repeat' (first | (refine a_seq (fun K hK => ?_)) | (refine a_block ?_) | ((first | refine a_regionS ?_ | refine a_region (fun K hK => ?_) | refine a_ret ?_); simp (maxSteps := 2000000) only [Ty.w, simprocAttr, e0]) | ((first | refine a_skip ?_ | refine a_exit ?_); (try simp only [pst0, simprocAttr])) | (refine a_cond _ (by (try simp (maxSteps := 2000000) only [Ty.w, simprocAttr, e0]); rfl) (fun hb => ?_) (fun hb => ?_) <;> (try simp only [hb0, decide_eq_true_eq, decide_eq_false_iff_not, simprocAttr] at hb) <;> (try (exfalso; omega))) | (with_reducible refine ite_in (fun hb => ?_) (fun hb => ?_) <;> (try simp only [Decidable.not_not] at hb) <;> (try simp only [hb, if_true, if_false, not_false_eq_true, not_true_eq_false, ↓reduceIte]) <;> (try simp only [hb0, decide_eq_true_eq, decide_eq_false_iff_not, simprocAttr] at hb) <;> (try (exfalso; omega))) | ((first | refine hK _ _ ?_ | (clear hK; refine hK _ _ ?_) | (clear hK; clear hK; refine hK _ _ ?_) | (clear hK; clear hK; clear hK; refine hK _ _ ?_)); clear hK; (try simp only [pst0, simprocAttr])) | (rw [if_pos]; rotate_left 1; omega; simp (maxSteps := 2000000) only [Ty.w, simprocAttr, e0]))
    all_goals simp only [Bool.false_and]
  | true =>
    refine pcall_body (ow := fun _ => false) (wf := fun _ => false) Ty.mixed Tryz.func72 rfl Ty.hb_72 (by rw [Tryz.ntmps72]; simp) ?_
    rw [Tryz.ntmps72, Tryz.results72]
    repeat' (first | (refine a_seq (fun K hK => ?_)) | (refine a_block ?_) | ((first | refine a_regionS ?_ | refine a_region (fun K hK => ?_) | refine a_ret ?_); simp (maxSteps := 2000000) only [Ty.w, simprocAttr, e0]) | ((first | refine a_skip ?_ | refine a_exit ?_); (try simp only [pst0, simprocAttr])) | (refine a_cond _ (by (try simp (maxSteps := 2000000) only [Ty.w, simprocAttr, e0]); rfl) (fun hb => ?_) (fun hb => ?_) <;> (try simp only [hb0, decide_eq_true_eq, decide_eq_false_iff_not, simprocAttr] at hb) <;> (try (exfalso; omega))) | (with_reducible refine ite_in (fun hb => ?_) (fun hb => ?_) <;> (try simp only [Decidable.not_not] at hb) <;> (try simp only [hb, if_true, if_false, not_false_eq_true, not_true_eq_false, ↓reduceIte]) <;> (try simp only [hb0, decide_eq_true_eq, decide_eq_false_iff_not, simprocAttr] at hb) <;> (try (exfalso; omega))) | ((first | refine hK _ _ ?_ | (clear hK; refine hK _ _ ?_) | (clear hK; clear hK; refine hK _ _ ?_) | (clear hK; clear hK; clear hK; refine hK _ _ ?_)); clear hK; (try simp only [pst0, simprocAttr])) | (rw [if_pos]; rotate_left 1; omega; simp (maxSteps := 2000000) only [Ty.w, simprocAttr, e0]))
    refine owp_useQ (hc _) (by (try simp only [Ty.w, simprocAttr, e0]); try rfl) ?_; simp (maxSteps := 2000000) only [Ty.w, simprocAttr, e0]
    repeat' (first | (refine a_seq (fun K hK => ?_)) | (refine a_block ?_) | ((first | refine a_regionS ?_ | refine a_region (fun K hK => ?_) | refine a_ret ?_); simp (maxSteps := 2000000) only [Ty.w, simprocAttr, e0]) | ((first | refine a_skip ?_ | refine a_exit ?_); (try simp only [pst0, simprocAttr])) | (refine a_cond _ (by (try simp (maxSteps := 2000000) only [Ty.w, simprocAttr, e0]); rfl) (fun hb => ?_) (fun hb => ?_) <;> (try simp only [hb0, decide_eq_true_eq, decide_eq_false_iff_not, simprocAttr] at hb) <;> (try (exfalso; omega))) | (with_reducible refine ite_in (fun hb => ?_) (fun hb => ?_) <;> (try simp only [Decidable.not_not] at hb) <;> (try simp only [hb, if_true, if_false, not_false_eq_true, not_true_eq_false, ↓reduceIte]) <;> (try simp only [hb0, decide_eq_true_eq, decide_eq_false_iff_not, simprocAttr] at hb) <;> (try (exfalso; omega))) | ((first | refine hK _ _ ?_ | (clear hK; refine hK _ _ ?_) | (clear hK; clear hK; refine hK _ _ ?_) | (clear hK; clear hK; clear hK; refine hK _ _ ?_)); clear hK; (try simp only [pst0, simprocAttr])) | (rw [if_pos]; rotate_left 1; omega; simp (maxSteps := 2000000) only [Ty.w, simprocAttr, e0]))
    all_goals simp only [Bool.true_and]
theorem fEqA_c {g : FuncId} {l m : List At} (hl : l.length ≤ bigN) (hf : ∀ a ∈ l, ∀ b ∈ m, ∀ h : Heap, PCall Tryz.prog g [.agg (atRow a), .agg (atRow b)] h fun r h' => r = .sc (.bool (At.same a b)) ∧ h' = h) (h : Heap) :
    PCall Tryz.prog 69 [.imm 2 (atRows l), .imm 2 (atRows m), .sc (.func (.func g) #[] #[])] h fun r h' => r = .sc (.bool (atsEq l m)) ∧ h' = h := by
  unfold bigN at hl
  have hll := atRows_len l
  have hlm := atRows_len m
  refine PCall.quiet Ty.hb_69 ?_
  refine pcall_body (ow := fun _ => false) (wf := fun _ => false) Ty.mixed Tryz.func69 rfl Ty.hb_69 (by rw [Tryz.ntmps69]; simp) ?_
  rw [Tryz.ntmps69, Tryz.results69]
  cases hne : ((l.length : Int) != m.length) with
  | true =>
    have : atsEq l m = false := atsEq_len (by simp at hne; omega)
    repeat' (first | (refine a_seq (fun K hK => ?_)) | (refine a_block ?_) | ((first | refine a_regionS ?_ | refine a_region (fun K hK => ?_) | refine a_ret ?_); simp (maxSteps := 2000000) only [Ty.w, simprocAttr, hll, hlm, hne]) | ((first | refine a_skip ?_ | refine a_exit ?_); (try simp only [pst0, simprocAttr])) | (refine a_cond _ (by (try simp (maxSteps := 2000000) only [Ty.w, simprocAttr, hll, hlm, hne]); rfl) (fun hb => ?_) (fun hb => ?_) <;> (try simp only [hb0, decide_eq_true_eq, decide_eq_false_iff_not, simprocAttr] at hb) <;> (try (exfalso; omega))) | (with_reducible refine ite_in (fun hb => ?_) (fun hb => ?_) <;> (try simp only [Decidable.not_not] at hb) <;> (try simp only [hb, if_true, if_false, not_false_eq_true, not_true_eq_false, ↓reduceIte]) <;> (try simp only [hb0, decide_eq_true_eq, decide_eq_false_iff_not, simprocAttr] at hb) <;> (try (exfalso; omega))) | ((first | refine hK _ _ ?_ | (clear hK; refine hK _ _ ?_) | (clear hK; clear hK; refine hK _ _ ?_) | (clear hK; clear hK; clear hK; refine hK _ _ ?_)); clear hK; (try simp only [pst0, simprocAttr])) | (rw [if_pos]; rotate_left 1; omega; simp (maxSteps := 2000000) only [Ty.w, simprocAttr, hll, hlm, hne]))
    rw [this]
    exact ⟨rfl, Grow.refl _⟩
  | false =>
    have hlen : l.length = m.length := by simp at hne; omega
    repeat' (first | (refine a_seq (fun K hK => ?_)) | (refine a_block ?_) | ((first | refine a_regionS ?_ | refine a_region (fun K hK => ?_) | refine a_ret ?_); simp (maxSteps := 2000000) only [Ty.w, simprocAttr, hll, hlm, hne]) | ((first | refine a_skip ?_ | refine a_exit ?_); (try simp only [pst0, simprocAttr])) | (refine a_cond _ (by (try simp (maxSteps := 2000000) only [Ty.w, simprocAttr, hll, hlm, hne]); rfl) (fun hb => ?_) (fun hb => ?_) <;> (try simp only [hb0, decide_eq_true_eq, decide_eq_false_iff_not, simprocAttr] at hb) <;> (try (exfalso; omega))) | (with_reducible refine ite_in (fun hb => ?_) (fun hb => ?_) <;> (try simp only [Decidable.not_not] at hb) <;> (try simp only [hb, if_true, if_false, not_false_eq_true, not_true_eq_false, ↓reduceIte]) <;> (try simp only [hb0, decide_eq_true_eq, decide_eq_false_iff_not, simprocAttr] at hb) <;> (try (exfalso; omega))) | ((first | refine hK _ _ ?_ | (clear hK; refine hK _ _ ?_) | (clear hK; clear hK; refine hK _ _ ?_) | (clear hK; clear hK; clear hK; refine hK _ _ ?_)); clear hK; (try simp only [pst0, simprocAttr])) | (rw [if_pos]; rotate_left 1; omega; simp (maxSteps := 2000000) only [Ty.w, simprocAttr, hll, hlm, hne]))
    refine a_loop (fun c S h' => Grow h h' ∧ S 1 = .imm 2 (atRows m) ∧ S 2 = .sc (.func (.func g) #[] #[]) ∧ S 15 = .imm 2 (atRows l) ∧ S 16 = .sc (.int .i64 l.length) ∧ ∃ k : Nat, S 17 = .sc (.int .i64 k) ∧ k ≤ l.length ∧ c = l.length - k ∧ atsEq l m = atsEq (l.drop k) (m.drop k)) l.length ?_ ?_
    · simp only [Ty.w, simprocAttr]
      exact ⟨Grow.refl _, 0, rfl, by omega, rfl, by simp⟩
    · rintro c S h' ⟨hg, g1, g2, g15, g16, k, gk, hkl, rfl, hinv⟩
      by_cases hlt : k < l.length
      · have hd : decide ((k : Int) < (l.length : Int)) = true := by simp; omega
        have w7 : IntKind.i64.wrap ((k : Int) + 1) = k + 1 := by rw [wrap64 (by omega) (by omega)]
        obtain ⟨a, hx⟩ : ∃ a, l[k]? = some a := ⟨_, List.getElem?_eq_getElem hlt⟩
        obtain ⟨b, hy⟩ : ∃ b, m[k]? = some b := ⟨_, List.getElem?_eq_getElem (by omega)⟩
        have hc := hf a (List.mem_of_getElem? hx) b (List.mem_of_getElem? hy)
        rw [drop_of_get hx, drop_of_get hy] at hinv
        simp only [atsEq] at hinv
        have hr := atRows_get hx
        have hr2 := atRows_get hy
        generalize he : At.same a b = e at hc hinv
        clear he hf
        obtain ⟨name2, args2⟩ := a
        obtain ⟨name3, args3⟩ := b
        simp only [atRow] at hr hr2 hc
        repeat' (first | (refine a_seq (fun K hK => ?_)) | (refine a_block ?_) | ((first | refine a_regionS ?_ | refine a_drawS (by decide +kernel) ?_ | refine a_region (fun K hK => ?_) | refine a_draw (by decide +kernel) (fun K hK => ?_) | refine a_ret ?_); simp (maxSteps := 2000000) only [Ty.w, simprocAttr, g1, g2, g15, g16, gk, hll, hlm, hd, hr, hr2, w7, nsucc]) | ((first | refine a_skip ?_ | refine a_exit ?_); (try simp only [pst0, simprocAttr])) | (refine a_cond _ (by (try simp (maxSteps := 2000000) only [Ty.w, simprocAttr, g1, g2, g15, g16, gk, hll, hlm, hd, hr, hr2, w7, nsucc]); rfl) (fun hb => ?_) (fun hb => ?_) <;> (try simp only [hb0, decide_eq_true_eq, decide_eq_false_iff_not, simprocAttr] at hb) <;> (try (exfalso; omega))) | (with_reducible refine ite_in (fun hb => ?_) (fun hb => ?_) <;> (try simp only [Decidable.not_not] at hb) <;> (try simp only [hb, if_true, if_false, not_false_eq_true, not_true_eq_false, ↓reduceIte]) <;> (try simp only [hb0, decide_eq_true_eq, decide_eq_false_iff_not, simprocAttr] at hb) <;> (try (exfalso; omega))) | ((first | refine hK _ _ ?_ | (clear hK; refine hK _ _ ?_) | (clear hK; clear hK; refine hK _ _ ?_) | (clear hK; clear hK; clear hK; refine hK _ _ ?_)); clear hK; (try simp only [pst0, simprocAttr])) | ((first | with_reducible refine a_past _ rfl (by decide +kernel) ?_ | (with_reducible refine a_past2 (by simp only [List.forall_mem_cons, Ty.w, simprocAttr, g1, g2, g15, g16, gk, hll, hlm, hd, hr, hr2, w7, nsucc]; (repeat' apply And.intro) <;> first | trivial | exact .inl (by decide +kernel)) ?_)); try simp (maxSteps := 2000000) only [Ty.w, simprocAttr, g1, g2, g15, g16, gk, hll, hlm, hd, hr, hr2, w7, nsucc]) | (rw [if_pos]; rotate_left 1; omega; simp (maxSteps := 2000000) only [Ty.w, simprocAttr, g1, g2, g15, g16, gk, hll, hlm, hd, hr, hr2, w7, nsucc]))
        refine owp_useV (by simp only [Ty.w, simprocAttr, g2]) (hc _) (by simp only [Ty.w, simprocAttr, g1, g2, g15, g16, gk]; try rfl) ?_
        simp (maxSteps := 2000000) only [Ty.w, simprocAttr, Ty.all]
        cases e with
        | false =>
          repeat' (first | (refine a_seq (fun K hK => ?_)) | (refine a_block ?_) | ((first | refine a_regionS ?_ | refine a_drawS (by decide +kernel) ?_ | refine a_region (fun K hK => ?_) | refine a_draw (by decide +kernel) (fun K hK => ?_) | refine a_ret ?_); simp (maxSteps := 2000000) only [Ty.w, simprocAttr, g1, g2, g15, g16, gk, w7, Bool.not_false]) | ((first | refine a_skip ?_ | refine a_exit ?_); (try simp only [pst0, simprocAttr])) | (refine a_cond _ (by (try simp (maxSteps := 2000000) only [Ty.w, simprocAttr, g1, g2, g15, g16, gk, w7, Bool.not_false]); rfl) (fun hb => ?_) (fun hb => ?_) <;> (try simp only [hb0, decide_eq_true_eq, decide_eq_false_iff_not, simprocAttr] at hb) <;> (try (exfalso; omega))) | (with_reducible refine ite_in (fun hb => ?_) (fun hb => ?_) <;> (try simp only [Decidable.not_not] at hb) <;> (try simp only [hb, if_true, if_false, not_false_eq_true, not_true_eq_false, ↓reduceIte]) <;> (try simp only [hb0, decide_eq_true_eq, decide_eq_false_iff_not, simprocAttr] at hb) <;> (try (exfalso; omega))) | ((first | refine hK _ _ ?_ | (clear hK; refine hK _ _ ?_) | (clear hK; clear hK; refine hK _ _ ?_) | (clear hK; clear hK; clear hK; refine hK _ _ ?_)); clear hK; (try simp only [pst0, simprocAttr])) | ((first | with_reducible refine a_past _ rfl (by decide +kernel) ?_ | (with_reducible refine a_past2 (by simp only [List.forall_mem_cons, Ty.w, simprocAttr, g1, g2, g15, g16, gk, w7, Bool.not_false]; (repeat' apply And.intro) <;> first | trivial | exact .inl (by decide +kernel)) ?_)); try simp (maxSteps := 2000000) only [Ty.w, simprocAttr, g1, g2, g15, g16, gk, w7, Bool.not_false]) | (rw [if_pos]; rotate_left 1; omega; simp (maxSteps := 2000000) only [Ty.w, simprocAttr, g1, g2, g15, g16, gk, w7, Bool.not_false]))
          rw [hinv]
          exact ⟨rfl, (((hg.new _).set hg.le _).new _).set (Nat.le_succ_of_le hg.le) _⟩
        | true =>
          repeat' (first | (refine a_seq (fun K hK => ?_)) | (refine a_block ?_) | ((first | refine a_regionS ?_ | refine a_drawS (by decide +kernel) ?_ | refine a_region (fun K hK => ?_) | refine a_draw (by decide +kernel) (fun K hK => ?_) | refine a_ret ?_); simp (maxSteps := 2000000) only [Ty.w, simprocAttr, g1, g2, g15, g16, gk, w7, Bool.not_true]) | ((first | refine a_skip ?_ | refine a_exit ?_); (try simp only [pst0, simprocAttr])) | (refine a_cond _ (by (try simp (maxSteps := 2000000) only [Ty.w, simprocAttr, g1, g2, g15, g16, gk, w7, Bool.not_true]); rfl) (fun hb => ?_) (fun hb => ?_) <;> (try simp only [hb0, decide_eq_true_eq, decide_eq_false_iff_not, simprocAttr] at hb) <;> (try (exfalso; omega))) | (with_reducible refine ite_in (fun hb => ?_) (fun hb => ?_) <;> (try simp only [Decidable.not_not] at hb) <;> (try simp only [hb, if_true, if_false, not_false_eq_true, not_true_eq_false, ↓reduceIte]) <;> (try simp only [hb0, decide_eq_true_eq, decide_eq_false_iff_not, simprocAttr] at hb) <;> (try (exfalso; omega))) | ((first | refine hK _ _ ?_ | (clear hK; refine hK _ _ ?_) | (clear hK; clear hK; refine hK _ _ ?_) | (clear hK; clear hK; clear hK; refine hK _ _ ?_)); clear hK; (try simp only [pst0, simprocAttr])) | ((first | with_reducible refine a_past _ rfl (by decide +kernel) ?_ | (with_reducible refine a_past2 (by simp only [List.forall_mem_cons, Ty.w, simprocAttr, g1, g2, g15, g16, gk, w7, Bool.not_true]; (repeat' apply And.intro) <;> first | trivial | exact .inl (by decide +kernel)) ?_)); try simp (maxSteps := 2000000) only [Ty.w, simprocAttr, g1, g2, g15, g16, gk, w7, Bool.not_true]) | (rw [if_pos]; rotate_left 1; omega; simp (maxSteps := 2000000) only [Ty.w, simprocAttr, g1, g2, g15, g16, gk, w7, Bool.not_true]))
          rw [Bool.true_and] at hinv
          exact ⟨l.length - (k + 1), by omega, (((hg.new _).set hg.le _).new _).set (Nat.le_succ_of_le hg.le) _, k + 1, by simp, by omega, rfl, hinv⟩
      · have hd : decide ((k : Int) < (l.length : Int)) = false := by simp; omega
        rw [List.drop_eq_nil_of_le (by omega), List.drop_eq_nil_of_le (by omega)] at hinv
        simp only [atsEq] at hinv
        repeat' (first | (refine a_seq (fun K hK => ?_)) | (refine a_block ?_) | ((first | refine a_regionS ?_ | refine a_region (fun K hK => ?_) | refine a_ret ?_); simp (maxSteps := 2000000) only [Ty.w, simprocAttr, g1, g2, g15, g16, gk, hll, hd]) | ((first | refine a_skip ?_ | refine a_exit ?_); (try simp only [pst0, simprocAttr])) | (refine a_cond _ (by (try simp (maxSteps := 2000000) only [Ty.w, simprocAttr, g1, g2, g15, g16, gk, hll, hd]); rfl) (fun hb => ?_) (fun hb => ?_) <;> (try simp only [hb0, decide_eq_true_eq, decide_eq_false_iff_not, simprocAttr] at hb) <;> (try (exfalso; omega))) | (with_reducible refine ite_in (fun hb => ?_) (fun hb => ?_) <;> (try simp only [Decidable.not_not] at hb) <;> (try simp only [hb, if_true, if_false, not_false_eq_true, not_true_eq_false, ↓reduceIte]) <;> (try simp only [hb0, decide_eq_true_eq, decide_eq_false_iff_not, simprocAttr] at hb) <;> (try (exfalso; omega))) | ((first | refine hK _ _ ?_ | (clear hK; refine hK _ _ ?_) | (clear hK; clear hK; refine hK _ _ ?_) | (clear hK; clear hK; clear hK; refine hK _ _ ?_)); clear hK; (try simp only [pst0, simprocAttr])) | (rw [if_pos]; rotate_left 1; omega; simp (maxSteps := 2000000) only [Ty.w, simprocAttr, g1, g2, g15, g16, gk, hll, hd]))
        rw [hinv]
        exact ⟨rfl, hg⟩
theorem fEqV_c {g : FuncId} {l m : List Vl} (hl : l.length ≤ bigN) (hf : ∀ a ∈ l, ∀ b ∈ m, ∀ h : Heap, PCall Tryz.prog g [.agg (vlRow a), .agg (vlRow b)] h fun r h' => r = .sc (.bool (Vl.same a b)) ∧ h' = h) (h : Heap) :
    PCall Tryz.prog 71 [.imm 3 (vlRows l), .imm 3 (vlRows m), .sc (.func (.func g) #[] #[])] h fun r h' => r = .sc (.bool (vlsEq l m)) ∧ h' = h := by
  unfold bigN at hl
  have hll := vlRows_len l
  have hlm := vlRows_len m
  refine PCall.quiet Ty.hb_71 ?_
  refine pcall_body (ow := fun _ => false) (wf := fun _ => false) Ty.mixed Tryz.func71 rfl Ty.hb_71 (by rw [Tryz.ntmps71]; simp) ?_
  rw [Tryz.ntmps71, Tryz.results71]
  cases hne : ((l.length : Int) != m.length) with
  | true =>
    have : vlsEq l m = false := vlsEq_len (by simp at hne; omega)
    repeat' (first | (refine a_seq (fun K hK => ?_)) | (refine a_block ?_) | ((first | refine a_regionS ?_ | refine a_region (fun K hK => ?_) | refine a_ret ?_); simp (maxSteps := 2000000) only [Ty.w, simprocAttr, hll, hlm, hne]) | ((first | refine a_skip ?_ | refine a_exit ?_); (try simp only [pst0, simprocAttr])) | (refine a_cond _ (by (try simp (maxSteps := 2000000) only [Ty.w, simprocAttr, hll, hlm, hne]); rfl) (fun hb => ?_) (fun hb => ?_) <;> (try simp only [hb0, decide_eq_true_eq, decide_eq_false_iff_not, simprocAttr] at hb) <;> (try (exfalso; omega))) | (with_reducible refine ite_in (fun hb => ?_) (fun hb => ?_) <;> (try simp only [Decidable.not_not] at hb) <;> (try simp only [hb, if_true, if_false, not_false_eq_true, not_true_eq_false, ↓reduceIte]) <;> (try simp only [hb0, decide_eq_true_eq, decide_eq_false_iff_not, simprocAttr] at hb) <;> (try (exfalso; omega))) | ((first | refine hK _ _ ?_ | (clear hK; refine hK _ _ ?_) | (clear hK; clear hK; refine hK _ _ ?_) | (clear hK; clear hK; clear hK; refine hK _ _ ?_)); clear hK; (try simp only [pst0, simprocAttr])) | (rw [if_pos]; rotate_left 1; omega; simp (maxSteps := 2000000) only [Ty.w, simprocAttr, hll, hlm, hne]))
    rw [this]
    exact ⟨rfl, Grow.refl _⟩
  | false =>
    have hlen : l.length = m.length := by simp at hne; omega
    repeat' (first | (refine a_seq (fun K hK => ?_)) | (refine a_block ?_) | ((first | refine a_regionS ?_ | refine a_region (fun K hK => ?_) | refine a_ret ?_); simp (maxSteps := 2000000) only [Ty.w, simprocAttr, hll, hlm, hne]) | ((first | refine a_skip ?_ | refine a_exit ?_); (try simp only [pst0, simprocAttr])) | (refine a_cond _ (by (try simp (maxSteps := 2000000) only [Ty.w, simprocAttr, hll, hlm, hne]); rfl) (fun hb => ?_) (fun hb => ?_) <;> (try simp only [hb0, decide_eq_true_eq, decide_eq_false_iff_not, simprocAttr] at hb) <;> (try (exfalso; omega))) | (with_reducible refine ite_in (fun hb => ?_) (fun hb => ?_) <;> (try simp only [Decidable.not_not] at hb) <;> (try simp only [hb, if_true, if_false, not_false_eq_true, not_true_eq_false, ↓reduceIte]) <;> (try simp only [hb0, decide_eq_true_eq, decide_eq_false_iff_not, simprocAttr] at hb) <;> (try (exfalso; omega))) | ((first | refine hK _ _ ?_ | (clear hK; refine hK _ _ ?_) | (clear hK; clear hK; refine hK _ _ ?_) | (clear hK; clear hK; clear hK; refine hK _ _ ?_)); clear hK; (try simp only [pst0, simprocAttr])) | (rw [if_pos]; rotate_left 1; omega; simp (maxSteps := 2000000) only [Ty.w, simprocAttr, hll, hlm, hne]))
    refine a_loop (fun c S h' => Grow h h' ∧ S 1 = .imm 3 (vlRows m) ∧ S 2 = .sc (.func (.func g) #[] #[]) ∧ S 15 = .imm 3 (vlRows l) ∧ S 16 = .sc (.int .i64 l.length) ∧ ∃ k : Nat, S 17 = .sc (.int .i64 k) ∧ k ≤ l.length ∧ c = l.length - k ∧ vlsEq l m = vlsEq (l.drop k) (m.drop k)) l.length ?_ ?_
    · simp only [Ty.w, simprocAttr]
      exact ⟨Grow.refl _, 0, rfl, by omega, rfl, by simp⟩
    · rintro c S h' ⟨hg, g1, g2, g15, g16, k, gk, hkl, rfl, hinv⟩
      by_cases hlt : k < l.length
      · have hd : decide ((k : Int) < (l.length : Int)) = true := by simp; omega
        have w7 : IntKind.i64.wrap ((k : Int) + 1) = k + 1 := by rw [wrap64 (by omega) (by omega)]
        obtain ⟨a, hx⟩ : ∃ a, l[k]? = some a := ⟨_, List.getElem?_eq_getElem hlt⟩
        obtain ⟨b, hy⟩ : ∃ b, m[k]? = some b := ⟨_, List.getElem?_eq_getElem (by omega)⟩
        have hc := hf a (List.mem_of_getElem? hx) b (List.mem_of_getElem? hy)
        rw [drop_of_get hx, drop_of_get hy] at hinv
        simp only [vlsEq] at hinv
        have hr := vlRows_get hx
        have hr2 := vlRows_get hy
        generalize he : Vl.same a b = e at hc hinv
        clear he hf
        obtain ⟨⟨name2, args2⟩, n2⟩ := a
        obtain ⟨⟨name3, args3⟩, n3⟩ := b
        simp only [vlRow] at hr hr2 hc
        repeat' (first | (refine a_seq (fun K hK => ?_)) | (refine a_block ?_) | ((first | refine a_regionS ?_ | refine a_drawS (by decide +kernel) ?_ | refine a_region (fun K hK => ?_) | refine a_draw (by decide +kernel) (fun K hK => ?_) | refine a_ret ?_); simp (maxSteps := 2000000) only [Ty.w, simprocAttr, g1, g2, g15, g16, gk, hll, hlm, hd, hr, hr2, w7, nsucc]) | ((first | refine a_skip ?_ | refine a_exit ?_); (try simp only [pst0, simprocAttr])) | (refine a_cond _ (by (try simp (maxSteps := 2000000) only [Ty.w, simprocAttr, g1, g2, g15, g16, gk, hll, hlm, hd, hr, hr2, w7, nsucc]); rfl) (fun hb => ?_) (fun hb => ?_) <;> (try simp only [hb0, decide_eq_true_eq, decide_eq_false_iff_not, simprocAttr] at hb) <;> (try (exfalso; omega))) | (with_reducible refine ite_in (fun hb => ?_) (fun hb => ?_) <;> (try simp only [Decidable.not_not] at hb) <;> (try simp only [hb, if_true, if_false, not_false_eq_true, not_true_eq_false, ↓reduceIte]) <;> (try simp only [hb0, decide_eq_true_eq, decide_eq_false_iff_not, simprocAttr] at hb) <;> (try (exfalso; omega))) | ((first | refine hK _ _ ?_ | (clear hK; refine hK _ _ ?_) | (clear hK; clear hK; refine hK _ _ ?_) | (clear hK; clear hK; clear hK; refine hK _ _ ?_)); clear hK; (try simp only [pst0, simprocAttr])) | ((first | with_reducible refine a_past _ rfl (by decide +kernel) ?_ | (with_reducible refine a_past2 (by simp only [List.forall_mem_cons, Ty.w, simprocAttr, g1, g2, g15, g16, gk, hll, hlm, hd, hr, hr2, w7, nsucc]; (repeat' apply And.intro) <;> first | trivial | exact .inl (by decide +kernel)) ?_)); try simp (maxSteps := 2000000) only [Ty.w, simprocAttr, g1, g2, g15, g16, gk, hll, hlm, hd, hr, hr2, w7, nsucc]) | (rw [if_pos]; rotate_left 1; omega; simp (maxSteps := 2000000) only [Ty.w, simprocAttr, g1, g2, g15, g16, gk, hll, hlm, hd, hr, hr2, w7, nsucc]))
        refine owp_useV (by simp only [Ty.w, simprocAttr, g2]) (hc _) (by simp only [Ty.w, simprocAttr, g1, g2, g15, g16, gk]; try rfl) ?_
        simp (maxSteps := 2000000) only [Ty.w, simprocAttr, Ty.all]
        cases e with
        | false =>
          repeat' (first | (refine a_seq (fun K hK => ?_)) | (refine a_block ?_) | ((first | refine a_regionS ?_ | refine a_drawS (by decide +kernel) ?_ | refine a_region (fun K hK => ?_) | refine a_draw (by decide +kernel) (fun K hK => ?_) | refine a_ret ?_); simp (maxSteps := 2000000) only [Ty.w, simprocAttr, g1, g2, g15, g16, gk, w7, Bool.not_false]) | ((first | refine a_skip ?_ | refine a_exit ?_); (try simp only [pst0, simprocAttr])) | (refine a_cond _ (by (try simp (maxSteps := 2000000) only [Ty.w, simprocAttr, g1, g2, g15, g16, gk, w7, Bool.not_false]); rfl) (fun hb => ?_) (fun hb => ?_) <;> (try simp only [hb0, decide_eq_true_eq, decide_eq_false_iff_not, simprocAttr] at hb) <;> (try (exfalso; omega))) | (with_reducible refine ite_in (fun hb => ?_) (fun hb => ?_) <;> (try simp only [Decidable.not_not] at hb) <;> (try simp only [hb, if_true, if_false, not_false_eq_true, not_true_eq_false, ↓reduceIte]) <;> (try simp only [hb0, decide_eq_true_eq, decide_eq_false_iff_not, simprocAttr] at hb) <;> (try (exfalso; omega))) | ((first | refine hK _ _ ?_ | (clear hK; refine hK _ _ ?_) | (clear hK; clear hK; refine hK _ _ ?_) | (clear hK; clear hK; clear hK; refine hK _ _ ?_)); clear hK; (try simp only [pst0, simprocAttr])) | ((first | with_reducible refine a_past _ rfl (by decide +kernel) ?_ | (with_reducible refine a_past2 (by simp only [List.forall_mem_cons, Ty.w, simprocAttr, g1, g2, g15, g16, gk, w7, Bool.not_false]; (repeat' apply And.intro) <;> first | trivial | exact .inl (by decide +kernel)) ?_)); try simp (maxSteps := 2000000) only [Ty.w, simprocAttr, g1, g2, g15, g16, gk, w7, Bool.not_false]) | (rw [if_pos]; rotate_left 1; omega; simp (maxSteps := 2000000) only [Ty.w, simprocAttr, g1, g2, g15, g16, gk, w7, Bool.not_false]))
          rw [hinv]
          exact ⟨rfl, (((hg.new _).set hg.le _).new _).set (Nat.le_succ_of_le hg.le) _⟩
        | true =>
          repeat' (first | (refine a_seq (fun K hK => ?_)) | (refine a_block ?_) | ((first | refine a_regionS ?_ | refine a_drawS (by decide +kernel) ?_ | refine a_region (fun K hK => ?_) | refine a_draw (by decide +kernel) (fun K hK => ?_) | refine a_ret ?_); simp (maxSteps := 2000000) only [Ty.w, simprocAttr, g1, g2, g15, g16, gk, w7, Bool.not_true]) | ((first | refine a_skip ?_ | refine a_exit ?_); (try simp only [pst0, simprocAttr])) | (refine a_cond _ (by (try simp (maxSteps := 2000000) only [Ty.w, simprocAttr, g1, g2, g15, g16, gk, w7, Bool.not_true]); rfl) (fun hb => ?_) (fun hb => ?_) <;> (try simp only [hb0, decide_eq_true_eq, decide_eq_false_iff_not, simprocAttr] at hb) <;> (try (exfalso; omega))) | (with_reducible refine ite_in (fun hb => ?_) (fun hb => ?_) <;> (try simp only [Decidable.not_not] at hb) <;> (try simp only [hb, if_true, if_false, not_false_eq_true, not_true_eq_false, ↓reduceIte]) <;> (try simp only [hb0, decide_eq_true_eq, decide_eq_false_iff_not, simprocAttr] at hb) <;> (try (exfalso; omega))) | ((first | refine hK _ _ ?_ | (clear hK; refine hK _ _ ?_) | (clear hK; clear hK; refine hK _ _ ?_) | (clear hK; clear hK; clear hK; refine hK _ _ ?_)); clear hK; (try simp only [pst0, simprocAttr])) | ((first | with_reducible refine a_past _ rfl (by decide +kernel) ?_ | (with_reducible refine a_past2 (by simp only [List.forall_mem_cons, Ty.w, simprocAttr, g1, g2, g15, g16, gk, w7, Bool.not_true]; (repeat' apply And.intro) <;> first | trivial | exact .inl (by decide +kernel)) ?_)); try simp (maxSteps := 2000000) only [Ty.w, simprocAttr, g1, g2, g15, g16, gk, w7, Bool.not_true]) | (rw [if_pos]; rotate_left 1; omega; simp (maxSteps := 2000000) only [Ty.w, simprocAttr, g1, g2, g15, g16, gk, w7, Bool.not_true]))
          rw [Bool.true_and] at hinv
          exact ⟨l.length - (k + 1), by omega, (((hg.new _).set hg.le _).new _).set (Nat.le_succ_of_le hg.le) _, k + 1, by simp, by omega, rfl, hinv⟩
      · have hd : decide ((k : Int) < (l.length : Int)) = false := by simp; omega
        rw [List.drop_eq_nil_of_le (by omega), List.drop_eq_nil_of_le (by omega)] at hinv
        simp only [vlsEq] at hinv
        repeat' (first | (refine a_seq (fun K hK => ?_)) | (refine a_block ?_) | ((first | refine a_regionS ?_ | refine a_region (fun K hK => ?_) | refine a_ret ?_); simp (maxSteps := 2000000) only [Ty.w, simprocAttr, g1, g2, g15, g16, gk, hll, hd]) | ((first | refine a_skip ?_ | refine a_exit ?_); (try simp only [pst0, simprocAttr])) | (refine a_cond _ (by (try simp (maxSteps := 2000000) only [Ty.w, simprocAttr, g1, g2, g15, g16, gk, hll, hd]); rfl) (fun hb => ?_) (fun hb => ?_) <;> (try simp only [hb0, decide_eq_true_eq, decide_eq_false_iff_not, simprocAttr] at hb) <;> (try (exfalso; omega))) | (with_reducible refine ite_in (fun hb => ?_) (fun hb => ?_) <;> (try simp only [Decidable.not_not] at hb) <;> (try simp only [hb, if_true, if_false, not_false_eq_true, not_true_eq_false, ↓reduceIte]) <;> (try simp only [hb0, decide_eq_true_eq, decide_eq_false_iff_not, simprocAttr] at hb) <;> (try (exfalso; omega))) | ((first | refine hK _ _ ?_ | (clear hK; refine hK _ _ ?_) | (clear hK; clear hK; refine hK _ _ ?_) | (clear hK; clear hK; clear hK; refine hK _ _ ?_)); clear hK; (try simp only [pst0, simprocAttr])) | (rw [if_pos]; rotate_left 1; omega; simp (maxSteps := 2000000) only [Ty.w, simprocAttr, g1, g2, g15, g16, gk, hll, hd]))
        rw [hinv]
        exact ⟨rfl, hg⟩
theorem cmpS_step {l m : List ByteArray} {k : Nat} {a b : ByteArray} (hx : l[k]? = some a) (hy : m[k]? = some b) : cmpS (l.drop k) (m.drop k) = bif Op.bytesLess a.data.toList b.data.toList then -1 else bif !(Op.bytesLess a.data.toList b.data.toList || (a.data.toList == b.data.toList)) then 1 else cmpS (l.drop (k + 1)) (m.drop (k + 1)) := by
  rw [drop_of_get hx, drop_of_get hy]; try rfl
theorem cmpS_end {l m : List ByteArray} {k : Nat} (h : ¬ k < l.length ∨ ¬ k < m.length) (hl : k ≤ l.length) (hm : k ≤ m.length) : cmpS (l.drop k) (m.drop k) = (l.length : Int) - m.length := by
  by_cases h1 : k < l.length
  · have h2 : k = m.length := by omega
    rw [show List.drop k m = [] from List.drop_eq_nil_of_le (by omega)]
    obtain ⟨a, hx⟩ : ∃ a, l[k]? = some a := ⟨_, List.getElem?_eq_getElem h1⟩
    have hlen : (l.drop k).length = l.length - k := List.length_drop
    rw [drop_of_get hx] at hlen ⊢
    simp only [cmpS]
    simp only [List.length_cons] at hlen ⊢
    omega
  · rw [show List.drop k l = [] from List.drop_eq_nil_of_le (by omega)]
    by_cases h2 : k < m.length
    · obtain ⟨b, hy⟩ : ∃ b, m[k]? = some b := ⟨_, List.getElem?_eq_getElem h2⟩
      have hlen : (m.drop k).length = m.length - k := List.length_drop
      rw [drop_of_get hy] at hlen ⊢
      simp only [cmpS]
      simp only [List.length_cons] at hlen ⊢
      omega
    · rw [show List.drop k m = [] from List.drop_eq_nil_of_le (by omega)]
      simp only [cmpS]
      omega
theorem rcmpA_c {a b : At} (ha : a.ok) (hb : b.ok) (h : Heap) : PCall Tryz.prog 124 [.agg (atRow a), .agg (atRow b)] h fun r h' => r = .sc (.int .i64 (cmpA a b)) ∧ h' = h := by
  obtain ⟨_, hal, _⟩ := ha
  obtain ⟨_, hbl, _⟩ := hb
  unfold bigN at hal hbl
  unfold cmpA bEq
  obtain ⟨name, args⟩ := a
  obtain ⟨name3, args3⟩ := b
  simp only [atRow] at hal hbl ⊢
  have hll := strRows_len args
  have hlm := strRows_len args3
  cases e0 : (name.data.toList == name3.data.toList) with
  | false =>
    cases e1 : Op.bytesLess name.data.toList name3.data.toList with
    | true =>
      refine pcall_body (ow := fun _ => false) (wf := fun _ => false) Ty.mixed Tryz.func124 rfl Ty.hb_124 (by rw [Tryz.ntmps124]; simp) ?_
      rw [Tryz.ntmps124, Tryz.results124]
      repeat' (first | (refine a_seq (fun K hK => ?_)) | (refine a_block ?_) | ((first | refine a_regionS ?_ | refine a_region (fun K hK => ?_) | refine a_ret ?_); simp (maxSteps := 2000000) only [Ty.w, simprocAttr, e0, e1, Bool.not_false]) | ((first | refine a_skip ?_ | refine a_exit ?_); (try simp only [pst0, simprocAttr])) | (refine a_cond _ (by (try simp (maxSteps := 2000000) only [Ty.w, simprocAttr, e0, e1, Bool.not_false]); rfl) (fun hb => ?_) (fun hb => ?_) <;> (try simp only [hb0, decide_eq_true_eq, decide_eq_false_iff_not, simprocAttr] at hb) <;> (try (exfalso; omega))) | (with_reducible refine ite_in (fun hb => ?_) (fun hb => ?_) <;> (try simp only [Decidable.not_not] at hb) <;> (try simp only [hb, if_true, if_false, not_false_eq_true, not_true_eq_false, ↓reduceIte]) <;> (try simp only [hb0, decide_eq_true_eq, decide_eq_false_iff_not, simprocAttr] at hb) <;> (try (exfalso; omega))) | ((first | refine hK _ _ ?_ | (clear hK; refine hK _ _ ?_) | (clear hK; clear hK; refine hK _ _ ?_) | (clear hK; clear hK; clear hK; refine hK _ _ ?_)); clear hK; (try simp only [pst0, simprocAttr])) | (rw [if_pos]; rotate_left 1; omega; simp (maxSteps := 2000000) only [Ty.w, simprocAttr, e0, e1, Bool.not_false]))
      all_goals rfl
    | false =>
      refine pcall_body (ow := fun _ => false) (wf := fun _ => false) Ty.mixed Tryz.func124 rfl Ty.hb_124 (by rw [Tryz.ntmps124]; simp) ?_
      rw [Tryz.ntmps124, Tryz.results124]
      repeat' (first | (refine a_seq (fun K hK => ?_)) | (refine a_block ?_) | ((first | refine a_regionS ?_ | refine a_region (fun K hK => ?_) | refine a_ret ?_); simp (maxSteps := 2000000) only [Ty.w, simprocAttr, e0, e1, Bool.not_false]) | ((first | refine a_skip ?_ | refine a_exit ?_); (try simp only [pst0, simprocAttr])) | (refine a_cond _ (by (try simp (maxSteps := 2000000) only [Ty.w, simprocAttr, e0, e1, Bool.not_false]); rfl) (fun hb => ?_) (fun hb => ?_) <;> (try simp only [hb0, decide_eq_true_eq, decide_eq_false_iff_not, simprocAttr] at hb) <;> (try (exfalso; omega))) | (with_reducible refine ite_in (fun hb => ?_) (fun hb => ?_) <;> (try simp only [Decidable.not_not] at hb) <;> (try simp only [hb, if_true, if_false, not_false_eq_true, not_true_eq_false, ↓reduceIte]) <;> (try simp only [hb0, decide_eq_true_eq, decide_eq_false_iff_not, simprocAttr] at hb) <;> (try (exfalso; omega))) | ((first | refine hK _ _ ?_ | (clear hK; refine hK _ _ ?_) | (clear hK; clear hK; refine hK _ _ ?_) | (clear hK; clear hK; clear hK; refine hK _ _ ?_)); clear hK; (try simp only [pst0, simprocAttr])) | (rw [if_pos]; rotate_left 1; omega; simp (maxSteps := 2000000) only [Ty.w, simprocAttr, e0, e1, Bool.not_false]))
      all_goals rfl
  | true =>
    simp only [cond_true]
    generalize hF : cmpS args args3 = F
    refine pcall_body (ow := fun _ => false) (wf := fun _ => false) Ty.mixed Tryz.func124 rfl Ty.hb_124 (by rw [Tryz.ntmps124]; simp) ?_
    rw [Tryz.ntmps124, Tryz.results124]
    repeat' (first | (refine a_seq (fun K hK => ?_)) | (refine a_block ?_) | ((first | refine a_regionS ?_ | refine a_region (fun K hK => ?_) | refine a_ret ?_); simp (maxSteps := 2000000) only [Ty.w, simprocAttr, e0, Bool.not_true]) | ((first | refine a_skip ?_ | refine a_exit ?_); (try simp only [pst0, simprocAttr])) | (refine a_cond _ (by (try simp (maxSteps := 2000000) only [Ty.w, simprocAttr, e0, Bool.not_true]); rfl) (fun hb => ?_) (fun hb => ?_) <;> (try simp only [hb0, decide_eq_true_eq, decide_eq_false_iff_not, simprocAttr] at hb) <;> (try (exfalso; omega))) | (with_reducible refine ite_in (fun hb => ?_) (fun hb => ?_) <;> (try simp only [Decidable.not_not] at hb) <;> (try simp only [hb, if_true, if_false, not_false_eq_true, not_true_eq_false, ↓reduceIte]) <;> (try simp only [hb0, decide_eq_true_eq, decide_eq_false_iff_not, simprocAttr] at hb) <;> (try (exfalso; omega))) | ((first | refine hK _ _ ?_ | (clear hK; refine hK _ _ ?_) | (clear hK; clear hK; refine hK _ _ ?_) | (clear hK; clear hK; clear hK; refine hK _ _ ?_)); clear hK; (try simp only [pst0, simprocAttr])) | (rw [if_pos]; rotate_left 1; omega; simp (maxSteps := 2000000) only [Ty.w, simprocAttr, e0, Bool.not_true]))
    refine a_loop (fun c S h' => h' = h ∧ S 2 = .cptr [sPV name, .imm 1 (strRows args)] ∧ S 3 = .cptr [sPV name3, .imm 1 (strRows args3)] ∧ ∃ k : Nat, S 5 = .sc (.int .i64 k) ∧ k ≤ args.length ∧ k ≤ args3.length ∧ c = args.length - k ∧ F = cmpS (args.drop k) (args3.drop k)) args.length ?_ ?_
    · simp only [Ty.w, simprocAttr]
      exact ⟨0, rfl, by omega, by omega, rfl, by rw [← hF]; try rfl⟩
    · clear hF
      rintro c S h' ⟨rfl, g2, g3, k, g5, hka, hkb, rfl, hinv⟩
      by_cases h1 : k < args.length
      · have hd : decide ((k : Int) < (args.length : Int)) = true := by simp; omega
        by_cases h2 : k < args3.length
        · have hd2 : decide ((k : Int) < (args3.length : Int)) = true := by simp; omega
          have w7 : IntKind.i64.wrap ((k : Int) + 1) = k + 1 := by rw [wrap64 (by omega) (by omega)]
          obtain ⟨a, hx⟩ : ∃ a, args[k]? = some a := ⟨_, List.getElem?_eq_getElem h1⟩
          obtain ⟨b, hy⟩ : ∃ b, args3[k]? = some b := ⟨_, List.getElem?_eq_getElem h2⟩
          have hr := strRows_get hx
          have hr2 := strRows_get hy
          rw [cmpS_step hx hy] at hinv
          cases c1 : Op.bytesLess a.data.toList b.data.toList with
          | true =>
            rw [c1] at hinv
            simp only [cond_true] at hinv
            repeat' (first | (refine a_seq (fun K hK => ?_)) | (refine a_block ?_) | ((first | refine a_regionS ?_ | refine a_drawS (by decide +kernel) ?_ | refine a_region (fun K hK => ?_) | refine a_draw (by decide +kernel) (fun K hK => ?_) | refine a_ret ?_); simp (maxSteps := 2000000) only [Ty.w, simprocAttr, g2, g3, g5, hll, hlm, hd, hd2, hr, hr2, c1]) | ((first | refine a_skip ?_ | refine a_exit ?_); (try simp only [pst0, simprocAttr])) | (refine a_cond _ (by (try simp (maxSteps := 2000000) only [Ty.w, simprocAttr, g2, g3, g5, hll, hlm, hd, hd2, hr, hr2, c1]); rfl) (fun hb => ?_) (fun hb => ?_) <;> (try simp only [hb0, decide_eq_true_eq, decide_eq_false_iff_not, simprocAttr] at hb) <;> (try (exfalso; omega))) | (with_reducible refine ite_in (fun hb => ?_) (fun hb => ?_) <;> (try simp only [Decidable.not_not] at hb) <;> (try simp only [hb, if_true, if_false, not_false_eq_true, not_true_eq_false, ↓reduceIte]) <;> (try simp only [hb0, decide_eq_true_eq, decide_eq_false_iff_not, simprocAttr] at hb) <;> (try (exfalso; omega))) | ((first | refine hK _ _ ?_ | (clear hK; refine hK _ _ ?_) | (clear hK; clear hK; refine hK _ _ ?_) | (clear hK; clear hK; clear hK; refine hK _ _ ?_)); clear hK; (try simp only [pst0, simprocAttr])) | ((first | with_reducible refine a_past _ rfl (by decide +kernel) ?_ | (with_reducible refine a_past2 (by simp only [List.forall_mem_cons, Ty.w, simprocAttr, g2, g3, g5, hll, hlm, hd, hd2, hr, hr2, c1]; (repeat' apply And.intro) <;> first | trivial | exact .inl (by decide +kernel)) ?_)); try simp (maxSteps := 2000000) only [Ty.w, simprocAttr, g2, g3, g5, hll, hlm, hd, hd2, hr, hr2, c1]) | (rw [if_pos]; rotate_left 1; omega; simp (maxSteps := 2000000) only [Ty.w, simprocAttr, g2, g3, g5, hll, hlm, hd, hd2, hr, hr2, c1]))
            all_goals rw [hinv]
          | false =>
            rw [c1] at hinv
            simp only [cond_false, Bool.false_or] at hinv
            cases c2 : (a.data.toList == b.data.toList) with
            | false =>
              rw [c2] at hinv
              simp only [Bool.not_false, cond_true] at hinv
              repeat' (first | (refine a_seq (fun K hK => ?_)) | (refine a_block ?_) | ((first | refine a_regionS ?_ | refine a_drawS (by decide +kernel) ?_ | refine a_region (fun K hK => ?_) | refine a_draw (by decide +kernel) (fun K hK => ?_) | refine a_ret ?_); simp (maxSteps := 2000000) only [Ty.w, simprocAttr, g2, g3, g5, hll, hlm, hd, hd2, hr, hr2, c1, c2, Bool.or_false, Bool.not_false]) | ((first | refine a_skip ?_ | refine a_exit ?_); (try simp only [pst0, simprocAttr])) | (refine a_cond _ (by (try simp (maxSteps := 2000000) only [Ty.w, simprocAttr, g2, g3, g5, hll, hlm, hd, hd2, hr, hr2, c1, c2, Bool.or_false, Bool.not_false]); rfl) (fun hb => ?_) (fun hb => ?_) <;> (try simp only [hb0, decide_eq_true_eq, decide_eq_false_iff_not, simprocAttr] at hb) <;> (try (exfalso; omega))) | (with_reducible refine ite_in (fun hb => ?_) (fun hb => ?_) <;> (try simp only [Decidable.not_not] at hb) <;> (try simp only [hb, if_true, if_false, not_false_eq_true, not_true_eq_false, ↓reduceIte]) <;> (try simp only [hb0, decide_eq_true_eq, decide_eq_false_iff_not, simprocAttr] at hb) <;> (try (exfalso; omega))) | ((first | refine hK _ _ ?_ | (clear hK; refine hK _ _ ?_) | (clear hK; clear hK; refine hK _ _ ?_) | (clear hK; clear hK; clear hK; refine hK _ _ ?_)); clear hK; (try simp only [pst0, simprocAttr])) | ((first | with_reducible refine a_past _ rfl (by decide +kernel) ?_ | (with_reducible refine a_past2 (by simp only [List.forall_mem_cons, Ty.w, simprocAttr, g2, g3, g5, hll, hlm, hd, hd2, hr, hr2, c1, c2, Bool.or_false, Bool.not_false]; (repeat' apply And.intro) <;> first | trivial | exact .inl (by decide +kernel)) ?_)); try simp (maxSteps := 2000000) only [Ty.w, simprocAttr, g2, g3, g5, hll, hlm, hd, hd2, hr, hr2, c1, c2, Bool.or_false, Bool.not_false]) | (rw [if_pos]; rotate_left 1; omega; simp (maxSteps := 2000000) only [Ty.w, simprocAttr, g2, g3, g5, hll, hlm, hd, hd2, hr, hr2, c1, c2, Bool.or_false, Bool.not_false]))
              all_goals rw [hinv]
            | true =>
              rw [c2] at hinv
              simp only [Bool.not_true, cond_false] at hinv
              repeat' (first | (refine a_seq (fun K hK => ?_)) | (refine a_block ?_) | ((first | refine a_regionS ?_ | refine a_drawS (by decide +kernel) ?_ | refine a_region (fun K hK => ?_) | refine a_draw (by decide +kernel) (fun K hK => ?_) | refine a_ret ?_); simp (maxSteps := 2000000) only [Ty.w, simprocAttr, g2, g3, g5, hll, hlm, hd, hd2, hr, hr2, c1, c2, Bool.or_true, Bool.not_true, w7]) | ((first | refine a_skip ?_ | refine a_exit ?_); (try simp only [pst0, simprocAttr])) | (refine a_cond _ (by (try simp (maxSteps := 2000000) only [Ty.w, simprocAttr, g2, g3, g5, hll, hlm, hd, hd2, hr, hr2, c1, c2, Bool.or_true, Bool.not_true, w7]); rfl) (fun hb => ?_) (fun hb => ?_) <;> (try simp only [hb0, decide_eq_true_eq, decide_eq_false_iff_not, simprocAttr] at hb) <;> (try (exfalso; omega))) | (with_reducible refine ite_in (fun hb => ?_) (fun hb => ?_) <;> (try simp only [Decidable.not_not] at hb) <;> (try simp only [hb, if_true, if_false, not_false_eq_true, not_true_eq_false, ↓reduceIte]) <;> (try simp only [hb0, decide_eq_true_eq, decide_eq_false_iff_not, simprocAttr] at hb) <;> (try (exfalso; omega))) | ((first | refine hK _ _ ?_ | (clear hK; refine hK _ _ ?_) | (clear hK; clear hK; refine hK _ _ ?_) | (clear hK; clear hK; clear hK; refine hK _ _ ?_)); clear hK; (try simp only [pst0, simprocAttr])) | ((first | with_reducible refine a_past _ rfl (by decide +kernel) ?_ | (with_reducible refine a_past2 (by simp only [List.forall_mem_cons, Ty.w, simprocAttr, g2, g3, g5, hll, hlm, hd, hd2, hr, hr2, c1, c2, Bool.or_true, Bool.not_true, w7]; (repeat' apply And.intro) <;> first | trivial | exact .inl (by decide +kernel)) ?_)); try simp (maxSteps := 2000000) only [Ty.w, simprocAttr, g2, g3, g5, hll, hlm, hd, hd2, hr, hr2, c1, c2, Bool.or_true, Bool.not_true, w7]) | (rw [if_pos]; rotate_left 1; omega; simp (maxSteps := 2000000) only [Ty.w, simprocAttr, g2, g3, g5, hll, hlm, hd, hd2, hr, hr2, c1, c2, Bool.or_true, Bool.not_true, w7]))
              exact ⟨args.length - (k + 1), by omega, k + 1, by simp, by omega, by omega, rfl, hinv⟩
        · have hd2 : decide ((k : Int) < (args3.length : Int)) = false := by simp; omega
          rw [cmpS_end (.inr h2) hka hkb] at hinv
          have wr : IntKind.i64.wrap ((args.length : Int) - (args3.length : Int)) = (args.length : Int) - args3.length := by rw [wrap64 (by omega) (by omega)]
          repeat' (first | (refine a_seq (fun K hK => ?_)) | (refine a_block ?_) | ((first | refine a_regionS ?_ | refine a_region (fun K hK => ?_) | refine a_ret ?_); simp (maxSteps := 2000000) only [Ty.w, simprocAttr, g2, g3, g5, hll, hlm, hd, hd2, wr]) | ((first | refine a_skip ?_ | refine a_exit ?_); (try simp only [pst0, simprocAttr])) | (refine a_cond _ (by (try simp (maxSteps := 2000000) only [Ty.w, simprocAttr, g2, g3, g5, hll, hlm, hd, hd2, wr]); rfl) (fun hb => ?_) (fun hb => ?_) <;> (try simp only [hb0, decide_eq_true_eq, decide_eq_false_iff_not, simprocAttr] at hb) <;> (try (exfalso; omega))) | (with_reducible refine ite_in (fun hb => ?_) (fun hb => ?_) <;> (try simp only [Decidable.not_not] at hb) <;> (try simp only [hb, if_true, if_false, not_false_eq_true, not_true_eq_false, ↓reduceIte]) <;> (try simp only [hb0, decide_eq_true_eq, decide_eq_false_iff_not, simprocAttr] at hb) <;> (try (exfalso; omega))) | ((first | refine hK _ _ ?_ | (clear hK; refine hK _ _ ?_) | (clear hK; clear hK; refine hK _ _ ?_) | (clear hK; clear hK; clear hK; refine hK _ _ ?_)); clear hK; (try simp only [pst0, simprocAttr])) | (rw [if_pos]; rotate_left 1; omega; simp (maxSteps := 2000000) only [Ty.w, simprocAttr, g2, g3, g5, hll, hlm, hd, hd2, wr]))
          all_goals rw [hinv]
      · have hd : decide ((k : Int) < (args.length : Int)) = false := by simp; omega
        rw [cmpS_end (.inl h1) hka hkb] at hinv
        have wr : IntKind.i64.wrap ((args.length : Int) - (args3.length : Int)) = (args.length : Int) - args3.length := by rw [wrap64 (by omega) (by omega)]
        repeat' (first | (refine a_seq (fun K hK => ?_)) | (refine a_block ?_) | ((first | refine a_regionS ?_ | refine a_region (fun K hK => ?_) | refine a_ret ?_); simp (maxSteps := 2000000) only [Ty.w, simprocAttr, g2, g3, g5, hll, hlm, hd, wr]) | ((first | refine a_skip ?_ | refine a_exit ?_); (try simp only [pst0, simprocAttr])) | (refine a_cond _ (by (try simp (maxSteps := 2000000) only [Ty.w, simprocAttr, g2, g3, g5, hll, hlm, hd, wr]); rfl) (fun hb => ?_) (fun hb => ?_) <;> (try simp only [hb0, decide_eq_true_eq, decide_eq_false_iff_not, simprocAttr] at hb) <;> (try (exfalso; omega))) | (with_reducible refine ite_in (fun hb => ?_) (fun hb => ?_) <;> (try simp only [Decidable.not_not] at hb) <;> (try simp only [hb, if_true, if_false, not_false_eq_true, not_true_eq_false, ↓reduceIte]) <;> (try simp only [hb0, decide_eq_true_eq, decide_eq_false_iff_not, simprocAttr] at hb) <;> (try (exfalso; omega))) | ((first | refine hK _ _ ?_ | (clear hK; refine hK _ _ ?_) | (clear hK; clear hK; refine hK _ _ ?_) | (clear hK; clear hK; clear hK; refine hK _ _ ?_)); clear hK; (try simp only [pst0, simprocAttr])) | (rw [if_pos]; rotate_left 1; omega; simp (maxSteps := 2000000) only [Ty.w, simprocAttr, g2, g3, g5, hll, hlm, hd, wr]))
        all_goals rw [hinv]
theorem rSameAtoms_c {l m : List At} (hl : l.length ≤ bigN) (ho : ∀ a ∈ l, a.ok) (ho2 : ∀ a ∈ m, a.ok) (h : Heap) :
    PCall Tryz.prog 66 [.imm 2 (atRows l), .imm 2 (atRows m)] h fun r h' => r = .sc (.bool (atsEq l m)) ∧ h' = h := by
  unfold bigN at hl
  have hll := atRows_len l
  have hlm := atRows_len m
  refine pcall_body (ow := fun _ => false) (wf := fun _ => false) Ty.mixed Tryz.func66 rfl Ty.hb_66 (by rw [Tryz.ntmps66]; simp) ?_
  rw [Tryz.ntmps66, Tryz.results66]
  cases hne : ((l.length : Int) != m.length) with
  | true =>
    have : atsEq l m = false := atsEq_len (by simp at hne; omega)
    repeat' (first | (refine a_seq (fun K hK => ?_)) | (refine a_block ?_) | ((first | refine a_regionS ?_ | refine a_region (fun K hK => ?_) | refine a_ret ?_); simp (maxSteps := 2000000) only [Ty.w, simprocAttr, hll, hlm, hne]) | ((first | refine a_skip ?_ | refine a_exit ?_); (try simp only [pst0, simprocAttr])) | (refine a_cond _ (by (try simp (maxSteps := 2000000) only [Ty.w, simprocAttr, hll, hlm, hne]); rfl) (fun hb => ?_) (fun hb => ?_) <;> (try simp only [hb0, decide_eq_true_eq, decide_eq_false_iff_not, simprocAttr] at hb) <;> (try (exfalso; omega))) | (with_reducible refine ite_in (fun hb => ?_) (fun hb => ?_) <;> (try simp only [Decidable.not_not] at hb) <;> (try simp only [hb, if_true, if_false, not_false_eq_true, not_true_eq_false, ↓reduceIte]) <;> (try simp only [hb0, decide_eq_true_eq, decide_eq_false_iff_not, simprocAttr] at hb) <;> (try (exfalso; omega))) | ((first | refine hK _ _ ?_ | (clear hK; refine hK _ _ ?_) | (clear hK; clear hK; refine hK _ _ ?_) | (clear hK; clear hK; clear hK; refine hK _ _ ?_)); clear hK; (try simp only [pst0, simprocAttr])) | (rw [if_pos]; rotate_left 1; omega; simp (maxSteps := 2000000) only [Ty.w, simprocAttr, hll, hlm, hne]))
    rw [this]
  | false =>
    have hlen : l.length = m.length := by simp at hne; omega
    repeat' (first | (refine a_seq (fun K hK => ?_)) | (refine a_block ?_) | ((first | refine a_regionS ?_ | refine a_region (fun K hK => ?_) | refine a_ret ?_); simp (maxSteps := 2000000) only [Ty.w, simprocAttr, hll, hlm, hne]) | ((first | refine a_skip ?_ | refine a_exit ?_); (try simp only [pst0, simprocAttr])) | (refine a_cond _ (by (try simp (maxSteps := 2000000) only [Ty.w, simprocAttr, hll, hlm, hne]); rfl) (fun hb => ?_) (fun hb => ?_) <;> (try simp only [hb0, decide_eq_true_eq, decide_eq_false_iff_not, simprocAttr] at hb) <;> (try (exfalso; omega))) | (with_reducible refine ite_in (fun hb => ?_) (fun hb => ?_) <;> (try simp only [Decidable.not_not] at hb) <;> (try simp only [hb, if_true, if_false, not_false_eq_true, not_true_eq_false, ↓reduceIte]) <;> (try simp only [hb0, decide_eq_true_eq, decide_eq_false_iff_not, simprocAttr] at hb) <;> (try (exfalso; omega))) | ((first | refine hK _ _ ?_ | (clear hK; refine hK _ _ ?_) | (clear hK; clear hK; refine hK _ _ ?_) | (clear hK; clear hK; clear hK; refine hK _ _ ?_)); clear hK; (try simp only [pst0, simprocAttr])) | (rw [if_pos]; rotate_left 1; omega; simp (maxSteps := 2000000) only [Ty.w, simprocAttr, hll, hlm, hne]))
    refine a_loop (fun c S h' => h' = h ∧ S 0 = .imm 2 (atRows l) ∧ S 1 = .imm 2 (atRows m) ∧ ∃ k : Nat, S 5 = .sc (.int .i64 k) ∧ k ≤ l.length ∧ c = l.length - k ∧ atsEq l m = atsEq (l.drop k) (m.drop k)) l.length ?_ ?_
    · simp only [Ty.w, simprocAttr]
      exact ⟨0, rfl, by omega, rfl, by simp⟩
    · rintro c S h' ⟨rfl, g0, g1, k, gk, hkl, rfl, hinv⟩
      by_cases hlt : k < l.length
      · have hd : decide ((k : Int) < (l.length : Int)) = true := by simp; omega
        have w7 : IntKind.i64.wrap ((k : Int) + 1) = k + 1 := by rw [wrap64 (by omega) (by omega)]
        obtain ⟨a, hx⟩ : ∃ a, l[k]? = some a := ⟨_, List.getElem?_eq_getElem hlt⟩
        obtain ⟨b, hy⟩ : ∃ b, m[k]? = some b := ⟨_, List.getElem?_eq_getElem (by omega)⟩
        rw [drop_of_get hx, drop_of_get hy] at hinv
        simp only [atsEq] at hinv
        have hr := atRows_get hx
        have hr2 := atRows_get hy
        have hc := rcmpA_c (ho a (List.mem_of_getElem? hx)) (ho2 b (List.mem_of_getElem? hy))
        have hz := cmpA_zero a b
        generalize cmpA a b = e at hc hz
        generalize At.same a b = q at hz hinv
        obtain ⟨name2, args2⟩ := a
        obtain ⟨name3, args3⟩ := b
        simp only [atRow] at hr hr2 hc
        cases q with
        | false =>
          have hz' : (e != 0) = true := by rw [bne, hz]; try rfl
          repeat' (first | (refine a_seq (fun K hK => ?_)) | (refine a_block ?_) | ((first | refine a_regionS ?_ | refine a_drawS (by decide +kernel) ?_ | refine a_region (fun K hK => ?_) | refine a_draw (by decide +kernel) (fun K hK => ?_) | refine a_ret ?_); simp (maxSteps := 2000000) only [Ty.w, simprocAttr, g0, g1, gk, hll, hlm, hd, hr, hr2, w7]) | ((first | refine a_skip ?_ | refine a_exit ?_); (try simp only [pst0, simprocAttr])) | (refine a_cond _ (by (try simp (maxSteps := 2000000) only [Ty.w, simprocAttr, g0, g1, gk, hll, hlm, hd, hr, hr2, w7]); rfl) (fun hb => ?_) (fun hb => ?_) <;> (try simp only [hb0, decide_eq_true_eq, decide_eq_false_iff_not, simprocAttr] at hb) <;> (try (exfalso; omega))) | (with_reducible refine ite_in (fun hb => ?_) (fun hb => ?_) <;> (try simp only [Decidable.not_not] at hb) <;> (try simp only [hb, if_true, if_false, not_false_eq_true, not_true_eq_false, ↓reduceIte]) <;> (try simp only [hb0, decide_eq_true_eq, decide_eq_false_iff_not, simprocAttr] at hb) <;> (try (exfalso; omega))) | ((first | refine hK _ _ ?_ | (clear hK; refine hK _ _ ?_) | (clear hK; clear hK; refine hK _ _ ?_) | (clear hK; clear hK; clear hK; refine hK _ _ ?_)); clear hK; (try simp only [pst0, simprocAttr])) | ((first | with_reducible refine a_past _ rfl (by decide +kernel) ?_ | (with_reducible refine a_past2 (by simp only [List.forall_mem_cons, Ty.w, simprocAttr, g0, g1, gk, hll, hlm, hd, hr, hr2, w7]; (repeat' apply And.intro) <;> first | trivial | exact .inl (by decide +kernel)) ?_)); try simp (maxSteps := 2000000) only [Ty.w, simprocAttr, g0, g1, gk, hll, hlm, hd, hr, hr2, w7]) | (rw [if_pos]; rotate_left 1; omega; simp (maxSteps := 2000000) only [Ty.w, simprocAttr, g0, g1, gk, hll, hlm, hd, hr, hr2, w7]))
          (first | refine a_dcall0 (hc _) (by (try simp only [Ty.w, simprocAttr, g0, g1, gk, hll, hlm, hd, hr, hr2, hz']); try rfl) ?_ | refine a_dcallA (hc _) (by (try simp only [Ty.w, simprocAttr, g0, g1, gk, hll, hlm, hd, hr, hr2, hz']); try rfl) (by simp only [Ty.w, simprocAttr, g0, g1, gk, hll, hlm, hd, hr, hr2, hz']; try trivial) ?_); simp (maxSteps := 2000000) only [Ty.w, simprocAttr, Option.getD_some, g0, g1, gk, hll, hlm, hd, hr, hr2, hz']
          repeat' (first | (refine a_seq (fun K hK => ?_)) | (refine a_block ?_) | ((first | refine a_regionS ?_ | refine a_drawS (by decide +kernel) ?_ | refine a_region (fun K hK => ?_) | refine a_draw (by decide +kernel) (fun K hK => ?_) | refine a_ret ?_); simp (maxSteps := 2000000) only [Ty.w, simprocAttr, g0, g1, gk, w7, hz']) | ((first | refine a_skip ?_ | refine a_exit ?_); (try simp only [pst0, simprocAttr])) | (refine a_cond _ (by (try simp (maxSteps := 2000000) only [Ty.w, simprocAttr, g0, g1, gk, w7, hz']); rfl) (fun hb => ?_) (fun hb => ?_) <;> (try simp only [hb0, decide_eq_true_eq, decide_eq_false_iff_not, simprocAttr] at hb) <;> (try (exfalso; omega))) | (with_reducible refine ite_in (fun hb => ?_) (fun hb => ?_) <;> (try simp only [Decidable.not_not] at hb) <;> (try simp only [hb, if_true, if_false, not_false_eq_true, not_true_eq_false, ↓reduceIte]) <;> (try simp only [hb0, decide_eq_true_eq, decide_eq_false_iff_not, simprocAttr] at hb) <;> (try (exfalso; omega))) | ((first | refine hK _ _ ?_ | (clear hK; refine hK _ _ ?_) | (clear hK; clear hK; refine hK _ _ ?_) | (clear hK; clear hK; clear hK; refine hK _ _ ?_)); clear hK; (try simp only [pst0, simprocAttr])) | ((first | with_reducible refine a_past _ rfl (by decide +kernel) ?_ | (with_reducible refine a_past2 (by simp only [List.forall_mem_cons, Ty.w, simprocAttr, g0, g1, gk, w7, hz']; (repeat' apply And.intro) <;> first | trivial | exact .inl (by decide +kernel)) ?_)); try simp (maxSteps := 2000000) only [Ty.w, simprocAttr, g0, g1, gk, w7, hz']) | (rw [if_pos]; rotate_left 1; omega; simp (maxSteps := 2000000) only [Ty.w, simprocAttr, g0, g1, gk, w7, hz']))
          all_goals rw [hinv, Bool.false_and]
        | true =>
          have hz' : (e != 0) = false := by rw [bne, hz]; try rfl
          rw [Bool.true_and] at hinv
          repeat' (first | (refine a_seq (fun K hK => ?_)) | (refine a_block ?_) | ((first | refine a_regionS ?_ | refine a_drawS (by decide +kernel) ?_ | refine a_region (fun K hK => ?_) | refine a_draw (by decide +kernel) (fun K hK => ?_) | refine a_ret ?_); simp (maxSteps := 2000000) only [Ty.w, simprocAttr, g0, g1, gk, hll, hlm, hd, hr, hr2, w7]) | ((first | refine a_skip ?_ | refine a_exit ?_); (try simp only [pst0, simprocAttr])) | (refine a_cond _ (by (try simp (maxSteps := 2000000) only [Ty.w, simprocAttr, g0, g1, gk, hll, hlm, hd, hr, hr2, w7]); rfl) (fun hb => ?_) (fun hb => ?_) <;> (try simp only [hb0, decide_eq_true_eq, decide_eq_false_iff_not, simprocAttr] at hb) <;> (try (exfalso; omega))) | (with_reducible refine ite_in (fun hb => ?_) (fun hb => ?_) <;> (try simp only [Decidable.not_not] at hb) <;> (try simp only [hb, if_true, if_false, not_false_eq_true, not_true_eq_false, ↓reduceIte]) <;> (try simp only [hb0, decide_eq_true_eq, decide_eq_false_iff_not, simprocAttr] at hb) <;> (try (exfalso; omega))) | ((first | refine hK _ _ ?_ | (clear hK; refine hK _ _ ?_) | (clear hK; clear hK; refine hK _ _ ?_) | (clear hK; clear hK; clear hK; refine hK _ _ ?_)); clear hK; (try simp only [pst0, simprocAttr])) | ((first | with_reducible refine a_past _ rfl (by decide +kernel) ?_ | (with_reducible refine a_past2 (by simp only [List.forall_mem_cons, Ty.w, simprocAttr, g0, g1, gk, hll, hlm, hd, hr, hr2, w7]; (repeat' apply And.intro) <;> first | trivial | exact .inl (by decide +kernel)) ?_)); try simp (maxSteps := 2000000) only [Ty.w, simprocAttr, g0, g1, gk, hll, hlm, hd, hr, hr2, w7]) | (rw [if_pos]; rotate_left 1; omega; simp (maxSteps := 2000000) only [Ty.w, simprocAttr, g0, g1, gk, hll, hlm, hd, hr, hr2, w7]))
          (first | refine a_dcall0 (hc _) (by (try simp only [Ty.w, simprocAttr, g0, g1, gk, hll, hlm, hd, hr, hr2, hz']); try rfl) ?_ | refine a_dcallA (hc _) (by (try simp only [Ty.w, simprocAttr, g0, g1, gk, hll, hlm, hd, hr, hr2, hz']); try rfl) (by simp only [Ty.w, simprocAttr, g0, g1, gk, hll, hlm, hd, hr, hr2, hz']; try trivial) ?_); simp (maxSteps := 2000000) only [Ty.w, simprocAttr, Option.getD_some, g0, g1, gk, hll, hlm, hd, hr, hr2, hz']
          repeat' (first | (refine a_seq (fun K hK => ?_)) | (refine a_block ?_) | ((first | refine a_regionS ?_ | refine a_drawS (by decide +kernel) ?_ | refine a_region (fun K hK => ?_) | refine a_draw (by decide +kernel) (fun K hK => ?_) | refine a_ret ?_); simp (maxSteps := 2000000) only [Ty.w, simprocAttr, g0, g1, gk, w7, hz']) | ((first | refine a_skip ?_ | refine a_exit ?_); (try simp only [pst0, simprocAttr])) | (refine a_cond _ (by (try simp (maxSteps := 2000000) only [Ty.w, simprocAttr, g0, g1, gk, w7, hz']); rfl) (fun hb => ?_) (fun hb => ?_) <;> (try simp only [hb0, decide_eq_true_eq, decide_eq_false_iff_not, simprocAttr] at hb) <;> (try (exfalso; omega))) | (with_reducible refine ite_in (fun hb => ?_) (fun hb => ?_) <;> (try simp only [Decidable.not_not] at hb) <;> (try simp only [hb, if_true, if_false, not_false_eq_true, not_true_eq_false, ↓reduceIte]) <;> (try simp only [hb0, decide_eq_true_eq, decide_eq_false_iff_not, simprocAttr] at hb) <;> (try (exfalso; omega))) | ((first | refine hK _ _ ?_ | (clear hK; refine hK _ _ ?_) | (clear hK; clear hK; refine hK _ _ ?_) | (clear hK; clear hK; clear hK; refine hK _ _ ?_)); clear hK; (try simp only [pst0, simprocAttr])) | ((first | with_reducible refine a_past _ rfl (by decide +kernel) ?_ | (with_reducible refine a_past2 (by simp only [List.forall_mem_cons, Ty.w, simprocAttr, g0, g1, gk, w7, hz']; (repeat' apply And.intro) <;> first | trivial | exact .inl (by decide +kernel)) ?_)); try simp (maxSteps := 2000000) only [Ty.w, simprocAttr, g0, g1, gk, w7, hz']) | (rw [if_pos]; rotate_left 1; omega; simp (maxSteps := 2000000) only [Ty.w, simprocAttr, g0, g1, gk, w7, hz']))
          exact ⟨l.length - (k + 1), by omega, k + 1, by simp, by omega, rfl, hinv⟩
      · have hd : decide ((k : Int) < (l.length : Int)) = false := by simp; omega
        rw [List.drop_eq_nil_of_le (by omega), List.drop_eq_nil_of_le (by omega)] at hinv
        simp only [atsEq] at hinv
        repeat' (first | (refine a_seq (fun K hK => ?_)) | (refine a_block ?_) | ((first | refine a_regionS ?_ | refine a_region (fun K hK => ?_) | refine a_ret ?_); simp (maxSteps := 2000000) only [Ty.w, simprocAttr, g0, g1, gk, hll, hd]) | ((first | refine a_skip ?_ | refine a_exit ?_); (try simp only [pst0, simprocAttr])) | (refine a_cond _ (by (try simp (maxSteps := 2000000) only [Ty.w, simprocAttr, g0, g1, gk, hll, hd]); rfl) (fun hb => ?_) (fun hb => ?_) <;> (try simp only [hb0, decide_eq_true_eq, decide_eq_false_iff_not, simprocAttr] at hb) <;> (try (exfalso; omega))) | (with_reducible refine ite_in (fun hb => ?_) (fun hb => ?_) <;> (try simp only [Decidable.not_not] at hb) <;> (try simp only [hb, if_true, if_false, not_false_eq_true, not_true_eq_false, ↓reduceIte]) <;> (try simp only [hb0, decide_eq_true_eq, decide_eq_false_iff_not, simprocAttr] at hb) <;> (try (exfalso; omega))) | ((first | refine hK _ _ ?_ | (clear hK; refine hK _ _ ?_) | (clear hK; clear hK; refine hK _ _ ?_) | (clear hK; clear hK; clear hK; refine hK _ _ ?_)); clear hK; (try simp only [pst0, simprocAttr])) | (rw [if_pos]; rotate_left 1; omega; simp (maxSteps := 2000000) only [Ty.w, simprocAttr, g0, g1, gk, hll, hd]))
        rw [hinv]
theorem rSameValues_c {l m : List Vl} (hl : l.length ≤ bigN) (ho : ∀ a ∈ l, a.okS) (ho2 : ∀ a ∈ m, a.okS) (h : Heap) :
    PCall Tryz.prog 67 [.imm 3 (vlRows l), .imm 3 (vlRows m)] h fun r h' => r = .sc (.bool (vlsEq l m)) ∧ h' = h := by
  unfold bigN at hl
  have hll := vlRows_len l
  have hlm := vlRows_len m
  refine pcall_body (ow := fun _ => false) (wf := fun _ => false) Ty.mixed Tryz.func67 rfl Ty.hb_67 (by rw [Tryz.ntmps67]; simp) ?_
  rw [Tryz.ntmps67, Tryz.results67]
  cases hne : ((l.length : Int) != m.length) with
  | true =>
    have : vlsEq l m = false := vlsEq_len (by simp at hne; omega)
    repeat' (first | (refine a_seq (fun K hK => ?_)) | (refine a_block ?_) | ((first | refine a_regionS ?_ | refine a_region (fun K hK => ?_) | refine a_ret ?_); simp (maxSteps := 2000000) only [Ty.w, simprocAttr, hll, hlm, hne]) | ((first | refine a_skip ?_ | refine a_exit ?_); (try simp only [pst0, simprocAttr])) | (refine a_cond _ (by (try simp (maxSteps := 2000000) only [Ty.w, simprocAttr, hll, hlm, hne]); rfl) (fun hb => ?_) (fun hb => ?_) <;> (try simp only [hb0, decide_eq_true_eq, decide_eq_false_iff_not, simprocAttr] at hb) <;> (try (exfalso; omega))) | (with_reducible refine ite_in (fun hb => ?_) (fun hb => ?_) <;> (try simp only [Decidable.not_not] at hb) <;> (try simp only [hb, if_true, if_false, not_false_eq_true, not_true_eq_false, ↓reduceIte]) <;> (try simp only [hb0, decide_eq_true_eq, decide_eq_false_iff_not, simprocAttr] at hb) <;> (try (exfalso; omega))) | ((first | refine hK _ _ ?_ | (clear hK; refine hK _ _ ?_) | (clear hK; clear hK; refine hK _ _ ?_) | (clear hK; clear hK; clear hK; refine hK _ _ ?_)); clear hK; (try simp only [pst0, simprocAttr])) | (rw [if_pos]; rotate_left 1; omega; simp (maxSteps := 2000000) only [Ty.w, simprocAttr, hll, hlm, hne]))
    rw [this]
  | false =>
    have hlen : l.length = m.length := by simp at hne; omega
    repeat' (first | (refine a_seq (fun K hK => ?_)) | (refine a_block ?_) | ((first | refine a_regionS ?_ | refine a_region (fun K hK => ?_) | refine a_ret ?_); simp (maxSteps := 2000000) only [Ty.w, simprocAttr, hll, hlm, hne]) | ((first | refine a_skip ?_ | refine a_exit ?_); (try simp only [pst0, simprocAttr])) | (refine a_cond _ (by (try simp (maxSteps := 2000000) only [Ty.w, simprocAttr, hll, hlm, hne]); rfl) (fun hb => ?_) (fun hb => ?_) <;> (try simp only [hb0, decide_eq_true_eq, decide_eq_false_iff_not, simprocAttr] at hb) <;> (try (exfalso; omega))) | (with_reducible refine ite_in (fun hb => ?_) (fun hb => ?_) <;> (try simp only [Decidable.not_not] at hb) <;> (try simp only [hb, if_true, if_false, not_false_eq_true, not_true_eq_false, ↓reduceIte]) <;> (try simp only [hb0, decide_eq_true_eq, decide_eq_false_iff_not, simprocAttr] at hb) <;> (try (exfalso; omega))) | ((first | refine hK _ _ ?_ | (clear hK; refine hK _ _ ?_) | (clear hK; clear hK; refine hK _ _ ?_) | (clear hK; clear hK; clear hK; refine hK _ _ ?_)); clear hK; (try simp only [pst0, simprocAttr])) | (rw [if_pos]; rotate_left 1; omega; simp (maxSteps := 2000000) only [Ty.w, simprocAttr, hll, hlm, hne]))
    refine a_loop (fun c S h' => h' = h ∧ S 0 = .imm 3 (vlRows l) ∧ S 1 = .imm 3 (vlRows m) ∧ ∃ k : Nat, S 5 = .sc (.int .i64 k) ∧ k ≤ l.length ∧ c = l.length - k ∧ vlsEq l m = vlsEq (l.drop k) (m.drop k)) l.length ?_ ?_
    · simp only [Ty.w, simprocAttr]
      exact ⟨0, rfl, by omega, rfl, by simp⟩
    · rintro c S h' ⟨rfl, g0, g1, k, gk, hkl, rfl, hinv⟩
      by_cases hlt : k < l.length
      · have hd : decide ((k : Int) < (l.length : Int)) = true := by simp; omega
        have w7 : IntKind.i64.wrap ((k : Int) + 1) = k + 1 := by rw [wrap64 (by omega) (by omega)]
        obtain ⟨a, hx⟩ : ∃ a, l[k]? = some a := ⟨_, List.getElem?_eq_getElem hlt⟩
        obtain ⟨b, hy⟩ : ∃ b, m[k]? = some b := ⟨_, List.getElem?_eq_getElem (by omega)⟩
        rw [drop_of_get hx, drop_of_get hy] at hinv
        simp only [vlsEq] at hinv
        have hr := vlRows_get hx
        have hr2 := vlRows_get hy
        have hc := rcmpA_c (ho a (List.mem_of_getElem? hx)) (ho2 b (List.mem_of_getElem? hy))
        have hz := cmpA_zero a.at_ b.at_
        unfold Vl.same at hinv
        generalize cmpA a.at_ b.at_ = e at hc hz
        generalize At.same a.at_ b.at_ = q at hz hinv
        obtain ⟨⟨name2, args2⟩, n2⟩ := a
        obtain ⟨⟨name3, args3⟩, n3⟩ := b
        simp only [atRow, vlRow] at hr hr2 hc
        simp only at hinv
        cases hn : (n2 != n3) with
        | true =>
          rw [show (n2 == n3) = false by simpa using hn, Bool.false_and, Bool.false_and] at hinv
          repeat' (first | (refine a_seq (fun K hK => ?_)) | (refine a_block ?_) | ((first | refine a_regionS ?_ | refine a_drawS (by decide +kernel) ?_ | refine a_region (fun K hK => ?_) | refine a_draw (by decide +kernel) (fun K hK => ?_) | refine a_ret ?_); simp (maxSteps := 2000000) only [Ty.w, simprocAttr, g0, g1, gk, hll, hlm, hd, hr, hr2, w7, hn]) | ((first | refine a_skip ?_ | refine a_exit ?_); (try simp only [pst0, simprocAttr])) | (refine a_cond _ (by (try simp (maxSteps := 2000000) only [Ty.w, simprocAttr, g0, g1, gk, hll, hlm, hd, hr, hr2, w7, hn]); rfl) (fun hb => ?_) (fun hb => ?_) <;> (try simp only [hb0, decide_eq_true_eq, decide_eq_false_iff_not, simprocAttr] at hb) <;> (try (exfalso; omega))) | (with_reducible refine ite_in (fun hb => ?_) (fun hb => ?_) <;> (try simp only [Decidable.not_not] at hb) <;> (try simp only [hb, if_true, if_false, not_false_eq_true, not_true_eq_false, ↓reduceIte]) <;> (try simp only [hb0, decide_eq_true_eq, decide_eq_false_iff_not, simprocAttr] at hb) <;> (try (exfalso; omega))) | ((first | refine hK _ _ ?_ | (clear hK; refine hK _ _ ?_) | (clear hK; clear hK; refine hK _ _ ?_) | (clear hK; clear hK; clear hK; refine hK _ _ ?_)); clear hK; (try simp only [pst0, simprocAttr])) | ((first | with_reducible refine a_past _ rfl (by decide +kernel) ?_ | (with_reducible refine a_past2 (by simp only [List.forall_mem_cons, Ty.w, simprocAttr, g0, g1, gk, hll, hlm, hd, hr, hr2, w7, hn]; (repeat' apply And.intro) <;> first | trivial | exact .inl (by decide +kernel)) ?_)); try simp (maxSteps := 2000000) only [Ty.w, simprocAttr, g0, g1, gk, hll, hlm, hd, hr, hr2, w7, hn]) | (rw [if_pos]; rotate_left 1; omega; simp (maxSteps := 2000000) only [Ty.w, simprocAttr, g0, g1, gk, hll, hlm, hd, hr, hr2, w7, hn]))
          all_goals rw [hinv]
        | false =>
          rw [show (n2 == n3) = true by simpa using hn, Bool.true_and] at hinv
          cases q with
          | false =>
            have hz' : (e != 0) = true := by rw [bne, hz]; try rfl
            repeat' (first | (refine a_seq (fun K hK => ?_)) | (refine a_block ?_) | ((first | refine a_regionS ?_ | refine a_drawS (by decide +kernel) ?_ | refine a_region (fun K hK => ?_) | refine a_draw (by decide +kernel) (fun K hK => ?_) | refine a_ret ?_); simp (maxSteps := 2000000) only [Ty.w, simprocAttr, g0, g1, gk, hll, hlm, hd, hr, hr2, w7, hn]) | ((first | refine a_skip ?_ | refine a_exit ?_); (try simp only [pst0, simprocAttr])) | (refine a_cond _ (by (try simp (maxSteps := 2000000) only [Ty.w, simprocAttr, g0, g1, gk, hll, hlm, hd, hr, hr2, w7, hn]); rfl) (fun hb => ?_) (fun hb => ?_) <;> (try simp only [hb0, decide_eq_true_eq, decide_eq_false_iff_not, simprocAttr] at hb) <;> (try (exfalso; omega))) | (with_reducible refine ite_in (fun hb => ?_) (fun hb => ?_) <;> (try simp only [Decidable.not_not] at hb) <;> (try simp only [hb, if_true, if_false, not_false_eq_true, not_true_eq_false, ↓reduceIte]) <;> (try simp only [hb0, decide_eq_true_eq, decide_eq_false_iff_not, simprocAttr] at hb) <;> (try (exfalso; omega))) | ((first | refine hK _ _ ?_ | (clear hK; refine hK _ _ ?_) | (clear hK; clear hK; refine hK _ _ ?_) | (clear hK; clear hK; clear hK; refine hK _ _ ?_)); clear hK; (try simp only [pst0, simprocAttr])) | ((first | with_reducible refine a_past _ rfl (by decide +kernel) ?_ | (with_reducible refine a_past2 (by simp only [List.forall_mem_cons, Ty.w, simprocAttr, g0, g1, gk, hll, hlm, hd, hr, hr2, w7, hn]; (repeat' apply And.intro) <;> first | trivial | exact .inl (by decide +kernel)) ?_)); try simp (maxSteps := 2000000) only [Ty.w, simprocAttr, g0, g1, gk, hll, hlm, hd, hr, hr2, w7, hn]) | (rw [if_pos]; rotate_left 1; omega; simp (maxSteps := 2000000) only [Ty.w, simprocAttr, g0, g1, gk, hll, hlm, hd, hr, hr2, w7, hn]))
            (first | refine a_dcall0 (hc _) (by (try simp only [Ty.w, simprocAttr, g0, g1, gk, hll, hlm, hd, hr, hr2, hn, hz']); try rfl) ?_ | refine a_dcallA (hc _) (by (try simp only [Ty.w, simprocAttr, g0, g1, gk, hll, hlm, hd, hr, hr2, hn, hz']); try rfl) (by simp only [Ty.w, simprocAttr, g0, g1, gk, hll, hlm, hd, hr, hr2, hn, hz']; try trivial) ?_); simp (maxSteps := 2000000) only [Ty.w, simprocAttr, Option.getD_some, g0, g1, gk, hll, hlm, hd, hr, hr2, hn, hz']
            repeat' (first | (refine a_seq (fun K hK => ?_)) | (refine a_block ?_) | ((first | refine a_regionS ?_ | refine a_drawS (by decide +kernel) ?_ | refine a_region (fun K hK => ?_) | refine a_draw (by decide +kernel) (fun K hK => ?_) | refine a_ret ?_); simp (maxSteps := 2000000) only [Ty.w, simprocAttr, g0, g1, gk, w7, hn, hz']) | ((first | refine a_skip ?_ | refine a_exit ?_); (try simp only [pst0, simprocAttr])) | (refine a_cond _ (by (try simp (maxSteps := 2000000) only [Ty.w, simprocAttr, g0, g1, gk, w7, hn, hz']); rfl) (fun hb => ?_) (fun hb => ?_) <;> (try simp only [hb0, decide_eq_true_eq, decide_eq_false_iff_not, simprocAttr] at hb) <;> (try (exfalso; omega))) | (with_reducible refine ite_in (fun hb => ?_) (fun hb => ?_) <;> (try simp only [Decidable.not_not] at hb) <;> (try simp only [hb, if_true, if_false, not_false_eq_true, not_true_eq_false, ↓reduceIte]) <;> (try simp only [hb0, decide_eq_true_eq, decide_eq_false_iff_not, simprocAttr] at hb) <;> (try (exfalso; omega))) | ((first | refine hK _ _ ?_ | (clear hK; refine hK _ _ ?_) | (clear hK; clear hK; refine hK _ _ ?_) | (clear hK; clear hK; clear hK; refine hK _ _ ?_)); clear hK; (try simp only [pst0, simprocAttr])) | ((first | with_reducible refine a_past _ rfl (by decide +kernel) ?_ | (with_reducible refine a_past2 (by simp only [List.forall_mem_cons, Ty.w, simprocAttr, g0, g1, gk, w7, hn, hz']; (repeat' apply And.intro) <;> first | trivial | exact .inl (by decide +kernel)) ?_)); try simp (maxSteps := 2000000) only [Ty.w, simprocAttr, g0, g1, gk, w7, hn, hz']) | (rw [if_pos]; rotate_left 1; omega; simp (maxSteps := 2000000) only [Ty.w, simprocAttr, g0, g1, gk, w7, hn, hz']))
            all_goals rw [hinv, Bool.false_and]
          | true =>
            have hz' : (e != 0) = false := by rw [bne, hz]; try rfl
            rw [Bool.true_and] at hinv
            repeat' (first | (refine a_seq (fun K hK => ?_)) | (refine a_block ?_) | ((first | refine a_regionS ?_ | refine a_drawS (by decide +kernel) ?_ | refine a_region (fun K hK => ?_) | refine a_draw (by decide +kernel) (fun K hK => ?_) | refine a_ret ?_); simp (maxSteps := 2000000) only [Ty.w, simprocAttr, g0, g1, gk, hll, hlm, hd, hr, hr2, w7, hn]) | ((first | refine a_skip ?_ | refine a_exit ?_); (try simp only [pst0, simprocAttr])) | (refine a_cond _ (by (try simp (maxSteps := 2000000) only [Ty.w, simprocAttr, g0, g1, gk, hll, hlm, hd, hr, hr2, w7, hn]); rfl) (fun hb => ?_) (fun hb => ?_) <;> (try simp only [hb0, decide_eq_true_eq, decide_eq_false_iff_not, simprocAttr] at hb) <;> (try (exfalso; omega))) | (with_reducible refine ite_in (fun hb => ?_) (fun hb => ?_) <;> (try simp only [Decidable.not_not] at hb) <;> (try simp only [hb, if_true, if_false, not_false_eq_true, not_true_eq_false, ↓reduceIte]) <;> (try simp only [hb0, decide_eq_true_eq, decide_eq_false_iff_not, simprocAttr] at hb) <;> (try (exfalso; omega))) | ((first | refine hK _ _ ?_ | (clear hK; refine hK _ _ ?_) | (clear hK; clear hK; refine hK _ _ ?_) | (clear hK; clear hK; clear hK; refine hK _ _ ?_)); clear hK; (try simp only [pst0, simprocAttr])) | ((first | with_reducible refine a_past _ rfl (by decide +kernel) ?_ | (with_reducible refine a_past2 (by simp only [List.forall_mem_cons, Ty.w, simprocAttr, g0, g1, gk, hll, hlm, hd, hr, hr2, w7, hn]; (repeat' apply And.intro) <;> first | trivial | exact .inl (by decide +kernel)) ?_)); try simp (maxSteps := 2000000) only [Ty.w, simprocAttr, g0, g1, gk, hll, hlm, hd, hr, hr2, w7, hn]) | (rw [if_pos]; rotate_left 1; omega; simp (maxSteps := 2000000) only [Ty.w, simprocAttr, g0, g1, gk, hll, hlm, hd, hr, hr2, w7, hn]))
            (first | refine a_dcall0 (hc _) (by (try simp only [Ty.w, simprocAttr, g0, g1, gk, hll, hlm, hd, hr, hr2, hn, hz']); try rfl) ?_ | refine a_dcallA (hc _) (by (try simp only [Ty.w, simprocAttr, g0, g1, gk, hll, hlm, hd, hr, hr2, hn, hz']); try rfl) (by simp only [Ty.w, simprocAttr, g0, g1, gk, hll, hlm, hd, hr, hr2, hn, hz']; try trivial) ?_); simp (maxSteps := 2000000) only [Ty.w, simprocAttr, Option.getD_some, g0, g1, gk, hll, hlm, hd, hr, hr2, hn, hz']
            repeat' (first | (refine a_seq (fun K hK => ?_)) | (refine a_block ?_) | ((first | refine a_regionS ?_ | refine a_drawS (by decide +kernel) ?_ | refine a_region (fun K hK => ?_) | refine a_draw (by decide +kernel) (fun K hK => ?_) | refine a_ret ?_); simp (maxSteps := 2000000) only [Ty.w, simprocAttr, g0, g1, gk, w7, hn, hz']) | ((first | refine a_skip ?_ | refine a_exit ?_); (try simp only [pst0, simprocAttr])) | (refine a_cond _ (by (try simp (maxSteps := 2000000) only [Ty.w, simprocAttr, g0, g1, gk, w7, hn, hz']); rfl) (fun hb => ?_) (fun hb => ?_) <;> (try simp only [hb0, decide_eq_true_eq, decide_eq_false_iff_not, simprocAttr] at hb) <;> (try (exfalso; omega))) | (with_reducible refine ite_in (fun hb => ?_) (fun hb => ?_) <;> (try simp only [Decidable.not_not] at hb) <;> (try simp only [hb, if_true, if_false, not_false_eq_true, not_true_eq_false, ↓reduceIte]) <;> (try simp only [hb0, decide_eq_true_eq, decide_eq_false_iff_not, simprocAttr] at hb) <;> (try (exfalso; omega))) | ((first | refine hK _ _ ?_ | (clear hK; refine hK _ _ ?_) | (clear hK; clear hK; refine hK _ _ ?_) | (clear hK; clear hK; clear hK; refine hK _ _ ?_)); clear hK; (try simp only [pst0, simprocAttr])) | ((first | with_reducible refine a_past _ rfl (by decide +kernel) ?_ | (with_reducible refine a_past2 (by simp only [List.forall_mem_cons, Ty.w, simprocAttr, g0, g1, gk, w7, hn, hz']; (repeat' apply And.intro) <;> first | trivial | exact .inl (by decide +kernel)) ?_)); try simp (maxSteps := 2000000) only [Ty.w, simprocAttr, g0, g1, gk, w7, hn, hz']) | (rw [if_pos]; rotate_left 1; omega; simp (maxSteps := 2000000) only [Ty.w, simprocAttr, g0, g1, gk, w7, hn, hz']))
            exact ⟨l.length - (k + 1), by omega, k + 1, by simp, by omega, rfl, hinv⟩
      · have hd : decide ((k : Int) < (l.length : Int)) = false := by simp; omega
        rw [List.drop_eq_nil_of_le (by omega), List.drop_eq_nil_of_le (by omega)] at hinv
        simp only [vlsEq] at hinv
        repeat' (first | (refine a_seq (fun K hK => ?_)) | (refine a_block ?_) | ((first | refine a_regionS ?_ | refine a_region (fun K hK => ?_) | refine a_ret ?_); simp (maxSteps := 2000000) only [Ty.w, simprocAttr, g0, g1, gk, hll, hd]) | ((first | refine a_skip ?_ | refine a_exit ?_); (try simp only [pst0, simprocAttr])) | (refine a_cond _ (by (try simp (maxSteps := 2000000) only [Ty.w, simprocAttr, g0, g1, gk, hll, hd]); rfl) (fun hb => ?_) (fun hb => ?_) <;> (try simp only [hb0, decide_eq_true_eq, decide_eq_false_iff_not, simprocAttr] at hb) <;> (try (exfalso; omega))) | (with_reducible refine ite_in (fun hb => ?_) (fun hb => ?_) <;> (try simp only [Decidable.not_not] at hb) <;> (try simp only [hb, if_true, if_false, not_false_eq_true, not_true_eq_false, ↓reduceIte]) <;> (try simp only [hb0, decide_eq_true_eq, decide_eq_false_iff_not, simprocAttr] at hb) <;> (try (exfalso; omega))) | ((first | refine hK _ _ ?_ | (clear hK; refine hK _ _ ?_) | (clear hK; clear hK; refine hK _ _ ?_) | (clear hK; clear hK; clear hK; refine hK _ _ ?_)); clear hK; (try simp only [pst0, simprocAttr])) | (rw [if_pos]; rotate_left 1; omega; simp (maxSteps := 2000000) only [Ty.w, simprocAttr, g0, g1, gk, hll, hd]))
        rw [hinv]
theorem psame_c (a b : Pb) (ha : a.okS) (hb : b.okS) (h : Heap) : PCall Tryz.prog 22 [.agg a.cells, .agg b.cells] h fun r h' => r = .sc (.bool (a.same b)) ∧ h' = h := by
  obtain ⟨ho, ⟨hi, hia⟩, ⟨hv, hva⟩, hg⟩ := ha
  obtain ⟨ho3, ⟨hi3, hia3⟩, ⟨hv3, hva3⟩, hg3⟩ := hb
  obtain ⟨name, domain, objects, init, values, goal⟩ := a
  obtain ⟨name3, domain3, objects3, init3, values3, goal3⟩ := b
  simp only at ho hi hia hv hva hg ho3 hi3 hia3 hv3 hva3 hg3
  have hq := fsame_c goal hg goal3 hg3
  have hfa : ∀ a ∈ init, ∀ b ∈ init3, ∀ h : Heap, PCall Tryz.prog 70 [.agg (atRow a), .agg (atRow b)] h fun r h' => r = .sc (.bool (At.same a b)) ∧ h' = h := fun a ha b hb => psameAtom_c (hia a ha) (hia3 b hb)
  have hfv : ∀ a ∈ values, ∀ b ∈ values3, ∀ h : Heap, PCall Tryz.prog 72 [.agg (vlRow a), .agg (vlRow b)] h fun r h' => r = .sc (.bool (Vl.same a b)) ∧ h' = h := fun a ha b hb => psameValue_c (hva a ha) (hva3 b hb)
  unfold Pb.same
  simp only
  generalize goal.same goal3 = eg at hq ⊢
  clear hg hg3
  obtain ⟨gop, gname, gargs, gparams, gexprs, gkids⟩ := goal
  obtain ⟨gop3, gname3, gargs3, gparams3, gexprs3, gkids3⟩ := goal3
  simp only [Pb.cells, Fm.cells, List.cons_append, List.nil_append] at hq ⊢
  refine pcall_body (ow := fun _ => false) (wf := fun _ => false) Ty.mixed Tryz.func22 rfl Ty.hb_22 (by rw [Tryz.ntmps22]; simp) ?_
  rw [Tryz.ntmps22, Tryz.results22]
  cases e0 : (name.data.toList == name3.data.toList) with
  | false =>
    repeat' (first | (refine a_seq (fun K hK => ?_)) | (refine a_block ?_) | ((first | refine a_regionS ?_ | refine a_region (fun K hK => ?_) | refine a_ret ?_); simp (maxSteps := 2000000) only [Ty.w, simprocAttr, e0]) | ((first | refine a_skip ?_ | refine a_exit ?_); (try simp only [pst0, simprocAttr])) | (refine a_cond _ (by (try simp (maxSteps := 2000000) only [Ty.w, simprocAttr, e0]); rfl) (fun hb => ?_) (fun hb => ?_) <;> (try simp only [hb0, decide_eq_true_eq, decide_eq_false_iff_not, simprocAttr] at hb) <;> (try (exfalso; omega))) | (with_reducible refine ite_in (fun hb => ?_) (fun hb => ?_) <;> (try simp only [Decidable.not_not] at hb) <;> (try simp only [hb, if_true, if_false, not_false_eq_true, not_true_eq_false, ↓reduceIte]) <;> (try simp only [hb0, decide_eq_true_eq, decide_eq_false_iff_not, simprocAttr] at hb) <;> (try (exfalso; omega))) | ((first | refine hK _ _ ?_ | (clear hK; refine hK _ _ ?_) | (clear hK; clear hK; refine hK _ _ ?_) | (clear hK; clear hK; clear hK; refine hK _ _ ?_)); clear hK; (try simp only [pst0, simprocAttr])) | (rw [if_pos]; rotate_left 1; omega; simp (maxSteps := 2000000) only [Ty.w, simprocAttr, e0]))
    all_goals simp only [bEq, e0, Bool.false_and, Bool.and_false]
  | true =>
    cases e1 : (domain.data.toList == domain3.data.toList) with
    | false =>
      repeat' (first | (refine a_seq (fun K hK => ?_)) | (refine a_block ?_) | ((first | refine a_regionS ?_ | refine a_region (fun K hK => ?_) | refine a_ret ?_); simp (maxSteps := 2000000) only [Ty.w, simprocAttr, e0, e1]) | ((first | refine a_skip ?_ | refine a_exit ?_); (try simp only [pst0, simprocAttr])) | (refine a_cond _ (by (try simp (maxSteps := 2000000) only [Ty.w, simprocAttr, e0, e1]); rfl) (fun hb => ?_) (fun hb => ?_) <;> (try simp only [hb0, decide_eq_true_eq, decide_eq_false_iff_not, simprocAttr] at hb) <;> (try (exfalso; omega))) | (with_reducible refine ite_in (fun hb => ?_) (fun hb => ?_) <;> (try simp only [Decidable.not_not] at hb) <;> (try simp only [hb, if_true, if_false, not_false_eq_true, not_true_eq_false, ↓reduceIte]) <;> (try simp only [hb0, decide_eq_true_eq, decide_eq_false_iff_not, simprocAttr] at hb) <;> (try (exfalso; omega))) | ((first | refine hK _ _ ?_ | (clear hK; refine hK _ _ ?_) | (clear hK; clear hK; refine hK _ _ ?_) | (clear hK; clear hK; clear hK; refine hK _ _ ?_)); clear hK; (try simp only [pst0, simprocAttr])) | (rw [if_pos]; rotate_left 1; omega; simp (maxSteps := 2000000) only [Ty.w, simprocAttr, e0, e1]))
      all_goals simp only [bEq, e0, e1, Bool.false_and, Bool.and_false]
    | true =>
      repeat' (first | (refine a_seq (fun K hK => ?_)) | (refine a_block ?_) | ((first | refine a_regionS ?_ | refine a_region (fun K hK => ?_) | refine a_ret ?_); simp (maxSteps := 2000000) only [Ty.w, simprocAttr, e0, e1]) | ((first | refine a_skip ?_ | refine a_exit ?_); (try simp only [pst0, simprocAttr])) | (refine a_cond _ (by (try simp (maxSteps := 2000000) only [Ty.w, simprocAttr, e0, e1]); rfl) (fun hb => ?_) (fun hb => ?_) <;> (try simp only [hb0, decide_eq_true_eq, decide_eq_false_iff_not, simprocAttr] at hb) <;> (try (exfalso; omega))) | (with_reducible refine ite_in (fun hb => ?_) (fun hb => ?_) <;> (try simp only [Decidable.not_not] at hb) <;> (try simp only [hb, if_true, if_false, not_false_eq_true, not_true_eq_false, ↓reduceIte]) <;> (try simp only [hb0, decide_eq_true_eq, decide_eq_false_iff_not, simprocAttr] at hb) <;> (try (exfalso; omega))) | ((first | refine hK _ _ ?_ | (clear hK; refine hK _ _ ?_) | (clear hK; clear hK; refine hK _ _ ?_) | (clear hK; clear hK; clear hK; refine hK _ _ ?_)); clear hK; (try simp only [pst0, simprocAttr])) | (rw [if_pos]; rotate_left 1; omega; simp (maxSteps := 2000000) only [Ty.w, simprocAttr, e0, e1]))
      cases e2 : pmsEq objects objects3 with
      | false =>
        refine owp_useQ (fparams_c (l := objects) (m := objects3) ho ho3) (by (try simp only [Ty.w, simprocAttr, e0, e1, e2]); try rfl) ?_; simp (maxSteps := 2000000) only [Ty.w, simprocAttr, e0, e1, e2]
        repeat' (first | (refine a_seq (fun K hK => ?_)) | (refine a_block ?_) | ((first | refine a_regionS ?_ | refine a_region (fun K hK => ?_) | refine a_ret ?_); simp (maxSteps := 2000000) only [Ty.w, simprocAttr, e0, e1, e2]) | ((first | refine a_skip ?_ | refine a_exit ?_); (try simp only [pst0, simprocAttr])) | (refine a_cond _ (by (try simp (maxSteps := 2000000) only [Ty.w, simprocAttr, e0, e1, e2]); rfl) (fun hb => ?_) (fun hb => ?_) <;> (try simp only [hb0, decide_eq_true_eq, decide_eq_false_iff_not, simprocAttr] at hb) <;> (try (exfalso; omega))) | (with_reducible refine ite_in (fun hb => ?_) (fun hb => ?_) <;> (try simp only [Decidable.not_not] at hb) <;> (try simp only [hb, if_true, if_false, not_false_eq_true, not_true_eq_false, ↓reduceIte]) <;> (try simp only [hb0, decide_eq_true_eq, decide_eq_false_iff_not, simprocAttr] at hb) <;> (try (exfalso; omega))) | ((first | refine hK _ _ ?_ | (clear hK; refine hK _ _ ?_) | (clear hK; clear hK; refine hK _ _ ?_) | (clear hK; clear hK; clear hK; refine hK _ _ ?_)); clear hK; (try simp only [pst0, simprocAttr])) | (rw [if_pos]; rotate_left 1; omega; simp (maxSteps := 2000000) only [Ty.w, simprocAttr, e0, e1, e2]))
        all_goals simp only [bEq, e0, e1, e2, Bool.false_and, Bool.and_false]
      | true =>
        refine owp_useQ (fparams_c (l := objects) (m := objects3) ho ho3) (by (try simp only [Ty.w, simprocAttr, e0, e1, e2]); try rfl) ?_; simp (maxSteps := 2000000) only [Ty.w, simprocAttr, e0, e1, e2]
        repeat' (first | (refine a_seq (fun K hK => ?_)) | (refine a_block ?_) | ((first | refine a_regionS ?_ | refine a_region (fun K hK => ?_) | refine a_ret ?_); simp (maxSteps := 2000000) only [Ty.w, simprocAttr, e0, e1, e2]) | ((first | refine a_skip ?_ | refine a_exit ?_); (try simp only [pst0, simprocAttr])) | (refine a_cond _ (by (try simp (maxSteps := 2000000) only [Ty.w, simprocAttr, e0, e1, e2]); rfl) (fun hb => ?_) (fun hb => ?_) <;> (try simp only [hb0, decide_eq_true_eq, decide_eq_false_iff_not, simprocAttr] at hb) <;> (try (exfalso; omega))) | (with_reducible refine ite_in (fun hb => ?_) (fun hb => ?_) <;> (try simp only [Decidable.not_not] at hb) <;> (try simp only [hb, if_true, if_false, not_false_eq_true, not_true_eq_false, ↓reduceIte]) <;> (try simp only [hb0, decide_eq_true_eq, decide_eq_false_iff_not, simprocAttr] at hb) <;> (try (exfalso; omega))) | ((first | refine hK _ _ ?_ | (clear hK; refine hK _ _ ?_) | (clear hK; clear hK; refine hK _ _ ?_) | (clear hK; clear hK; clear hK; refine hK _ _ ?_)); clear hK; (try simp only [pst0, simprocAttr])) | (rw [if_pos]; rotate_left 1; omega; simp (maxSteps := 2000000) only [Ty.w, simprocAttr, e0, e1, e2]))
        cases e3 : atsEq init init3 with
        | false =>
          refine owp_useQ (fEqA_c hi hfa _) (by (try simp only [Ty.w, simprocAttr, e0, e1, e2, e3]); try rfl) ?_; simp (maxSteps := 2000000) only [Ty.w, simprocAttr, e0, e1, e2, e3]
          repeat' (first | (refine a_seq (fun K hK => ?_)) | (refine a_block ?_) | ((first | refine a_regionS ?_ | refine a_region (fun K hK => ?_) | refine a_ret ?_); simp (maxSteps := 2000000) only [Ty.w, simprocAttr, e0, e1, e2, e3]) | ((first | refine a_skip ?_ | refine a_exit ?_); (try simp only [pst0, simprocAttr])) | (refine a_cond _ (by (try simp (maxSteps := 2000000) only [Ty.w, simprocAttr, e0, e1, e2, e3]); rfl) (fun hb => ?_) (fun hb => ?_) <;> (try simp only [hb0, decide_eq_true_eq, decide_eq_false_iff_not, simprocAttr] at hb) <;> (try (exfalso; omega))) | (with_reducible refine ite_in (fun hb => ?_) (fun hb => ?_) <;> (try simp only [Decidable.not_not] at hb) <;> (try simp only [hb, if_true, if_false, not_false_eq_true, not_true_eq_false, ↓reduceIte]) <;> (try simp only [hb0, decide_eq_true_eq, decide_eq_false_iff_not, simprocAttr] at hb) <;> (try (exfalso; omega))) | ((first | refine hK _ _ ?_ | (clear hK; refine hK _ _ ?_) | (clear hK; clear hK; refine hK _ _ ?_) | (clear hK; clear hK; clear hK; refine hK _ _ ?_)); clear hK; (try simp only [pst0, simprocAttr])) | (rw [if_pos]; rotate_left 1; omega; simp (maxSteps := 2000000) only [Ty.w, simprocAttr, e0, e1, e2, e3]))
          all_goals simp only [bEq, e0, e1, e2, e3, Bool.false_and, Bool.and_false]
        | true =>
          refine owp_useQ (fEqA_c hi hfa _) (by (try simp only [Ty.w, simprocAttr, e0, e1, e2, e3]); try rfl) ?_; simp (maxSteps := 2000000) only [Ty.w, simprocAttr, e0, e1, e2, e3]
          repeat' (first | (refine a_seq (fun K hK => ?_)) | (refine a_block ?_) | ((first | refine a_regionS ?_ | refine a_region (fun K hK => ?_) | refine a_ret ?_); simp (maxSteps := 2000000) only [Ty.w, simprocAttr, e0, e1, e2, e3]) | ((first | refine a_skip ?_ | refine a_exit ?_); (try simp only [pst0, simprocAttr])) | (refine a_cond _ (by (try simp (maxSteps := 2000000) only [Ty.w, simprocAttr, e0, e1, e2, e3]); rfl) (fun hb => ?_) (fun hb => ?_) <;> (try simp only [hb0, decide_eq_true_eq, decide_eq_false_iff_not, simprocAttr] at hb) <;> (try (exfalso; omega))) | (with_reducible refine ite_in (fun hb => ?_) (fun hb => ?_) <;> (try simp only [Decidable.not_not] at hb) <;> (try simp only [hb, if_true, if_false, not_false_eq_true, not_true_eq_false, ↓reduceIte]) <;> (try simp only [hb0, decide_eq_true_eq, decide_eq_false_iff_not, simprocAttr] at hb) <;> (try (exfalso; omega))) | ((first | refine hK _ _ ?_ | (clear hK; refine hK _ _ ?_) | (clear hK; clear hK; refine hK _ _ ?_) | (clear hK; clear hK; clear hK; refine hK _ _ ?_)); clear hK; (try simp only [pst0, simprocAttr])) | (rw [if_pos]; rotate_left 1; omega; simp (maxSteps := 2000000) only [Ty.w, simprocAttr, e0, e1, e2, e3]))
          cases e4 : vlsEq values values3 with
          | false =>
            refine owp_useQ (fEqV_c hv hfv _) (by (try simp only [Ty.w, simprocAttr, e0, e1, e2, e3, e4]); try rfl) ?_; simp (maxSteps := 2000000) only [Ty.w, simprocAttr, e0, e1, e2, e3, e4]
            repeat' (first | (refine a_seq (fun K hK => ?_)) | (refine a_block ?_) | ((first | refine a_regionS ?_ | refine a_region (fun K hK => ?_) | refine a_ret ?_); simp (maxSteps := 2000000) only [Ty.w, simprocAttr, e0, e1, e2, e3, e4]) | ((first | refine a_skip ?_ | refine a_exit ?_); (try simp only [pst0, simprocAttr])) | (refine a_cond _ (by (try simp (maxSteps := 2000000) only [Ty.w, simprocAttr, e0, e1, e2, e3, e4]); rfl) (fun hb => ?_) (fun hb => ?_) <;> (try simp only [hb0, decide_eq_true_eq, decide_eq_false_iff_not, simprocAttr] at hb) <;> (try (exfalso; omega))) | (with_reducible refine ite_in (fun hb => ?_) (fun hb => ?_) <;> (try simp only [Decidable.not_not] at hb) <;> (try simp only [hb, if_true, if_false, not_false_eq_true, not_true_eq_false, ↓reduceIte]) <;> (try simp only [hb0, decide_eq_true_eq, decide_eq_false_iff_not, simprocAttr] at hb) <;> (try (exfalso; omega))) | ((first | refine hK _ _ ?_ | (clear hK; refine hK _ _ ?_) | (clear hK; clear hK; refine hK _ _ ?_) | (clear hK; clear hK; clear hK; refine hK _ _ ?_)); clear hK; (try simp only [pst0, simprocAttr])) | (rw [if_pos]; rotate_left 1; omega; simp (maxSteps := 2000000) only [Ty.w, simprocAttr, e0, e1, e2, e3, e4]))
            all_goals simp only [bEq, e0, e1, e2, e3, e4, Bool.false_and, Bool.and_false]
          | true =>
            refine owp_useQ (fEqV_c hv hfv _) (by (try simp only [Ty.w, simprocAttr, e0, e1, e2, e3, e4]); try rfl) ?_; simp (maxSteps := 2000000) only [Ty.w, simprocAttr, e0, e1, e2, e3, e4]
            repeat' (first | (refine a_seq (fun K hK => ?_)) | (refine a_block ?_) | ((first | refine a_regionS ?_ | refine a_region (fun K hK => ?_) | refine a_ret ?_); simp (maxSteps := 2000000) only [Ty.w, simprocAttr, e0, e1, e2, e3, e4]) | ((first | refine a_skip ?_ | refine a_exit ?_); (try simp only [pst0, simprocAttr])) | (refine a_cond _ (by (try simp (maxSteps := 2000000) only [Ty.w, simprocAttr, e0, e1, e2, e3, e4]); rfl) (fun hb => ?_) (fun hb => ?_) <;> (try simp only [hb0, decide_eq_true_eq, decide_eq_false_iff_not, simprocAttr] at hb) <;> (try (exfalso; omega))) | (with_reducible refine ite_in (fun hb => ?_) (fun hb => ?_) <;> (try simp only [Decidable.not_not] at hb) <;> (try simp only [hb, if_true, if_false, not_false_eq_true, not_true_eq_false, ↓reduceIte]) <;> (try simp only [hb0, decide_eq_true_eq, decide_eq_false_iff_not, simprocAttr] at hb) <;> (try (exfalso; omega))) | ((first | refine hK _ _ ?_ | (clear hK; refine hK _ _ ?_) | (clear hK; clear hK; refine hK _ _ ?_) | (clear hK; clear hK; clear hK; refine hK _ _ ?_)); clear hK; (try simp only [pst0, simprocAttr])) | (rw [if_pos]; rotate_left 1; omega; simp (maxSteps := 2000000) only [Ty.w, simprocAttr, e0, e1, e2, e3, e4]))
            refine owp_useQ (hq _) (by (try simp only [Ty.w, simprocAttr, e0, e1, e2, e3, e4]); try rfl) ?_; simp (maxSteps := 2000000) only [Ty.w, simprocAttr, e0, e1, e2, e3, e4]
            repeat' (first | (refine a_seq (fun K hK => ?_)) | (refine a_block ?_) | ((first | refine a_regionS ?_ | refine a_region (fun K hK => ?_) | refine a_ret ?_); simp (maxSteps := 2000000) only [Ty.w, simprocAttr, e0, e1, e2, e3, e4]) | ((first | refine a_skip ?_ | refine a_exit ?_); (try simp only [pst0, simprocAttr])) | (refine a_cond _ (by (try simp (maxSteps := 2000000) only [Ty.w, simprocAttr, e0, e1, e2, e3, e4]); rfl) (fun hb => ?_) (fun hb => ?_) <;> (try simp only [hb0, decide_eq_true_eq, decide_eq_false_iff_not, simprocAttr] at hb) <;> (try (exfalso; omega))) | (with_reducible refine ite_in (fun hb => ?_) (fun hb => ?_) <;> (try simp only [Decidable.not_not] at hb) <;> (try simp only [hb, if_true, if_false, not_false_eq_true, not_true_eq_false, ↓reduceIte]) <;> (try simp only [hb0, decide_eq_true_eq, decide_eq_false_iff_not, simprocAttr] at hb) <;> (try (exfalso; omega))) | ((first | refine hK _ _ ?_ | (clear hK; refine hK _ _ ?_) | (clear hK; clear hK; refine hK _ _ ?_) | (clear hK; clear hK; clear hK; refine hK _ _ ?_)); clear hK; (try simp only [pst0, simprocAttr])) | (rw [if_pos]; rotate_left 1; omega; simp (maxSteps := 2000000) only [Ty.w, simprocAttr, e0, e1, e2, e3, e4]))
            all_goals simp only [bEq, e0, e1, e2, e3, e4, Bool.true_and]
theorem rpsame_c (a b : Pb) (ha : a.okS) (hb : b.okS) (h : Heap) : PCall Tryz.prog 21 [.agg a.cells, .agg b.cells] h fun r h' => r = .sc (.bool (a.same b)) ∧ h' = h := by
  obtain ⟨ho, ⟨hi, hia⟩, ⟨hv, hva⟩, hg⟩ := ha
  obtain ⟨ho3, ⟨hi3, hia3⟩, ⟨hv3, hva3⟩, hg3⟩ := hb
  obtain ⟨name, domain, objects, init, values, goal⟩ := a
  obtain ⟨name3, domain3, objects3, init3, values3, goal3⟩ := b
  simp only at ho hi hia hv hva hg ho3 hi3 hia3 hv3 hva3 hg3
  have hq := rsame_c goal hg goal3 hg3
  unfold Pb.same
  simp only
  generalize goal.same goal3 = eg at hq ⊢
  clear hg hg3
  obtain ⟨gop, gname, gargs, gparams, gexprs, gkids⟩ := goal
  obtain ⟨gop3, gname3, gargs3, gparams3, gexprs3, gkids3⟩ := goal3
  simp only [Pb.cells, Fm.cells, List.cons_append, List.nil_append] at hq ⊢
  refine pcall_body (ow := fun _ => false) (wf := fun _ => false) Ty.mixed Tryz.func21 rfl Ty.hb_21 (by rw [Tryz.ntmps21]; simp) ?_
  rw [Tryz.ntmps21, Tryz.results21]
  cases e0 : (name.data.toList == name3.data.toList) with
  | false =>
    repeat' (first | (refine a_seq (fun K hK => ?_)) | (refine a_block ?_) | ((first | refine a_regionS ?_ | refine a_region (fun K hK => ?_) | refine a_ret ?_); simp (maxSteps := 2000000) only [Ty.w, simprocAttr, e0]) | ((first | refine a_skip ?_ | refine a_exit ?_); (try simp only [pst0, simprocAttr])) | (refine a_cond _ (by (try simp (maxSteps := 2000000) only [Ty.w, simprocAttr, e0]); rfl) (fun hb => ?_) (fun hb => ?_) <;> (try simp only [hb0, decide_eq_true_eq, decide_eq_false_iff_not, simprocAttr] at hb) <;> (try (exfalso; omega))) | (with_reducible refine ite_in (fun hb => ?_) (fun hb => ?_) <;> (try simp only [Decidable.not_not] at hb) <;> (try simp only [hb, if_true, if_false, not_false_eq_true, not_true_eq_false, ↓reduceIte]) <;> (try simp only [hb0, decide_eq_true_eq, decide_eq_false_iff_not, simprocAttr] at hb) <;> (try (exfalso; omega))) | ((first | refine hK _ _ ?_ | (clear hK; refine hK _ _ ?_) | (clear hK; clear hK; refine hK _ _ ?_) | (clear hK; clear hK; clear hK; refine hK _ _ ?_)); clear hK; (try simp only [pst0, simprocAttr])) | (rw [if_pos]; rotate_left 1; omega; simp (maxSteps := 2000000) only [Ty.w, simprocAttr, e0]))
    all_goals simp only [bEq, e0, Bool.false_and, Bool.and_false]
  | true =>
    cases e1 : (domain.data.toList == domain3.data.toList) with
    | false =>
      repeat' (first | (refine a_seq (fun K hK => ?_)) | (refine a_block ?_) | ((first | refine a_regionS ?_ | refine a_region (fun K hK => ?_) | refine a_ret ?_); simp (maxSteps := 2000000) only [Ty.w, simprocAttr, e0, e1]) | ((first | refine a_skip ?_ | refine a_exit ?_); (try simp only [pst0, simprocAttr])) | (refine a_cond _ (by (try simp (maxSteps := 2000000) only [Ty.w, simprocAttr, e0, e1]); rfl) (fun hb => ?_) (fun hb => ?_) <;> (try simp only [hb0, decide_eq_true_eq, decide_eq_false_iff_not, simprocAttr] at hb) <;> (try (exfalso; omega))) | (with_reducible refine ite_in (fun hb => ?_) (fun hb => ?_) <;> (try simp only [Decidable.not_not] at hb) <;> (try simp only [hb, if_true, if_false, not_false_eq_true, not_true_eq_false, ↓reduceIte]) <;> (try simp only [hb0, decide_eq_true_eq, decide_eq_false_iff_not, simprocAttr] at hb) <;> (try (exfalso; omega))) | ((first | refine hK _ _ ?_ | (clear hK; refine hK _ _ ?_) | (clear hK; clear hK; refine hK _ _ ?_) | (clear hK; clear hK; clear hK; refine hK _ _ ?_)); clear hK; (try simp only [pst0, simprocAttr])) | (rw [if_pos]; rotate_left 1; omega; simp (maxSteps := 2000000) only [Ty.w, simprocAttr, e0, e1]))
      all_goals simp only [bEq, e0, e1, Bool.false_and, Bool.and_false]
    | true =>
      repeat' (first | (refine a_seq (fun K hK => ?_)) | (refine a_block ?_) | ((first | refine a_regionS ?_ | refine a_region (fun K hK => ?_) | refine a_ret ?_); simp (maxSteps := 2000000) only [Ty.w, simprocAttr, e0, e1]) | ((first | refine a_skip ?_ | refine a_exit ?_); (try simp only [pst0, simprocAttr])) | (refine a_cond _ (by (try simp (maxSteps := 2000000) only [Ty.w, simprocAttr, e0, e1]); rfl) (fun hb => ?_) (fun hb => ?_) <;> (try simp only [hb0, decide_eq_true_eq, decide_eq_false_iff_not, simprocAttr] at hb) <;> (try (exfalso; omega))) | (with_reducible refine ite_in (fun hb => ?_) (fun hb => ?_) <;> (try simp only [Decidable.not_not] at hb) <;> (try simp only [hb, if_true, if_false, not_false_eq_true, not_true_eq_false, ↓reduceIte]) <;> (try simp only [hb0, decide_eq_true_eq, decide_eq_false_iff_not, simprocAttr] at hb) <;> (try (exfalso; omega))) | ((first | refine hK _ _ ?_ | (clear hK; refine hK _ _ ?_) | (clear hK; clear hK; refine hK _ _ ?_) | (clear hK; clear hK; clear hK; refine hK _ _ ?_)); clear hK; (try simp only [pst0, simprocAttr])) | (rw [if_pos]; rotate_left 1; omega; simp (maxSteps := 2000000) only [Ty.w, simprocAttr, e0, e1]))
      cases e2 : pmsEq objects objects3 with
      | false =>
        refine owp_useQ (rparams_c (l := objects) (m := objects3) ho ho3) (by (try simp only [Ty.w, simprocAttr, e0, e1, e2]); try rfl) ?_; simp (maxSteps := 2000000) only [Ty.w, simprocAttr, e0, e1, e2]
        repeat' (first | (refine a_seq (fun K hK => ?_)) | (refine a_block ?_) | ((first | refine a_regionS ?_ | refine a_region (fun K hK => ?_) | refine a_ret ?_); simp (maxSteps := 2000000) only [Ty.w, simprocAttr, e0, e1, e2]) | ((first | refine a_skip ?_ | refine a_exit ?_); (try simp only [pst0, simprocAttr])) | (refine a_cond _ (by (try simp (maxSteps := 2000000) only [Ty.w, simprocAttr, e0, e1, e2]); rfl) (fun hb => ?_) (fun hb => ?_) <;> (try simp only [hb0, decide_eq_true_eq, decide_eq_false_iff_not, simprocAttr] at hb) <;> (try (exfalso; omega))) | (with_reducible refine ite_in (fun hb => ?_) (fun hb => ?_) <;> (try simp only [Decidable.not_not] at hb) <;> (try simp only [hb, if_true, if_false, not_false_eq_true, not_true_eq_false, ↓reduceIte]) <;> (try simp only [hb0, decide_eq_true_eq, decide_eq_false_iff_not, simprocAttr] at hb) <;> (try (exfalso; omega))) | ((first | refine hK _ _ ?_ | (clear hK; refine hK _ _ ?_) | (clear hK; clear hK; refine hK _ _ ?_) | (clear hK; clear hK; clear hK; refine hK _ _ ?_)); clear hK; (try simp only [pst0, simprocAttr])) | (rw [if_pos]; rotate_left 1; omega; simp (maxSteps := 2000000) only [Ty.w, simprocAttr, e0, e1, e2]))
        all_goals simp only [bEq, e0, e1, e2, Bool.false_and, Bool.and_false]
      | true =>
        refine owp_useQ (rparams_c (l := objects) (m := objects3) ho ho3) (by (try simp only [Ty.w, simprocAttr, e0, e1, e2]); try rfl) ?_; simp (maxSteps := 2000000) only [Ty.w, simprocAttr, e0, e1, e2]
        repeat' (first | (refine a_seq (fun K hK => ?_)) | (refine a_block ?_) | ((first | refine a_regionS ?_ | refine a_region (fun K hK => ?_) | refine a_ret ?_); simp (maxSteps := 2000000) only [Ty.w, simprocAttr, e0, e1, e2]) | ((first | refine a_skip ?_ | refine a_exit ?_); (try simp only [pst0, simprocAttr])) | (refine a_cond _ (by (try simp (maxSteps := 2000000) only [Ty.w, simprocAttr, e0, e1, e2]); rfl) (fun hb => ?_) (fun hb => ?_) <;> (try simp only [hb0, decide_eq_true_eq, decide_eq_false_iff_not, simprocAttr] at hb) <;> (try (exfalso; omega))) | (with_reducible refine ite_in (fun hb => ?_) (fun hb => ?_) <;> (try simp only [Decidable.not_not] at hb) <;> (try simp only [hb, if_true, if_false, not_false_eq_true, not_true_eq_false, ↓reduceIte]) <;> (try simp only [hb0, decide_eq_true_eq, decide_eq_false_iff_not, simprocAttr] at hb) <;> (try (exfalso; omega))) | ((first | refine hK _ _ ?_ | (clear hK; refine hK _ _ ?_) | (clear hK; clear hK; refine hK _ _ ?_) | (clear hK; clear hK; clear hK; refine hK _ _ ?_)); clear hK; (try simp only [pst0, simprocAttr])) | (rw [if_pos]; rotate_left 1; omega; simp (maxSteps := 2000000) only [Ty.w, simprocAttr, e0, e1, e2]))
        cases e3 : atsEq init init3 with
        | false =>
          refine owp_useQ (rSameAtoms_c hi hia hia3 _) (by (try simp only [Ty.w, simprocAttr, e0, e1, e2, e3]); try rfl) ?_; simp (maxSteps := 2000000) only [Ty.w, simprocAttr, e0, e1, e2, e3]
          repeat' (first | (refine a_seq (fun K hK => ?_)) | (refine a_block ?_) | ((first | refine a_regionS ?_ | refine a_region (fun K hK => ?_) | refine a_ret ?_); simp (maxSteps := 2000000) only [Ty.w, simprocAttr, e0, e1, e2, e3]) | ((first | refine a_skip ?_ | refine a_exit ?_); (try simp only [pst0, simprocAttr])) | (refine a_cond _ (by (try simp (maxSteps := 2000000) only [Ty.w, simprocAttr, e0, e1, e2, e3]); rfl) (fun hb => ?_) (fun hb => ?_) <;> (try simp only [hb0, decide_eq_true_eq, decide_eq_false_iff_not, simprocAttr] at hb) <;> (try (exfalso; omega))) | (with_reducible refine ite_in (fun hb => ?_) (fun hb => ?_) <;> (try simp only [Decidable.not_not] at hb) <;> (try simp only [hb, if_true, if_false, not_false_eq_true, not_true_eq_false, ↓reduceIte]) <;> (try simp only [hb0, decide_eq_true_eq, decide_eq_false_iff_not, simprocAttr] at hb) <;> (try (exfalso; omega))) | ((first | refine hK _ _ ?_ | (clear hK; refine hK _ _ ?_) | (clear hK; clear hK; refine hK _ _ ?_) | (clear hK; clear hK; clear hK; refine hK _ _ ?_)); clear hK; (try simp only [pst0, simprocAttr])) | (rw [if_pos]; rotate_left 1; omega; simp (maxSteps := 2000000) only [Ty.w, simprocAttr, e0, e1, e2, e3]))
          all_goals simp only [bEq, e0, e1, e2, e3, Bool.false_and, Bool.and_false]
        | true =>
          refine owp_useQ (rSameAtoms_c hi hia hia3 _) (by (try simp only [Ty.w, simprocAttr, e0, e1, e2, e3]); try rfl) ?_; simp (maxSteps := 2000000) only [Ty.w, simprocAttr, e0, e1, e2, e3]
          repeat' (first | (refine a_seq (fun K hK => ?_)) | (refine a_block ?_) | ((first | refine a_regionS ?_ | refine a_region (fun K hK => ?_) | refine a_ret ?_); simp (maxSteps := 2000000) only [Ty.w, simprocAttr, e0, e1, e2, e3]) | ((first | refine a_skip ?_ | refine a_exit ?_); (try simp only [pst0, simprocAttr])) | (refine a_cond _ (by (try simp (maxSteps := 2000000) only [Ty.w, simprocAttr, e0, e1, e2, e3]); rfl) (fun hb => ?_) (fun hb => ?_) <;> (try simp only [hb0, decide_eq_true_eq, decide_eq_false_iff_not, simprocAttr] at hb) <;> (try (exfalso; omega))) | (with_reducible refine ite_in (fun hb => ?_) (fun hb => ?_) <;> (try simp only [Decidable.not_not] at hb) <;> (try simp only [hb, if_true, if_false, not_false_eq_true, not_true_eq_false, ↓reduceIte]) <;> (try simp only [hb0, decide_eq_true_eq, decide_eq_false_iff_not, simprocAttr] at hb) <;> (try (exfalso; omega))) | ((first | refine hK _ _ ?_ | (clear hK; refine hK _ _ ?_) | (clear hK; clear hK; refine hK _ _ ?_) | (clear hK; clear hK; clear hK; refine hK _ _ ?_)); clear hK; (try simp only [pst0, simprocAttr])) | (rw [if_pos]; rotate_left 1; omega; simp (maxSteps := 2000000) only [Ty.w, simprocAttr, e0, e1, e2, e3]))
          cases e4 : vlsEq values values3 with
          | false =>
            refine owp_useQ (rSameValues_c hv hva hva3 _) (by (try simp only [Ty.w, simprocAttr, e0, e1, e2, e3, e4]); try rfl) ?_; simp (maxSteps := 2000000) only [Ty.w, simprocAttr, e0, e1, e2, e3, e4]
            repeat' (first | (refine a_seq (fun K hK => ?_)) | (refine a_block ?_) | ((first | refine a_regionS ?_ | refine a_region (fun K hK => ?_) | refine a_ret ?_); simp (maxSteps := 2000000) only [Ty.w, simprocAttr, e0, e1, e2, e3, e4]) | ((first | refine a_skip ?_ | refine a_exit ?_); (try simp only [pst0, simprocAttr])) | (refine a_cond _ (by (try simp (maxSteps := 2000000) only [Ty.w, simprocAttr, e0, e1, e2, e3, e4]); rfl) (fun hb => ?_) (fun hb => ?_) <;> (try simp only [hb0, decide_eq_true_eq, decide_eq_false_iff_not, simprocAttr] at hb) <;> (try (exfalso; omega))) | (with_reducible refine ite_in (fun hb => ?_) (fun hb => ?_) <;> (try simp only [Decidable.not_not] at hb) <;> (try simp only [hb, if_true, if_false, not_false_eq_true, not_true_eq_false, ↓reduceIte]) <;> (try simp only [hb0, decide_eq_true_eq, decide_eq_false_iff_not, simprocAttr] at hb) <;> (try (exfalso; omega))) | ((first | refine hK _ _ ?_ | (clear hK; refine hK _ _ ?_) | (clear hK; clear hK; refine hK _ _ ?_) | (clear hK; clear hK; clear hK; refine hK _ _ ?_)); clear hK; (try simp only [pst0, simprocAttr])) | (rw [if_pos]; rotate_left 1; omega; simp (maxSteps := 2000000) only [Ty.w, simprocAttr, e0, e1, e2, e3, e4]))
            all_goals simp only [bEq, e0, e1, e2, e3, e4, Bool.false_and, Bool.and_false]
          | true =>
            refine owp_useQ (rSameValues_c hv hva hva3 _) (by (try simp only [Ty.w, simprocAttr, e0, e1, e2, e3, e4]); try rfl) ?_; simp (maxSteps := 2000000) only [Ty.w, simprocAttr, e0, e1, e2, e3, e4]
            repeat' (first | (refine a_seq (fun K hK => ?_)) | (refine a_block ?_) | ((first | refine a_regionS ?_ | refine a_region (fun K hK => ?_) | refine a_ret ?_); simp (maxSteps := 2000000) only [Ty.w, simprocAttr, e0, e1, e2, e3, e4]) | ((first | refine a_skip ?_ | refine a_exit ?_); (try simp only [pst0, simprocAttr])) | (refine a_cond _ (by (try simp (maxSteps := 2000000) only [Ty.w, simprocAttr, e0, e1, e2, e3, e4]); rfl) (fun hb => ?_) (fun hb => ?_) <;> (try simp only [hb0, decide_eq_true_eq, decide_eq_false_iff_not, simprocAttr] at hb) <;> (try (exfalso; omega))) | (with_reducible refine ite_in (fun hb => ?_) (fun hb => ?_) <;> (try simp only [Decidable.not_not] at hb) <;> (try simp only [hb, if_true, if_false, not_false_eq_true, not_true_eq_false, ↓reduceIte]) <;> (try simp only [hb0, decide_eq_true_eq, decide_eq_false_iff_not, simprocAttr] at hb) <;> (try (exfalso; omega))) | ((first | refine hK _ _ ?_ | (clear hK; refine hK _ _ ?_) | (clear hK; clear hK; refine hK _ _ ?_) | (clear hK; clear hK; clear hK; refine hK _ _ ?_)); clear hK; (try simp only [pst0, simprocAttr])) | (rw [if_pos]; rotate_left 1; omega; simp (maxSteps := 2000000) only [Ty.w, simprocAttr, e0, e1, e2, e3, e4]))
            refine owp_useQ (hq _) (by (try simp only [Ty.w, simprocAttr, e0, e1, e2, e3, e4]); try rfl) ?_; simp (maxSteps := 2000000) only [Ty.w, simprocAttr, e0, e1, e2, e3, e4]
            repeat' (first | (refine a_seq (fun K hK => ?_)) | (refine a_block ?_) | ((first | refine a_regionS ?_ | refine a_region (fun K hK => ?_) | refine a_ret ?_); simp (maxSteps := 2000000) only [Ty.w, simprocAttr, e0, e1, e2, e3, e4]) | ((first | refine a_skip ?_ | refine a_exit ?_); (try simp only [pst0, simprocAttr])) | (refine a_cond _ (by (try simp (maxSteps := 2000000) only [Ty.w, simprocAttr, e0, e1, e2, e3, e4]); rfl) (fun hb => ?_) (fun hb => ?_) <;> (try simp only [hb0, decide_eq_true_eq, decide_eq_false_iff_not, simprocAttr] at hb) <;> (try (exfalso; omega))) | (with_reducible refine ite_in (fun hb => ?_) (fun hb => ?_) <;> (try simp only [Decidable.not_not] at hb) <;> (try simp only [hb, if_true, if_false, not_false_eq_true, not_true_eq_false, ↓reduceIte]) <;> (try simp only [hb0, decide_eq_true_eq, decide_eq_false_iff_not, simprocAttr] at hb) <;> (try (exfalso; omega))) | ((first | refine hK _ _ ?_ | (clear hK; refine hK _ _ ?_) | (clear hK; clear hK; refine hK _ _ ?_) | (clear hK; clear hK; clear hK; refine hK _ _ ?_)); clear hK; (try simp only [pst0, simprocAttr])) | (rw [if_pos]; rotate_left 1; omega; simp (maxSteps := 2000000) only [Ty.w, simprocAttr, e0, e1, e2, e3, e4]))
            all_goals simp only [bEq, e0, e1, e2, e3, e4, Bool.true_and]
end Go.Proofs.YtikhonogkpboaaaGreat
namespace Go.AM
def vEq : Value → Value → Bool
  | .int k a, .int k' b => decide (k = k') && decide (a = b)
  | .bool a, .bool b => a == b
  | .string a, .string b => decide (a.data.toList = b.data.toList)
  | .nilIface, .nilIface => true
  | .pointer none, .pointer none => true
  | .map none, .map none => true
  | .slice none n m, .slice none n' m' => decide (n = n') && decide (m = m')
  | .func (.func f) a b, .func (.func f') a' b' => decide (f = f') && decide (a.size = 0) && decide (b.size = 0) && decide (a'.size = 0) && decide (b'.size = 0)
  | .iface t v, .iface u x => decide (t = u) && vEq v x
  | _, _ => false
theorem vEq_eq (a b : Value) (h : vEq a b = true) : a = b := by
  fun_induction vEq a b
  case case3 a b =>
    obtain ⟨⟨a⟩⟩ := a
    obtain ⟨⟨b⟩⟩ := b
    simp at h; rw [h]
  case case8 =>
    simp at h
    obtain ⟨⟨⟨⟨rfl, rfl⟩, rfl⟩, rfl⟩, rfl⟩ := h
    rfl
  all_goals simp_all
mutual
def pvEq : PV → PV → Bool
  | .sc v, .sc u => vEq v u
  | .ptr a b c, .ptr a' b' c' => decide (a = a') && decide (b = b') && decide (c = c')
  | .own a b c, .own a' b' c' => decide (a = a') && decide (b = b') && decide (c = c')
  | .mp a, .mp b => decide (a = b)
  | .emp, .emp => true
  | .cptr l, .cptr l' => pvEqL l l'
  | .agg l, .agg l' => pvEqL l l'
  | .tup l, .tup l' => pvEqL l l'
  | .fn f a b, .fn f' a' b' => decide (f = f') && pvEqL a a' && pvEqL b b'
  | .ab k a b c d, .ab k' a' b' c' d' => decide (k = k') && decide (a = a') && decide (b = b') && decide (c = c') && decide (d = d')
  | .imm z r, .imm z' r' => decide (z = z') && pvEqR r r'
  | _, _ => false
def pvEqL : List PV → List PV → Bool
  | [], [] => true
  | a :: l, b :: l' => pvEq a b && pvEqL l l'
  | _, _ => false
def pvEqR : List (List PV) → List (List PV) → Bool
  | [], [] => true
  | a :: l, b :: l' => pvEqL a b && pvEqR l l'
  | _, _ => false
end
mutual
theorem pvEq_eq : ∀ (a b : PV), pvEq a b = true → a = b
  | .sc v, b, h => by cases b <;> simp [pvEq] at h; rw [vEq_eq _ _ h]
  | .ptr a b c, x, h => by cases x <;> simp [pvEq] at h; obtain ⟨⟨rfl, rfl⟩, rfl⟩ := h; rfl
  | .own a b c, x, h => by cases x <;> simp [pvEq] at h; obtain ⟨⟨rfl, rfl⟩, rfl⟩ := h; rfl
  | .mp a, x, h => by cases x <;> simp [pvEq] at h; rw [h]
  | .emp, x, h => by cases x <;> simp [pvEq] at h; rfl
  | .cptr l, x, h => by cases x <;> simp [pvEq] at h; rw [pvEqL_eq _ _ h]
  | .agg l, x, h => by cases x <;> simp [pvEq] at h; rw [pvEqL_eq _ _ h]
  | .tup l, x, h => by cases x <;> simp [pvEq] at h; rw [pvEqL_eq _ _ h]
  | .imm z r, x, h => by cases x <;> simp [pvEq] at h; rw [h.1, pvEqR_eq _ _ h.2]
  | .fn f a b, x, h => by cases x <;> simp [pvEq] at h; rw [h.1.1, pvEqL_eq _ _ h.1.2, pvEqL_eq _ _ h.2]
  | .ab k a b c d, x, h => by cases x <;> simp [pvEq] at h; obtain ⟨⟨⟨⟨rfl, rfl⟩, rfl⟩, rfl⟩, rfl⟩ := h; rfl
theorem pvEqL_eq : ∀ (a b : List PV), pvEqL a b = true → a = b
  | [], b, h => by cases b <;> simp [pvEqL] at h; rfl
  | x :: l, b, h => by cases b <;> simp [pvEqL] at h; rw [pvEq_eq _ _ h.1, pvEqL_eq _ _ h.2]
theorem pvEqR_eq : ∀ (a b : List (List PV)), pvEqR a b = true → a = b
  | [], b, h => by cases b <;> simp [pvEqR] at h; rfl
  | x :: l, b, h => by cases b <;> simp [pvEqR] at h; rw [pvEqL_eq _ _ h.1, pvEqR_eq _ _ h.2]
end
section
variable (P : Program) (wf : FuncId → Bool) (own : FuncId → Nat → Bool) (ext : FuncId → List PV → Option PV)
end
section
variable {P : Program} {wf : FuncId → Bool} {own : FuncId → Nat → Bool}
/-- what is taken from contracts that are proved: of calls that leave the heap -/
def ExtOk (P : Program) (ext : FuncId → List PV → Option PV) : Prop := ∀ f args r h, ext f args = some r → PCall P f args h (fun r' h' => r' = r ∧ h' = h)
theorem eff_same {ow : Nat → Bool} {o : Oper} {ρ : Operand → PV} {h h' : Heap} {v : PV} (hw : isW ow wf o = false) (hc : callee ρ o.op = none) (he : eff P (o.dst.any ow) o.op ρ h = some (v, h')) : h' = h := by
  obtain ⟨dst, op, t, pos, after, guard⟩ := o
  simp only at hc he hw
  unfold eff at he
  split at he <;> simp only [isW] at hw <;> (try (simp at hw; done))
  all_goals (repeat' (split at he))
  all_goals first
    | (simp [Option.bind_eq_some_iff, Option.map_eq_some_iff] at he; done)
    | (simp [Option.bind_eq_some_iff, Option.map_eq_some_iff] at he; grind)
    | skip
theorem Does.owp {ow : Nat → Bool} {o : Oper} {s : Slots} {h h' : Heap} {v : PV} {K : Slots → Heap → Prop} (hd : Does P ow o (pev s) h v h') (hK : K (updO s o.dst v) h') : owp P ow o K s h := by
  unfold Does at hd
  unfold AM.owp
  split at hd
  · rename_i f args hc
    exact hd.mono (fun r h'' hr => by rw [hr.1, hr.2]; exact hK)
  · rename_i hc
    rw [hd]
    exact hK
/-- the first place of a byte -/
theorem pcall_indexByte {f : FuncId} {fn : Func} (hf : P.funcs[f]? = some fn) (hname : (fn.name == "runtime.NumGoroutine") = false) (hb : fn.body.isNone = true) (hn : Extern.findNext fn = none) (he : Extern.find fn = some Extern.BytealgIndexByte.indexByte) (s : ByteArray) (c : Int) (h : Heap) :
    PCall P f [.sc (.string s), .sc (.int .u8 c)] h (fun r h' => r = .sc (.int .i64 (firstIdx s c.toNat.toUInt8)) ∧ h' = h) := by
  intro β w vals sm hr
  match vals, hr.len, hr with
  | [x, y], _, hr =>
    simp only [RepL, Rep] at hr
    obtain ⟨rfl, rfl, _⟩ := hr
    exact .inr ⟨_, w, by rw [run_callFunc_extern hf hname hb hn he]; simp only [run_indexByte_string]; rfl, _, h, β, _, rfl, ⟨rfl, rfl⟩, sm, by simp only [RepH, Rep], Ext.refl⟩
end
end Go.AM
namespace Go.Proofs.YtikhonogkpboaaaGreat
open Go.AM
set_option maxHeartbeats 2000000
set_option maxRecDepth 100000
def ext (f : FuncId) (args : List PV) : Option PV := if f = 268 then (match args with | [.sc (.string s), .sc (.int .u8 c)] => some (.sc (.int .i64 (firstIdx s c.toNat.toUInt8))) | _ => none) else none
theorem ixb_ok : (Tryz.f268.name == "runtime.NumGoroutine") = false ∧ Tryz.f268.body.isNone = true ∧ Extern.findNext Tryz.f268 = none ∧ Extern.find Tryz.f268 = some Extern.BytealgIndexByte.indexByte :=
  ⟨by kernel_rfl, by kernel_rfl, by kernel_rfl, by kernel_rfl⟩
theorem ext_ok : ExtOk Tryz.prog ext := by
  intro f args r h hr
  unfold ext at hr
  split at hr
  · rename_i hf
    subst hf
    split at hr
    · simp only [Option.some.injEq] at hr
      subst hr
      exact pcall_indexByte Tryz.func268 ixb_ok.1 ixb_ok.2.1 ixb_ok.2.2.1 ixb_ok.2.2.2 _ _ _
    · simp at hr
  · simp at hr
end Go.Proofs.YtikhonogkpboaaaGreat
namespace Go.Proofs.YtikhonogkpboaaaGreat
open Go.AM
set_option maxHeartbeats 2000000
set_option maxRecDepth 20000
structure Hold (p : Prop) : Prop where
  out : p
theorem a_hold {P : Program} {ow : Nat → Bool} {wf : FuncId → Bool} {n : Nat} {Q : Post} {s : Slots} {h : Heap} (id : Nat) {ops : Array Oper} {d : Bool} {x y : Code} (hh : Hold (awp P ow wf n (.seq (.seq (.region id ops d) x) y) Q s h)) : awp P ow wf n (.seq (.seq (.region id ops d) x) y) Q s h := hh.out
theorem a_cut {P : Program} {ow : Nat → Bool} {wf : FuncId → Bool} {n : Nat} {Q : Post} {s : Slots} {h : Heap} {a b : Code} (I : Slots → Heap → Prop) (h1 : awp P ow wf n a (Post.seq I Q) s h) (h2 : ∀ s h, I s h → awp P ow wf n b Q s h) : awp P ow wf n (.seq a b) Q s h := by
  simp only [awp]
  refine awp_mono a (fun e s h hh => ?_) h1
  cases e <;> simp only [Post.seq] at hh ⊢
  · exact h2 _ _ hh
  all_goals exact hh
end Go.Proofs.YtikhonogkpboaaaGreat
namespace Go.Proofs.YtikhonogkpboaaaGreat
open Go.AM
set_option maxHeartbeats 4000000
set_option maxRecDepth 20000
def argSumA (n : Int) : List At → Int
  | [] => n
  | a :: l => argSumA (IntKind.i64.wrap (n + a.args.length)) l
def argSumV (n : Int) : List Vl → Int
  | [] => n
  | v :: l => argSumV (IntKind.i64.wrap (n + v.at_.args.length)) l
def largeP (p : Pb) : Bool := decide (argSumV (argSumA (IntKind.i64.wrap (IntKind.i64.wrap ((p.objects.length : Int) + p.init.length) + p.values.length)) p.init) p.values > 1000) || decide (p.goal.size > 2000)
theorem plarge_c (p : Pb) (hp : p.okS) (h : Heap) : PCall Tryz.prog 19 [.agg p.cells] h fun r h' => r = .sc (.bool (largeP p)) ∧ h' = h := by
  obtain ⟨ho, ⟨hi, hia⟩, ⟨hv, hva⟩, hg⟩ := hp
  obtain ⟨name, domain, objects, init, values, goal⟩ := p
  simp only at ho hi hia hv hva hg
  have hz := rsize_c goal hg
  unfold largeP
  simp only
  generalize goal.size = gs at hz ⊢
  clear hg
  obtain ⟨gop, gname, gargs, gparams, gexprs, gkids⟩ := goal
  have hlo := pmRows_len objects
  have hli := atRows_len init
  have hlv := vlRows_len values
  unfold bigN at ho hi hv
  simp only [Fm.cells] at hz
  generalize hN0 : IntKind.i64.wrap (IntKind.i64.wrap ((objects.length : Int) + init.length) + values.length) = n0
  generalize hNA : argSumA n0 init = nA
  generalize hNV : argSumV nA values = nV
  have hC : ∀ r, r = (Pb.mk name domain objects init values (.mk gop gname gargs gparams gexprs gkids)).cells → r = [sPV name, sPV domain, .imm 2 (pmRows objects), .imm 2 (atRows init), .imm 3 (vlRows values), sPV gop, sPV gname, .imm 1 (strRows gargs), .imm 2 (pmRows gparams), .imm 5 (Ex.rows gexprs), .imm 6 (Fm.rows gkids)] := fun r e => e
  have hC2 := hC _ rfl
  rw [hC2]
  refine pcall_body (ow := fun _ => false) (wf := fun _ => false) Ty.mixed Tryz.func19 rfl Ty.hb_19 (by rw [Tryz.ntmps19]; simp) ?_
  rw [Tryz.ntmps19, Tryz.results19]
  repeat' (first | (with_reducible refine a_hold 2 ?_) | (refine a_seq (fun K hK => ?_)) | (refine a_block ?_) | ((first | refine a_regionS ?_ | refine a_region (fun K hK => ?_) | refine a_ret ?_); simp (maxSteps := 2000000) only [Ty.w, simprocAttr, hlo, hli, hlv, hN0]) | ((first | refine a_skip ?_ | refine a_exit ?_); (try simp only [pst0, simprocAttr])) | (refine a_cond _ (by (try simp (maxSteps := 2000000) only [Ty.w, simprocAttr, hlo, hli, hlv, hN0]); rfl) (fun hb => ?_) (fun hb => ?_) <;> (try simp only [hb0, decide_eq_true_eq, decide_eq_false_iff_not, simprocAttr] at hb) <;> (try (exfalso; omega))) | (with_reducible refine ite_in (fun hb => ?_) (fun hb => ?_) <;> (try simp only [Decidable.not_not] at hb) <;> (try simp only [hb, if_true, if_false, not_false_eq_true, not_true_eq_false, ↓reduceIte]) <;> (try simp only [hb0, decide_eq_true_eq, decide_eq_false_iff_not, simprocAttr] at hb) <;> (try (exfalso; omega))) | ((first | refine hK _ _ ?_ | (clear hK; refine hK _ _ ?_) | (clear hK; clear hK; refine hK _ _ ?_) | (clear hK; clear hK; clear hK; refine hK _ _ ?_)); clear hK; (try simp only [pst0, simprocAttr])) | (rw [if_pos]; rotate_left 1; omega; simp (maxSteps := 2000000) only [Ty.w, simprocAttr, hlo, hli, hlv, hN0]))
  refine ⟨?_⟩
  refine a_cut (fun S h' => h' = h ∧ S 1 = .cptr (Pb.mk name domain objects init values (.mk gop gname gargs gparams gexprs gkids)).cells ∧ S 3 = .sc (.int .i64 nA)) ?_ ?_
  · rw [hC2]
    repeat' (first | (refine a_seq (fun K hK => ?_)) | (refine a_block ?_) | ((first | refine a_regionS ?_ | refine a_region (fun K hK => ?_) | refine a_ret ?_); simp (maxSteps := 2000000) only [Ty.w, simprocAttr]) | ((first | refine a_skip ?_ | refine a_exit ?_); (try simp only [pst0, simprocAttr])) | (refine a_cond _ (by (try simp (maxSteps := 2000000) only [Ty.w, simprocAttr]); rfl) (fun hb => ?_) (fun hb => ?_) <;> (try simp only [hb0, decide_eq_true_eq, decide_eq_false_iff_not, simprocAttr] at hb) <;> (try (exfalso; omega))) | (with_reducible refine ite_in (fun hb => ?_) (fun hb => ?_) <;> (try simp only [Decidable.not_not] at hb) <;> (try simp only [hb, if_true, if_false, not_false_eq_true, not_true_eq_false, ↓reduceIte]) <;> (try simp only [hb0, decide_eq_true_eq, decide_eq_false_iff_not, simprocAttr] at hb) <;> (try (exfalso; omega))) | ((first | refine hK _ _ ?_ | (clear hK; refine hK _ _ ?_) | (clear hK; clear hK; refine hK _ _ ?_) | (clear hK; clear hK; clear hK; refine hK _ _ ?_)); clear hK; (try simp only [pst0, simprocAttr])) | (rw [if_pos]; rotate_left 1; omega; simp (maxSteps := 2000000) only [Ty.w, simprocAttr]))
    refine a_loop (fun c S h' => h' = h ∧ S 1 = .cptr (Pb.mk name domain objects init values (.mk gop gname gargs gparams gexprs gkids)).cells ∧ ∃ (k : Nat) (n : Int), S 4 = .sc (.int .i64 k) ∧ S 3 = .sc (.int .i64 n) ∧ k ≤ init.length ∧ c = init.length - k ∧ nA = argSumA n (init.drop k)) init.length ?_ ?_
    · simp only [Ty.w, simprocAttr, hC2]
      exact ⟨0, n0, rfl, rfl, by omega, rfl, by rw [← hNA]; try rfl⟩
    · rintro c S h' ⟨rfl, g1, k, n, g4, g3, hk, rfl, hinv⟩
      rw [hC2] at g1
      by_cases hlt : k < init.length
      · have hd : decide ((k : Int) < (init.length : Int)) = true := by simp; omega
        have w7 : IntKind.i64.wrap ((k : Int) + 1) = k + 1 := by rw [wrap64 (by omega) (by omega)]
        obtain ⟨a, hx⟩ : ∃ a, init[k]? = some a := ⟨_, List.getElem?_eq_getElem hlt⟩
        have hr := atRows_get hx
        have hls := strRows_len a.args
        rw [drop_of_get hx] at hinv
        simp only [argSumA] at hinv
        repeat' (first | (refine a_seq (fun K hK => ?_)) | (refine a_block ?_) | ((first | refine a_regionS ?_ | refine a_region (fun K hK => ?_) | refine a_ret ?_); simp (maxSteps := 2000000) only [Ty.w, simprocAttr, g1, g3, g4, hli, hd, hr, hls, w7]) | ((first | refine a_skip ?_ | refine a_exit ?_); (try simp only [pst0, simprocAttr])) | (refine a_cond _ (by (try simp (maxSteps := 2000000) only [Ty.w, simprocAttr, g1, g3, g4, hli, hd, hr, hls, w7]); rfl) (fun hb => ?_) (fun hb => ?_) <;> (try simp only [hb0, decide_eq_true_eq, decide_eq_false_iff_not, simprocAttr] at hb) <;> (try (exfalso; omega))) | (with_reducible refine ite_in (fun hb => ?_) (fun hb => ?_) <;> (try simp only [Decidable.not_not] at hb) <;> (try simp only [hb, if_true, if_false, not_false_eq_true, not_true_eq_false, ↓reduceIte]) <;> (try simp only [hb0, decide_eq_true_eq, decide_eq_false_iff_not, simprocAttr] at hb) <;> (try (exfalso; omega))) | ((first | refine hK _ _ ?_ | (clear hK; refine hK _ _ ?_) | (clear hK; clear hK; refine hK _ _ ?_) | (clear hK; clear hK; clear hK; refine hK _ _ ?_)); clear hK; (try simp only [pst0, simprocAttr])) | (rw [if_pos]; rotate_left 1; omega; simp (maxSteps := 2000000) only [Ty.w, simprocAttr, g1, g3, g4, hli, hd, hr, hls, w7]))
        exact ⟨init.length - (k + 1), by omega, by rw [hC2], k + 1, _, by simp, rfl, by omega, rfl, hinv⟩
      · have hd : decide ((k : Int) < (init.length : Int)) = false := by simp; omega
        rw [List.drop_eq_nil_of_le (by omega)] at hinv
        simp only [argSumA] at hinv
        repeat' (first | (refine a_seq (fun K hK => ?_)) | (refine a_block ?_) | ((first | refine a_regionS ?_ | refine a_region (fun K hK => ?_) | refine a_ret ?_); simp (maxSteps := 2000000) only [Ty.w, simprocAttr, g1, g3, g4, hli, hd]) | ((first | refine a_skip ?_ | refine a_exit ?_); (try simp only [pst0, simprocAttr])) | (refine a_cond _ (by (try simp (maxSteps := 2000000) only [Ty.w, simprocAttr, g1, g3, g4, hli, hd]); rfl) (fun hb => ?_) (fun hb => ?_) <;> (try simp only [hb0, decide_eq_true_eq, decide_eq_false_iff_not, simprocAttr] at hb) <;> (try (exfalso; omega))) | (with_reducible refine ite_in (fun hb => ?_) (fun hb => ?_) <;> (try simp only [Decidable.not_not] at hb) <;> (try simp only [hb, if_true, if_false, not_false_eq_true, not_true_eq_false, ↓reduceIte]) <;> (try simp only [hb0, decide_eq_true_eq, decide_eq_false_iff_not, simprocAttr] at hb) <;> (try (exfalso; omega))) | ((first | refine hK _ _ ?_ | (clear hK; refine hK _ _ ?_) | (clear hK; clear hK; refine hK _ _ ?_) | (clear hK; clear hK; clear hK; refine hK _ _ ?_)); clear hK; (try simp only [pst0, simprocAttr])) | (rw [if_pos]; rotate_left 1; omega; simp (maxSteps := 2000000) only [Ty.w, simprocAttr, g1, g3, g4, hli, hd]))
        simp only [Ty.w, simprocAttr, g1, g3, hinv, hC2]
  · rintro S h' ⟨rfl, g1, g3⟩
    rw [hC2] at g1
    clear hNA hN0
    repeat' (first | (with_reducible refine a_hold 6 ?_) | (refine a_seq (fun K hK => ?_)) | (refine a_block ?_) | ((first | refine a_regionS ?_ | refine a_region (fun K hK => ?_) | refine a_ret ?_); simp (maxSteps := 2000000) only [Ty.w, simprocAttr, g1, g3]) | ((first | refine a_skip ?_ | refine a_exit ?_); (try simp only [pst0, simprocAttr])) | (refine a_cond _ (by (try simp (maxSteps := 2000000) only [Ty.w, simprocAttr, g1, g3]); rfl) (fun hb => ?_) (fun hb => ?_) <;> (try simp only [hb0, decide_eq_true_eq, decide_eq_false_iff_not, simprocAttr] at hb) <;> (try (exfalso; omega))) | (with_reducible refine ite_in (fun hb => ?_) (fun hb => ?_) <;> (try simp only [Decidable.not_not] at hb) <;> (try simp only [hb, if_true, if_false, not_false_eq_true, not_true_eq_false, ↓reduceIte]) <;> (try simp only [hb0, decide_eq_true_eq, decide_eq_false_iff_not, simprocAttr] at hb) <;> (try (exfalso; omega))) | ((first | refine hK _ _ ?_ | (clear hK; refine hK _ _ ?_) | (clear hK; clear hK; refine hK _ _ ?_) | (clear hK; clear hK; clear hK; refine hK _ _ ?_)); clear hK; (try simp only [pst0, simprocAttr])) | (rw [if_pos]; rotate_left 1; omega; simp (maxSteps := 2000000) only [Ty.w, simprocAttr, g1, g3]))
    refine ⟨?_⟩
    refine a_cut (fun S h2 => h2 = h' ∧ S 1 = .cptr (Pb.mk name domain objects init values (.mk gop gname gargs gparams gexprs gkids)).cells ∧ S 3 = .sc (.int .i64 nV)) ?_ ?_
    · rw [hC2]
      repeat' (first | (refine a_seq (fun K hK => ?_)) | (refine a_block ?_) | ((first | refine a_regionS ?_ | refine a_region (fun K hK => ?_) | refine a_ret ?_); simp (maxSteps := 2000000) only [Ty.w, simprocAttr, g1, g3]) | ((first | refine a_skip ?_ | refine a_exit ?_); (try simp only [pst0, simprocAttr])) | (refine a_cond _ (by (try simp (maxSteps := 2000000) only [Ty.w, simprocAttr, g1, g3]); rfl) (fun hb => ?_) (fun hb => ?_) <;> (try simp only [hb0, decide_eq_true_eq, decide_eq_false_iff_not, simprocAttr] at hb) <;> (try (exfalso; omega))) | (with_reducible refine ite_in (fun hb => ?_) (fun hb => ?_) <;> (try simp only [Decidable.not_not] at hb) <;> (try simp only [hb, if_true, if_false, not_false_eq_true, not_true_eq_false, ↓reduceIte]) <;> (try simp only [hb0, decide_eq_true_eq, decide_eq_false_iff_not, simprocAttr] at hb) <;> (try (exfalso; omega))) | ((first | refine hK _ _ ?_ | (clear hK; refine hK _ _ ?_) | (clear hK; clear hK; refine hK _ _ ?_) | (clear hK; clear hK; clear hK; refine hK _ _ ?_)); clear hK; (try simp only [pst0, simprocAttr])) | (rw [if_pos]; rotate_left 1; omega; simp (maxSteps := 2000000) only [Ty.w, simprocAttr, g1, g3]))
      refine a_loop (fun c S h2 => h2 = h' ∧ S 1 = .cptr (Pb.mk name domain objects init values (.mk gop gname gargs gparams gexprs gkids)).cells ∧ ∃ (k : Nat) (n : Int), S 5 = .sc (.int .i64 k) ∧ S 3 = .sc (.int .i64 n) ∧ k ≤ values.length ∧ c = values.length - k ∧ nV = argSumV n (values.drop k)) values.length ?_ ?_
      · simp only [Ty.w, simprocAttr, g1, g3, hC2]
        exact ⟨0, nA, rfl, rfl, by omega, rfl, by rw [← hNV]; try rfl⟩
      · clear g1 g3
        rintro c S h2 ⟨rfl, g1, k, n, g5, g3, hk, rfl, hinv⟩
        rw [hC2] at g1
        by_cases hlt : k < values.length
        · have hd : decide ((k : Int) < (values.length : Int)) = true := by simp; omega
          have w7 : IntKind.i64.wrap ((k : Int) + 1) = k + 1 := by rw [wrap64 (by omega) (by omega)]
          obtain ⟨a, hx⟩ : ∃ a, values[k]? = some a := ⟨_, List.getElem?_eq_getElem hlt⟩
          have hr := vlRows_get hx
          have hls := strRows_len a.at_.args
          rw [drop_of_get hx] at hinv
          simp only [argSumV] at hinv
          repeat' (first | (refine a_seq (fun K hK => ?_)) | (refine a_block ?_) | ((first | refine a_regionS ?_ | refine a_region (fun K hK => ?_) | refine a_ret ?_); simp (maxSteps := 2000000) only [Ty.w, simprocAttr, g1, g3, g5, hlv, hd, hr, hls, w7]) | ((first | refine a_skip ?_ | refine a_exit ?_); (try simp only [pst0, simprocAttr])) | (refine a_cond _ (by (try simp (maxSteps := 2000000) only [Ty.w, simprocAttr, g1, g3, g5, hlv, hd, hr, hls, w7]); rfl) (fun hb => ?_) (fun hb => ?_) <;> (try simp only [hb0, decide_eq_true_eq, decide_eq_false_iff_not, simprocAttr] at hb) <;> (try (exfalso; omega))) | (with_reducible refine ite_in (fun hb => ?_) (fun hb => ?_) <;> (try simp only [Decidable.not_not] at hb) <;> (try simp only [hb, if_true, if_false, not_false_eq_true, not_true_eq_false, ↓reduceIte]) <;> (try simp only [hb0, decide_eq_true_eq, decide_eq_false_iff_not, simprocAttr] at hb) <;> (try (exfalso; omega))) | ((first | refine hK _ _ ?_ | (clear hK; refine hK _ _ ?_) | (clear hK; clear hK; refine hK _ _ ?_) | (clear hK; clear hK; clear hK; refine hK _ _ ?_)); clear hK; (try simp only [pst0, simprocAttr])) | (rw [if_pos]; rotate_left 1; omega; simp (maxSteps := 2000000) only [Ty.w, simprocAttr, g1, g3, g5, hlv, hd, hr, hls, w7]))
          exact ⟨values.length - (k + 1), by omega, by rw [hC2], k + 1, _, by simp, rfl, by omega, rfl, hinv⟩
        · have hd : decide ((k : Int) < (values.length : Int)) = false := by simp; omega
          rw [List.drop_eq_nil_of_le (by omega)] at hinv
          simp only [argSumV] at hinv
          repeat' (first | (refine a_seq (fun K hK => ?_)) | (refine a_block ?_) | ((first | refine a_regionS ?_ | refine a_region (fun K hK => ?_) | refine a_ret ?_); simp (maxSteps := 2000000) only [Ty.w, simprocAttr, g1, g3, g5, hlv, hd]) | ((first | refine a_skip ?_ | refine a_exit ?_); (try simp only [pst0, simprocAttr])) | (refine a_cond _ (by (try simp (maxSteps := 2000000) only [Ty.w, simprocAttr, g1, g3, g5, hlv, hd]); rfl) (fun hb => ?_) (fun hb => ?_) <;> (try simp only [hb0, decide_eq_true_eq, decide_eq_false_iff_not, simprocAttr] at hb) <;> (try (exfalso; omega))) | (with_reducible refine ite_in (fun hb => ?_) (fun hb => ?_) <;> (try simp only [Decidable.not_not] at hb) <;> (try simp only [hb, if_true, if_false, not_false_eq_true, not_true_eq_false, ↓reduceIte]) <;> (try simp only [hb0, decide_eq_true_eq, decide_eq_false_iff_not, simprocAttr] at hb) <;> (try (exfalso; omega))) | ((first | refine hK _ _ ?_ | (clear hK; refine hK _ _ ?_) | (clear hK; clear hK; refine hK _ _ ?_) | (clear hK; clear hK; clear hK; refine hK _ _ ?_)); clear hK; (try simp only [pst0, simprocAttr])) | (rw [if_pos]; rotate_left 1; omega; simp (maxSteps := 2000000) only [Ty.w, simprocAttr, g1, g3, g5, hlv, hd]))
          simp only [Ty.w, simprocAttr, g1, g3, hinv, hC2]
    · clear g1 g3
      rintro S h2 ⟨rfl, g1, g3⟩
      rw [hC2] at g1
      cases l1 : decide (nV > 1000) with
      | true =>
        repeat' (first | (refine a_seq (fun K hK => ?_)) | (refine a_block ?_) | ((first | refine a_regionS ?_ | refine a_region (fun K hK => ?_) | refine a_ret ?_); simp (maxSteps := 2000000) only [Ty.w, simprocAttr, g1, g3, l1]) | ((first | refine a_skip ?_ | refine a_exit ?_); (try simp only [pst0, simprocAttr])) | (refine a_cond _ (by (try simp (maxSteps := 2000000) only [Ty.w, simprocAttr, g1, g3, l1]); rfl) (fun hb => ?_) (fun hb => ?_) <;> (try simp only [hb0, decide_eq_true_eq, decide_eq_false_iff_not, simprocAttr] at hb) <;> (try (exfalso; omega))) | (with_reducible refine ite_in (fun hb => ?_) (fun hb => ?_) <;> (try simp only [Decidable.not_not] at hb) <;> (try simp only [hb, if_true, if_false, not_false_eq_true, not_true_eq_false, ↓reduceIte]) <;> (try simp only [hb0, decide_eq_true_eq, decide_eq_false_iff_not, simprocAttr] at hb) <;> (try (exfalso; omega))) | ((first | refine hK _ _ ?_ | (clear hK; refine hK _ _ ?_) | (clear hK; clear hK; refine hK _ _ ?_) | (clear hK; clear hK; clear hK; refine hK _ _ ?_)); clear hK; (try simp only [pst0, simprocAttr])) | (rw [if_pos]; rotate_left 1; omega; simp (maxSteps := 2000000) only [Ty.w, simprocAttr, g1, g3, l1]))
        all_goals simp only [Bool.true_or]
      | false =>
        repeat' (first | (refine a_seq (fun K hK => ?_)) | (refine a_block ?_) | ((first | refine a_regionS ?_ | refine a_region (fun K hK => ?_) | refine a_ret ?_); simp (maxSteps := 2000000) only [Ty.w, simprocAttr, g1, g3, l1]) | ((first | refine a_skip ?_ | refine a_exit ?_); (try simp only [pst0, simprocAttr])) | (refine a_cond _ (by (try simp (maxSteps := 2000000) only [Ty.w, simprocAttr, g1, g3, l1]); rfl) (fun hb => ?_) (fun hb => ?_) <;> (try simp only [hb0, decide_eq_true_eq, decide_eq_false_iff_not, simprocAttr] at hb) <;> (try (exfalso; omega))) | (with_reducible refine ite_in (fun hb => ?_) (fun hb => ?_) <;> (try simp only [Decidable.not_not] at hb) <;> (try simp only [hb, if_true, if_false, not_false_eq_true, not_true_eq_false, ↓reduceIte]) <;> (try simp only [hb0, decide_eq_true_eq, decide_eq_false_iff_not, simprocAttr] at hb) <;> (try (exfalso; omega))) | ((first | refine hK _ _ ?_ | (clear hK; refine hK _ _ ?_) | (clear hK; clear hK; refine hK _ _ ?_) | (clear hK; clear hK; clear hK; refine hK _ _ ?_)); clear hK; (try simp only [pst0, simprocAttr])) | (rw [if_pos]; rotate_left 1; omega; simp (maxSteps := 2000000) only [Ty.w, simprocAttr, g1, g3, l1]))
        refine owp_useQ (hz _) (by (try simp only [Ty.w, simprocAttr, g1, g3, l1]); try rfl) ?_; simp (maxSteps := 2000000) only [Ty.w, simprocAttr, g1, g3, l1]
        repeat' (first | (refine a_seq (fun K hK => ?_)) | (refine a_block ?_) | ((first | refine a_regionS ?_ | refine a_region (fun K hK => ?_) | refine a_ret ?_); simp (maxSteps := 2000000) only [Ty.w, simprocAttr, g1, g3, l1]) | ((first | refine a_skip ?_ | refine a_exit ?_); (try simp only [pst0, simprocAttr])) | (refine a_cond _ (by (try simp (maxSteps := 2000000) only [Ty.w, simprocAttr, g1, g3, l1]); rfl) (fun hb => ?_) (fun hb => ?_) <;> (try simp only [hb0, decide_eq_true_eq, decide_eq_false_iff_not, simprocAttr] at hb) <;> (try (exfalso; omega))) | (with_reducible refine ite_in (fun hb => ?_) (fun hb => ?_) <;> (try simp only [Decidable.not_not] at hb) <;> (try simp only [hb, if_true, if_false, not_false_eq_true, not_true_eq_false, ↓reduceIte]) <;> (try simp only [hb0, decide_eq_true_eq, decide_eq_false_iff_not, simprocAttr] at hb) <;> (try (exfalso; omega))) | ((first | refine hK _ _ ?_ | (clear hK; refine hK _ _ ?_) | (clear hK; clear hK; refine hK _ _ ?_) | (clear hK; clear hK; clear hK; refine hK _ _ ?_)); clear hK; (try simp only [pst0, simprocAttr])) | (rw [if_pos]; rotate_left 1; omega; simp (maxSteps := 2000000) only [Ty.w, simprocAttr, g1, g3, l1]))
        all_goals simp only [Bool.false_or]
end Go.Proofs.YtikhonogkpboaaaGreat
namespace Go.AM
def mnO : Option Nat → Option Nat → Option Nat
  | none, b => b
  | some a, none => some a
  | some a, some b => if a ≤ b then some a else some b
/-- what is touched: nothing, or objects from m on alone -/
def Tch (q : Option Nat) (h h' : Heap) : Prop := match q with
  | none => h' = h
  | some m => h.next ≤ h'.next ∧ ∀ id, id < m → h'.obj id = h.obj id
theorem Tch.trans {q q' : Option Nat} {h h1 h' : Heap} (a : Tch q h h1) (b : Tch q' h1 h') : Tch (mnO q q') h h' := by
  cases q with
  | none => simp only [Tch] at a; subst a; simpa only [mnO] using b
  | some m =>
    cases q' with
    | none => simp only [Tch] at b; subst b; simpa only [mnO] using a
    | some m' =>
      simp only [Tch] at a b
      simp only [mnO]
      split <;> simp only [Tch] <;> refine ⟨by omega, fun id hid => ?_⟩
      · rw [b.2 id (by omega), a.2 id hid]
      · rw [b.2 id hid, a.2 id (by omega)]
def ptrOf : PV → Nat
  | .ptr id _ _ => id
  | _ => 0
def mapOf : PV → Nat
  | .mp id => id
  | _ => 0
def ownOf (n : Nat) : PV → Nat
  | .own id _ _ => if id ≤ n then id else n
  | _ => n
/-- the lowest object that an operation changes or makes -/
def tchO (op : Op) (ρ : Operand → PV) (h : Heap) : Nat := match op with
  | .store _ a _ => ptrOf (ρ a)
  | .mapUpdate _ x _ _ => mapOf (ρ x)
  | .call { callee := .builtin .append, args := args, .. } => (match args.toList with
    | x :: _ => ownOf h.next (ρ x)
    | [] => 0)
  | _ => h.next
theorem tch_new {h : Heap} {o : AObj} : Tch (some h.next) h (h.new o) := by
  simp only [Tch, new_next]
  exact ⟨by omega, fun id hid => by rw [new_obj, if_neg (by omega)]⟩
theorem tch_set {h : Heap} {i : Nat} {o : AObj} : Tch (some i) h (h.set i o) := by
  simp only [Tch, set_next]
  exact ⟨by omega, fun id hid => by rw [set_obj, if_neg (by omega)]⟩
theorem tch_id {h : Heap} {m : Nat} : Tch (some m) h h := ⟨Nat.le_refl _, fun _ _ => rfl⟩
theorem app_tch {z bytes : Nat} {h h' : Heap} {x y v : PV} (ha : app z bytes h x y = some (v, h')) : Tch (some (ownOf h.next x)) h h' := by
  unfold app at ha
  split at ha
  case isFalse => simp at ha
  split at ha
  case h_2 => simp at ha
  rename_i nw h1 old hv ht
  split at ha
  case isFalse => simp at ha
  simp only [Option.some.injEq, Prod.mk.injEq] at ha
  obtain ⟨_, rfl⟩ := ha
  unfold isTail at ht
  split at ht
  · simp only [Option.some.injEq, Prod.mk.injEq] at ht; obtain ⟨rfl, rfl⟩ := ht; exact tch_new
  · simp only [Option.some.injEq, Prod.mk.injEq] at ht; obtain ⟨rfl, rfl⟩ := ht; exact tch_new
  · split at ht
    case h_2 => simp at ht
    split at ht
    case isFalse => simp at ht
    simp only [Option.some.injEq, Prod.mk.injEq] at ht; obtain ⟨rfl, rfl⟩ := ht
    simp only [Tch, new_next, kill_next, ownOf]
    refine ⟨by omega, fun id hid => ?_⟩
    rw [new_obj, kill_next]
    split at hid
    · rw [if_neg (by omega), kill_obj, if_neg (by omega)]
    · rw [if_neg (by omega), kill_obj, if_neg (by omega)]
  · simp at ht
theorem wr_tch {h h' : Heap} {vc : List PV} {p : PV} (hw : wr h vc p = some h') : Tch (some (ptrOf p)) h h' := by
  cases p with
  | ptr id i f =>
    simp only [wr] at hw
    split at hw
    · split at hw
      · split at hw
        · simp at hw; subst hw; exact tch_set
        · simp at hw
      · simp at hw
    · simp at hw
  | _ => simp [wr] at hw
theorem eff_tch {P : Program} {ow : Bool} {op : Op} {ρ : Operand → PV} {h h' : Heap} {v : PV} (he : eff P ow op ρ h = some (v, h')) : Tch (some (tchO op ρ h)) h h' := by
  unfold eff at he
  split at he
  all_goals (repeat' (split at he))
  all_goals first
    | (simp [Option.bind_eq_some_iff, Option.map_eq_some_iff] at he; done)
    | (simp only [Option.some.injEq, Prod.mk.injEq] at he; obtain ⟨_, rfl⟩ := he; exact tch_id)
    | (simp only [Option.some.injEq, Prod.mk.injEq] at he; obtain ⟨_, rfl⟩ := he; exact tch_new)
    | (simp only [Option.map_eq_some_iff, Prod.mk.injEq] at he; obtain ⟨_, _, _, rfl⟩ := he; exact tch_id)
    | (simp [Option.bind_eq_some_iff, Option.map_eq_some_iff] at he; grind [tch_id, tch_new, tch_set])
    | (simp only [Option.bind_eq_some_iff] at he
       obtain ⟨_, _, he⟩ := he
       (first
         | (split at he
            · simp only [Option.some.injEq, Prod.mk.injEq] at he; obtain ⟨_, rfl⟩ := he; exact tch_new
            · simp at he)
         | (obtain ⟨_, _, he⟩ := he
            split at he
            · simp only [Option.bind_eq_some_iff] at he
              obtain ⟨_, _, he⟩ := he
              simp only [Option.some.injEq, Prod.mk.injEq] at he; obtain ⟨_, rfl⟩ := he; exact tch_new
            · simp at he)
         | (obtain ⟨_, _, _, _, _, _, he⟩ := he
            split at he
            · simp only [Option.some.injEq, Prod.mk.injEq] at he; obtain ⟨_, rfl⟩ := he; exact tch_new
            · simp at he)
         | (split at he
            · simp only [Option.map_eq_some_iff, Prod.mk.injEq] at he
              obtain ⟨_, hw, _, rfl⟩ := he
              exact wr_tch hw
            · simp at he)))
    | skip
  · rename_i hid _ _ _ _
    simp only [Option.bind_eq_some_iff] at he
    obtain ⟨_, _, he⟩ := he
    split at he
    · simp only [Option.map_eq_some_iff, Prod.mk.injEq] at he
      obtain ⟨es', _, _, rfl⟩ := he
      simp only [tchO]
      simp only [*, mapOf]
      exact tch_set
    · simp at he
  · rename_i hl htu
    simp only [Option.bind_eq_some_iff] at he
    obtain ⟨_, _, he⟩ := he
    have := app_tch he
    simp only [tchO]
    simp only [*]
mutual
def inNb (n : Nat) : PV → Bool
  | .sc _ => true
  | .ptr id _ _ => decide (id < n)
  | .cptr cs => inNLb n cs
  | .own id _ _ => decide (id < n)
  | .imm _ rows => inNRb n rows
  | .emp => true
  | .mp id => decide (id < n)
  | .agg cs => inNLb n cs
  | .tup cs => inNLb n cs
  | .fn _ a b => inNLb n a && inNLb n b
  | .ab _ _ _ _ _ => true
def inNLb (n : Nat) : List PV → Bool
  | [] => true
  | p :: ps => inNb n p && inNLb n ps
def inNRb (n : Nat) : List (List PV) → Bool
  | [] => true
  | r :: rs => inNLb n r && inNRb n rs
end
mutual
theorem inNb_ok {n : Nat} : (p : PV) → inNb n p = true → inN n p
  | .sc _, _ => by simp only [inN]
  | .ptr _ _ _, h => by simp only [inNb, decide_eq_true_eq] at h; simpa only [inN] using h
  | .cptr cs, h => by simp only [inNb] at h; simp only [inN]; exact inNLb_ok cs h
  | .own _ _ _, h => by simp only [inNb, decide_eq_true_eq] at h; simpa only [inN] using h
  | .imm _ rows, h => by simp only [inNb] at h; simp only [inN]; exact inNRb_ok rows h
  | .emp, _ => by simp only [inN]
  | .mp _, h => by simp only [inNb, decide_eq_true_eq] at h; simpa only [inN] using h
  | .agg cs, h => by simp only [inNb] at h; simp only [inN]; exact inNLb_ok cs h
  | .tup cs, h => by simp only [inNb] at h; simp only [inN]; exact inNLb_ok cs h
  | .fn _ a b, h => by simp only [inNb, Bool.and_eq_true] at h; simp only [inN]; exact ⟨inNLb_ok a h.1, inNLb_ok b h.2⟩
  | .ab _ _ _ _ _, _ => by simp only [inN]
theorem inNLb_ok {n : Nat} : (l : List PV) → inNLb n l = true → inNL n l
  | [], _ => by simp only [inNL]
  | p :: ps, h => by simp only [inNLb, Bool.and_eq_true] at h; simp only [inNL]; exact ⟨inNb_ok p h.1, inNLb_ok ps h.2⟩
theorem inNRb_ok {n : Nat} : (l : List (List PV)) → inNRb n l = true → inNR n l
  | [], _ => by simp only [inNR]
  | p :: ps, h => by simp only [inNRb, Bool.and_eq_true] at h; simp only [inNR]; exact ⟨inNLb_ok p h.1, inNRb_ok ps h.2⟩
end
mutual
def frzP (h' : Heap) (n : Nat) : Nat → PV → Option PV
  | 0, _ => none
  | k + 1, p => match p with
    | .sc v => some (.sc v)
    | .ptr id i f => if id < n then some (.ptr id i f) else match h'.obj id with
      | some (.arr _ rows) => (match rows[i]? with
        | some q => (frzL h' n k (q.drop f)).map .cptr
        | none => none)
      | _ => none
    | .own id off len => if id < n then some (.own id off len) else match h'.obj id with
      | some (.arr z rows) => if off + len ≤ rows.length then (frzR h' n k ((rows.drop off).take len)).map (.imm z) else none
      | _ => none
    | .imm z rows => if inNRb n rows = true then some (.imm z rows) else none
    | .cptr cs => if inNLb n cs = true then some (.cptr cs) else none
    | .emp => some .emp
    | .mp id => if id < n then some (.mp id) else none
    | .agg cs => (frzL h' n k cs).map .agg
    | .tup cs => (frzL h' n k cs).map .tup
    | .fn f a b => if (inNLb n a && inNLb n b) = true then some (.fn f a b) else none
    | .ab k lo hi m r => some (.ab k lo hi m r)
def frzL (h' : Heap) (n : Nat) : Nat → List PV → Option (List PV)
  | 0, _ => none
  | _ + 1, [] => some []
  | k + 1, p :: ps => match frzP h' n k p with
    | some q => (frzL h' n k ps).map (q :: ·)
    | none => none
def frzR (h' : Heap) (n : Nat) : Nat → List (List PV) → Option (List (List PV))
  | 0, _ => none
  | _ + 1, [] => some []
  | k + 1, p :: ps => match frzL h' n k p with
    | some q => (frzR h' n k ps).map (q :: ·)
    | none => none
end
mutual
theorem frzP_ok {h' : Heap} {n : Nat} : ∀ (k : Nat) (p : PV) {r : PV}, frzP h' n k p = some r → FrzTo n h' r p
  | 0, _, _, h => by simp [frzP] at h
  | k + 1, p, r, h => by
    unfold frzP at h
    split at h
    · simp at h; subst h; simp only [FrzTo]
    · split at h
      · rename_i hid; simp at h; subst h; simp only [FrzTo]; exact ⟨trivial, hid⟩
      · rename_i id i f hid
        split at h
        · rename_i z rows hob
          split at h
          · rename_i q hq
            simp only [Option.map_eq_some_iff] at h
            obtain ⟨cs, hc, rfl⟩ := h
            simp only [FrzTo]
            exact .inr ⟨id, i, f, z, rows, q, rfl, by omega, hob, hq, frzL_ok k _ hc⟩
          · simp at h
        · simp at h
    · split at h
      · rename_i hid; simp at h; subst h; simp only [FrzTo]; exact ⟨trivial, hid⟩
      · rename_i id off len hid
        split at h
        · rename_i z rows hob
          split at h
          · rename_i hle
            simp only [Option.map_eq_some_iff] at h
            obtain ⟨rs, hc, rfl⟩ := h
            simp only [FrzTo]
            exact .inr (.inr ⟨id, off, len, rows, rfl, by omega, hob, hle, frzR_ok k _ hc⟩)
          · simp at h
        · simp at h
    · split at h
      · rename_i hi; simp at h; subst h; simp only [FrzTo]; exact .inl ⟨trivial, inNRb_ok _ hi⟩
      · simp at h
    · split at h
      · rename_i hi; simp at h; subst h; simp only [FrzTo]; exact .inl ⟨trivial, inNLb_ok _ hi⟩
      · simp at h
    · simp at h; subst h; simp only [FrzTo]
    · split at h
      · rename_i hid; simp at h; subst h; simp only [FrzTo]; exact ⟨trivial, hid⟩
      · simp at h
    · simp only [Option.map_eq_some_iff] at h
      obtain ⟨cs, hc, rfl⟩ := h
      simp only [FrzTo]
      exact ⟨_, rfl, frzL_ok k _ hc⟩
    · simp only [Option.map_eq_some_iff] at h
      obtain ⟨cs, hc, rfl⟩ := h
      simp only [FrzTo]
      exact ⟨_, rfl, frzL_ok k _ hc⟩
    · split at h
      · rename_i hi
        simp only [Bool.and_eq_true] at hi
        simp at h; subst h; simp only [FrzTo]; exact ⟨trivial, inNLb_ok _ hi.1, inNLb_ok _ hi.2⟩
      · simp at h
    · simp at h; subst h; simp only [FrzTo]
theorem frzL_ok {h' : Heap} {n : Nat} : ∀ (k : Nat) (l : List PV) {r : List PV}, frzL h' n k l = some r → FrzL n h' r l
  | 0, _, _, h => by simp [frzL] at h
  | k + 1, [], r, h => by simp [frzL] at h; subst h; simp only [FrzL]
  | k + 1, p :: ps, r, h => by
    unfold frzL at h
    split at h
    · rename_i q hq
      simp only [Option.map_eq_some_iff] at h
      obtain ⟨qs, hc, rfl⟩ := h
      simp only [FrzL]
      exact ⟨frzP_ok k p hq, frzL_ok k ps hc⟩
    · simp at h
theorem frzR_ok {h' : Heap} {n : Nat} : ∀ (k : Nat) (l : List (List PV)) {r : List (List PV)}, frzR h' n k l = some r → FrzR n h' r l
  | 0, _, _, h => by simp [frzR] at h
  | k + 1, [], r, h => by simp [frzR] at h; subst h; simp only [FrzR]
  | k + 1, p :: ps, r, h => by
    unfold frzR at h
    split at h
    · rename_i q hq
      simp only [Option.map_eq_some_iff] at h
      obtain ⟨qs, hc, rfl⟩ := h
      simp only [FrzR]
      exact ⟨frzL_ok k p hq, frzR_ok k ps hc⟩
    · simp at h
end
def dropB (q : Option Nat) (n : Nat) : Bool := match q with
  | none => true
  | some t => decide (n ≤ t)
def endS : Option (Exit × Slots × Option Nat × Heap) → Option (Slots × Option Nat × Heap)
  | some (.normal, r) => some r
  | some (.ret, r) => some r
  | _ => none
theorem endS_some {x : Option (Exit × Slots × Option Nat × Heap)} {r : Slots × Option Nat × Heap} (h : endS x = some r) : ∃ e, (e = .normal ∨ e = .ret) ∧ x = some (e, r) := by
  unfold endS at h
  split at h
  · simp at h; subst h; exact ⟨_, .inl rfl, rfl⟩
  · simp at h; subst h; exact ⟨_, .inr rfl, rfl⟩
  · simp at h
abbrev CallR2 := FuncId → List PV → Heap → Option (PV × Option Nat × Heap)
section
variable (P : Program) (wf : FuncId → Bool) (own : FuncId → Nat → Bool) (ext : FuncId → List PV → Heap → Option PV)
def xop2 (call : CallR2) (ow : Nat → Bool) (o : Oper) (ρ : Operand → PV) (h : Heap) : Option (PV × Option Nat × Heap) :=
  match callee ρ o.op with
  | some (f, args) => call f args h
  | none => match eff P (o.dst.any ow) o.op ρ h with
    | some (v, h') => some (v, (if isW ow wf o = true then some (tchO o.op ρ h) else none), h')
    | none => none
/-- does an operation give v in another heap, and leave it? -/
def xagain2 (call : CallR2) (ow : Nat → Bool) (o : Oper) (ρ : Operand → PV) (h : Heap) (v : PV) : Bool :=
  match xop2 P wf call ow o ρ h with
  | some (v', q, _) => q.isNone && pvEq v' v
  | none => false
def xl2 (call : CallR2) (ow : Nat → Bool) (n : Nat) (ops : List Oper) : List Oper → Slots → Option Nat → Heap → Option (Slots × Option Nat × Heap)
  | [], s, q, h => some (s, q, h)
  | o :: rest, s, q, h => if o.dst.all (fun d => decide (d < n)) = true then
      match wantedB ops s o with
      | none => none
      | some false => xl2 call ow n ops rest (updO s o.dst (.sc undef)) q h
      | some true => match xop2 P wf call ow o (pev s) h with
        | some (v, q', h') => xl2 call ow n ops rest (updO s o.dst v) (mnO q q') h'
        | none => none
    else none
def xopR (call : CallR2) (ow : Nat → Bool) (id : Nat) (o : Oper) (ρ : Operand → PV) (h : Heap) : Option (PV × Option Nat × Heap) :=
  match o.op with
  | .alloc t => match zeroT P t with
    | some zs => if 0 < zs.length then some (.ptr id 0 0, some id, h.set id (.arr zs.length [zs.map .sc])) else none
    | none => none
  | _ => xop2 P wf call ow o ρ h
def xd2 (call : CallR2) (ow : Nat → Bool) (n : Nat) (ops : List Oper) : Nat → List Oper → List (Nat × Oper × Slots × PV) → List (Nat × Heap) → Slots → Option Nat → Heap → Option (Slots × Option Nat × Heap)
  | _, [], _, _, s, q, h => some (s, q, h)
  | k, o :: rest, past, hist, s, q, h => if o.dst.all (fun d => decide (d < n)) = true then
      match wantedB ops s o with
      | none => none
      | some false => xd2 call ow n ops (k + 1) rest past hist (updO s o.dst (.sc undef)) q h
      | some true => match xop2 P wf call ow o (pev s) h with
        | none => none
        | some (v, q', h') =>
          if isW ow wf o = true then
            (if past.all (fun x => pre ops x.1 k || xagain2 P wf call ow x.2.1 (pev x.2.2.1) h' x.2.2.2) = true then xd2 call ow n ops (k + 1) rest past ((k, h) :: hist) (updO s o.dst v) (mnO q q') h' else none)
          else if q'.isNone = true then
            (if hist.all (fun x => pre ops x.1 k || xagain2 P wf call ow o (pev s) x.2 v) = true then xd2 call ow n ops (k + 1) rest ((k, o, s, v) :: past) hist (updO s o.dst v) q h else none)
          else none
    else none
def xd3 (call : CallR2) (ow : Nat → Bool) (n : Nat) (ops : List Oper) (base : Nat) : Nat → List Oper → List (Nat × Oper × Slots × PV) → List (Nat × Heap) → Slots → Option Nat → Heap → Option (Slots × Option Nat × Heap)
  | _, [], _, _, s, q, h => some (s, q, h)
  | k, o :: rest, past, hist, s, q, h => if o.dst.all (fun d => decide (d < n)) = true then
      match wantedB ops s o with
      | none => none
      | some false => xd3 call ow n ops base (k + 1) rest past hist (updO s o.dst (.sc undef)) q h
      | some true => match xopR P wf call ow (base + k) o (pev s) h with
        | none => none
        | some (v, q', h') =>
          if isW ow wf o = true then
            (if (past.all (fun x => pre ops x.1 k || xagain2 P wf call ow x.2.1 (pev x.2.2.1) h' x.2.2.2) && ((List.range ops.length).all fun f => !(decide (k < f) && alB ops f) || (h'.obj (base + f)).isNone)) = true then xd3 call ow n ops base (k + 1) rest past ((k, h) :: hist) (updO s o.dst v) (mnO q q') h' else none)
          else if q'.isNone = true then
            (if hist.all (fun x => pre ops x.1 k || xagain2 P wf call ow o (pev s) x.2 v) = true then xd3 call ow n ops base (k + 1) rest ((k, o, s, v) :: past) hist (updO s o.dst v) q h else none)
          else none
    else none
structure Rc where
  s : Slots
  h : Heap
  v : PV
  l : Option (Nat × AObj)
  b : Bool
def unoB (ops : List Oper) (x f : Nat) : Bool := !(x == f) && !(pre ops x f) && !(pre ops f x)
def laterA (ow : Nat → Bool) (ops : List Oper) (k : Nat) : List Nat := (List.range ops.length).filter fun f => decide (k < f) && (ops[f]?).any (isA ow)
def killsAt (ow : Nat → Bool) (ops : List Oper) (base k : Nat) (ls : List (Nat × Nat)) : List Nat := (ls.filterMap fun p => if unoB ops k p.1 = true then some p.2 else none) ++ (laterA ow ops k).map (base + ·)
def x4 (call : CallR2) (ow : Nat → Bool) (ops : List Oper) (base k : Nat) (ls : List (Nat × Nat)) (o : Oper) (s : Slots) (h : Heap) : Option (PV × Option Nat × Heap × Option (Nat × AObj) × Bool) :=
  if isW ow wf o = true then
    (if isA ow o = true then (match aop P ow (base + k) o (pev s) with
      | some (v, ob) => some (v, some (base + k), h.set (base + k) ob, some (base + k, ob), false)
      | none => none)
    else match o.op with
      | .store t x y => (match pev s x with
        | .ptr id _ _ => (match eff P (o.dst.any ow) (.store t x y) (pev s) h with
          | some (v, h') => (match h'.obj id with
            | some ob => some (v, some id, h.set id ob, some (id, ob), false)
            | none => none)
          | none => none)
        | _ => none)
      | _ => (match xop2 P wf call ow o (pev s) (killL h (killsAt ow ops base k ls)) with
        | some (v, q, h') => if ((killsAt ow ops base k ls).all (fun id => (h'.obj id).isNone) && (laterA ow ops k).all (fun f => (h.obj (base + f)).isNone)) = true then some (v, q, putL h' h (killsAt ow ops base k ls), none, true) else none
        | none => none))
  else match xop2 P wf call ow o (pev s) (killL h (killsAt ow ops base k ls)) with
    | some (v, q, _) => if q.isNone = true then some (v, none, h, none, false) else none
    | none => none
def addL (k : Nat) (l : Option (Nat × AObj)) (ls : List (Nat × Nat)) : List (Nat × Nat) := match l with
  | some p => (k, p.1) :: ls
  | none => ls
def xr4 (call : CallR2) (ow : Nat → Bool) (n : Nat) (ops : List Oper) (base : Nat) : Nat → List Oper → List (Nat × Nat) → Slots → Option Nat → Heap → Option (List Rc × Slots × Option Nat × Heap)
  | _, [], _, s, q, h => some ([], s, q, h)
  | k, o :: rest, ls, s, q, h => if o.dst.all (fun d => decide (d < n)) = true then
      match wantedB ops s o with
      | none => none
      | some false => (xr4 call ow n ops base (k + 1) rest ls (updO s o.dst (.sc undef)) q h).map fun r => (⟨s, h, .emp, none, false⟩ :: r.1, r.2)
      | some true => match x4 P wf call ow ops base k ls o s h with
        | none => none
        | some (v, q', h', l, b) => (xr4 call ow n ops base (k + 1) rest (addL k l ls) (updO s o.dst v) (mnO q q') h').map fun r => (⟨s, h, v, l, b⟩ :: r.1, r.2)
    else none
def gS (rs : List Rc) (sf : Slots) (j : Nat) : Slots := match rs[j]? with | some r => r.s | none => sf
def gH (rs : List Rc) (hf : Heap) (j : Nat) : Heap := match rs[j]? with | some r => r.h | none => hf
def gV (rs : List Rc) (j : Nat) : PV := match rs[j]? with | some r => r.v | none => .emp
def gL (rs : List Rc) (j : Nat) : Option (Nat × AObj) := match rs[j]? with | some r => r.l | none => none
def gB (rs : List Rc) (j : Nat) : Bool := match rs[j]? with | some r => r.b | none => false
def rng (n : Nat) (p : Nat → Bool) : Bool := (List.range n).all p
def wwB (ow : Nat → Bool) (ops : List Oper) (lt : Nat → Option (Nat × AObj)) (br : Nat → Bool) : Bool :=
  rng ops.length fun j => !(br j || (lt j).isSome) || rng j fun i => !(br i || (lt i).isSome) || pre ops i j || (match lt i, lt j with | some p, some q => !(p.1 == q.1) | _, _ => false) || (br i && (lt j).isSome && (ops[j]?).any (isA ow)) || ((lt i).isSome && br j && (ops[i]?).any (isA ow))
def lateB (ow : Nat → Bool) (ops : List Oper) (base : Nat) (hk : Nat → Heap) (lt : Nat → Option (Nat × AObj)) (br : Nat → Bool) : Bool :=
  rng ops.length fun j => (!(br j || (lt j).isSome)) || rng ops.length fun f => !(decide (j < f) && (ops[f]?).any (isA ow)) || (if br j = true then ((hk (j + 1)).obj (base + f)).isNone else match lt j with | some p => !(base + f == p.1) | none => true)
def isSt (o : Oper) : Bool := match o.op with
  | .store _ _ _ => true
  | _ => false
def lastBr (br : Nat → Bool) (k : Nat) : Nat := lastOf br k
def cutB (ops : List Oper) (br : Nat → Bool) (x M : Nat) : Bool := (M == 0 || br (M - 1)) && rng ops.length fun b => !(br b) || (if b < M then !(pre ops x b) else !(pre ops b x))
/-- no later store may come before k -/
def noSt (ops : List Oper) (k : Nat) : Bool := rng ops.length fun f => !(decide (k < f) && (ops[f]?).any isSt && unoB ops k f)
def quietB (call : CallR2) (ow : Nat → Bool) (ops : List Oper) (sk : Nat → Slots) (hk : Nat → Heap) (vk : Nat → PV) (lt : Nat → Option (Nat × AObj)) (br : Nat → Bool) : Bool :=
  rng ops.length fun k => match ops[k]? with
    | none => true
    | some o => isW ow wf o || (match wantedB ops (sk k) o with
      | some true => rng (ops.length + 1) fun M => !(cutB ops br k M) || ((M == lastBr br k) && noSt ops k) || xagain2 P wf call ow o (pev (sk k)) (gx ops lt hk k M (kx ow ops lt k)) (vk k)
      | _ => true)
def xd4 (call : CallR2) (ow : Nat → Bool) (n : Nat) (ops : List Oper) (base : Nat) (s : Slots) (q : Option Nat) (h : Heap) : Option (Slots × Option Nat × Heap) :=
  match xr4 P wf call ow n ops base 0 ops [] s q h with
  | none => none
  | some (rs, sf, qf, hf) => if (wwB ow ops (gL rs) (gB rs) && lateB ow ops base (gH rs hf) (gL rs) (gB rs) && quietB P wf call ow ops (gS rs sf) (gH rs hf) (gV rs) (gL rs) (gB rs)) = true then some (sf, qf, hf) else none
def xc2 (call : CallR2) (ow : Nat → Bool) (n : Nat) : Nat → Code → Slots → Option Nat → Heap → Option (Exit × Slots × Option Nat × Heap)
  | 0, _, _, _, _ => none
  | k + 1, c, s, q, h => match c with
    | .skip => some (.normal, s, q, h)
    | .region _ ops true => if dOk ow wf ops.toList = true then (xd2 P wf call ow n ops.toList 0 ops.toList [] [] s q h).map (Exit.normal, ·)
        else if dOk2 ow wf ops.toList = true then (xd3 P wf call ow n ops.toList h.next 0 ops.toList [] [] s (mnO q (some h.next)) ⟨h.next + ops.toList.length, h.obj⟩).map (Exit.normal, ·)
        else if dOk3 ops.toList = true then (xd4 P wf call ow n ops.toList h.next s (mnO q (some h.next)) ⟨h.next + ops.toList.length, h.obj⟩).map (Exit.normal, ·) else none
    | .region _ ops false => (xl2 P wf call ow n ops.toList ops.toList s q h).map (Exit.normal, ·)
    | .seq a b => match xc2 call ow n k a s q h with
      | some (.normal, s', q', h') => xc2 call ow n k b s' q' h'
      | r => r
    | .cond c x y => match pev s c with
      | .sc (.bool true) => xc2 call ow n k x s q h
      | .sc (.bool false) => xc2 call ow n k y s q h
      | _ => none
    | .block id c => match xc2 call ow n k c s q h with
      | some (.exit id', s', q', h') => some (if id' = id then .normal else .exit id', s', q', h')
      | r => r
    | .loop c => match xc2 call ow n k c s q h with
      | some (.normal, s', q', h') => xc2 call ow n k (.loop c) s' q' h'
      | r => r
    | .exit id => some (.exit id, s, q, h)
    | .ret => some (.ret, s, q, h)
    | _ => none
/-- what a call gives; what is touched: none, the heap is as it was. Objects that came meanwhile are forgotten, unless keep says otherwise or an older object was changed -/
def xf2 (keep : FuncId → Bool) (m : Nat) : Nat → CallR2
  | 0, _, _, _ => none
  | k + 1, f, args, h => match ext f args h with
   | some r => some (r, none, h)
   | none => match P.funcs[f]? with
    | none => none
    | some fn => if hasBody P f = true ∧ args.length ≤ fn.ntmps then match fn.body with
        | none => none
        | some c => match endS (xc2 P wf (xf2 keep m k) (own f) fn.ntmps m c (slots0 args) none h) with
          | some (s, q, h') => match resAll P s h' fn.results.toList with
            | none => none
            | some vs => if (!(keep f) && dropB q h.next) = true then (match frzP h' h.next 1000 (resV vs) with
                | some r => some (r, none, h)
                | none => some (resV vs, q, h')) else some (resV vs, q, h')
          | none => none
      else none
end
section
variable {P : Program} {wf : FuncId → Bool} {own : FuncId → Nat → Bool}
/-- what is taken from contracts that are proved: of calls that leave the heap -/
def ExtOk2 (P : Program) (ext : FuncId → List PV → Heap → Option PV) : Prop := ∀ f args r h, ext f args h = some r → PCall P f args h (fun r' h' => r' = r ∧ h' = h)
def CallOk2 (P : Program) (call : CallR2) : Prop := ∀ f args h v q h', call f args h = some (v, q, h') → PCall P f args h (fun r h'' => r = v ∧ h'' = h') ∧ Tch q h h'
theorem xop_ok2 {call : CallR2} (hk : CallOk2 P call) {ow : Nat → Bool} {o : Oper} {ρ : Operand → PV} {h h' : Heap} {v : PV} {q : Option Nat} (hx : xop2 P wf call ow o ρ h = some (v, q, h')) : Does P ow o ρ h v h' ∧ Tch q h h' := by
  unfold xop2 at hx
  unfold Does
  split at hx
  · rename_i f args hc
    rw [hc]
    exact hk _ _ _ _ _ _ hx
  · rename_i hc
    rw [hc]
    split at hx
    · rename_i v1 h1 he
      simp only [Option.some.injEq, Prod.mk.injEq] at hx
      obtain ⟨rfl, rfl, rfl⟩ := hx
      refine ⟨he, ?_⟩
      split
      · exact eff_tch he
      · rename_i hw; exact eff_same (by simpa using hw) hc he
    · simp at hx
theorem xagain_ok2 {call : CallR2} (hk : CallOk2 P call) {ow : Nat → Bool} {o : Oper} {ρ : Operand → PV} {h : Heap} {v : PV} (hx : xagain2 P wf call ow o ρ h v = true) : Does P ow o ρ h v h := by
  unfold xagain2 at hx
  split at hx
  · rename_i v' q h' hp
    simp only [Bool.and_eq_true, Option.isNone_iff_eq_none] at hx
    obtain ⟨rfl, hx⟩ := hx
    obtain ⟨h1, h2⟩ := xop_ok2 hk hp
    simp only [Tch] at h2
    rw [h2, pvEq_eq _ _ hx] at h1
    exact h1
  · simp at hx
theorem xl_ok2 {call : CallR2} (hk : CallOk2 P call) {ow : Nat → Bool} {n : Nat} {ops : List Oper} {K : Slots → Heap → Prop} : ∀ (l : List Oper) {s s' : Slots} {q q' : Option Nat} {h h' : Heap}, xl2 P wf call ow n ops l s q h = some (s', q', h') →
    (K s' h' → lwp P ow n ops l K s h) ∧ (∀ h0, Tch q h0 h → Tch q' h0 h')
  | [], s, s', q, q', h, h', hx => by
    simp only [xl2, Option.some.injEq, Prod.mk.injEq] at hx
    obtain ⟨rfl, rfl, rfl⟩ := hx
    exact ⟨fun hK => hK, fun h0 hq => hq⟩
  | o :: rest, s, s', q, q', h, h', hx => by
    unfold xl2 at hx
    split at hx
    · rename_i hd
      unfold lwp
      split at hx
      · simp at hx
      · rename_i hw
        obtain ⟨h1, h2⟩ := xl_ok2 hk rest hx
        rw [hw]
        exact ⟨fun hK => ⟨hd, by simpa using h1 hK⟩, h2⟩
      · rename_i hw
        split at hx
        · rename_i v q1 h1 hp
          obtain ⟨d1, d2⟩ := xop_ok2 hk hp
          obtain ⟨g1, g2⟩ := xl_ok2 hk rest hx
          rw [hw]
          exact ⟨fun hK => ⟨hd, by simpa using d1.owp (g1 hK)⟩, fun h0 hq => g2 h0 (hq.trans d2)⟩
        · simp at hx
    · simp at hx
theorem xd_ok2 {call : CallR2} (hk : CallOk2 P call) {ow : Nat → Bool} {n : Nat} {ops : List Oper} {K : Slots → Heap → Prop} : ∀ (l : List Oper) (k : Nat) {past : List (Nat × Oper × Slots × PV)} {hist : List (Nat × Heap)} {s s' : Slots} {q q' : Option Nat} {h h' : Heap}, xd2 P wf call ow n ops k l past hist s q h = some (s', q', h') →
    (K s' h' → drun P ow wf n ops k l (past.map fun x => (x.1, fun h2 => Does P ow x.2.1 (pev x.2.2.1) h2 x.2.2.2 h2)) hist K s h) ∧ (∀ h0, Tch q h0 h → Tch q' h0 h')
  | [], k, past, hist, s, s', q, q', h, h', hx => by
    simp only [xd2, Option.some.injEq, Prod.mk.injEq] at hx
    obtain ⟨rfl, rfl, rfl⟩ := hx
    exact ⟨fun hK => hK, fun h0 hq => hq⟩
  | o :: rest, k, past, hist, s, s', q, q', h, h', hx => by
    unfold xd2 at hx
    split at hx
    · rename_i hd
      unfold drun
      split at hx
      · simp at hx
      · rename_i hw
        obtain ⟨h1, h2⟩ := xd_ok2 hk rest (k + 1) hx
        rw [hw]
        exact ⟨fun hK => ⟨hd, by simpa using h1 hK⟩, h2⟩
      · rename_i hw
        split at hx
        · simp at hx
        · rename_i v q1 h1 hp
          obtain ⟨d1, d2⟩ := xop_ok2 hk hp
          rw [hw]
          split at hx
          · rename_i hiw
            split at hx
            · rename_i hpast
              obtain ⟨g1, g2⟩ := xd_ok2 hk rest (k + 1) hx
              refine ⟨fun hK => ⟨hd, ?_⟩, fun h0 hq => g2 h0 (hq.trans d2)⟩
              · simp only [hiw, if_true]
                refine ⟨v, h1, d1, ?_, g1 hK⟩
                intro x hx1
                obtain ⟨y, hy, rfl⟩ := List.mem_map.1 hx1
                have := List.all_eq_true.1 hpast y hy
                simp only [Bool.or_eq_true] at this
                exact this.imp id (fun t => xagain_ok2 hk t)
            · simp at hx
          · rename_i hiw
            split at hx
            · rename_i hq1
              split at hx
              · rename_i hhist
                obtain ⟨g1, g2⟩ := xd_ok2 hk rest (k + 1) hx
                refine ⟨fun hK => ⟨hd, ?_⟩, g2⟩
                simp only [hiw, if_true, Bool.false_eq_true, if_false]
                have e1 : h1 = h := by rw [Option.isNone_iff_eq_none] at hq1; subst hq1; exact d2
                subst e1
                refine ⟨v, d1, ?_, g1 hK⟩
                intro x hx1
                have := List.all_eq_true.1 hhist x hx1
                simp only [Bool.or_eq_true] at this
                exact this.imp id (fun t => xagain_ok2 hk t)
              · simp at hx
            · simp at hx
    · simp at hx
theorem xopR_ok {call : CallR2} (hk : CallOk2 P call) {ow : Nat → Bool} {id : Nat} {o : Oper} {ρ : Operand → PV} {h h' : Heap} {v : PV} {q : Option Nat} (hx : xopR P wf call ow id o ρ h = some (v, q, h')) : DoesR P ow id o ρ h v h' ∧ Tch q h h' := by
  unfold xopR at hx
  unfold DoesR
  split at hx
  · rename_i t hop
    simp only [hop]
    split at hx
    · rename_i zs hz
      split at hx
      · rename_i hpos
        simp only [Option.some.injEq, Prod.mk.injEq] at hx
        obtain ⟨rfl, rfl, rfl⟩ := hx
        exact ⟨⟨zs, hz, hpos, rfl, rfl⟩, tch_set⟩
      · simp at hx
    · simp at hx
  · rename_i hop
    obtain ⟨d1, d2⟩ := xop_ok2 hk hx
    refine ⟨?_, d2⟩
    split
    · rename_i t he; exact (hop t he).elim
    · exact d1
theorem xd_ok3 {call : CallR2} (hk : CallOk2 P call) {ow : Nat → Bool} {n base : Nat} {ops : List Oper} {K : Slots → Heap → Prop} : ∀ (l : List Oper) (k : Nat) {past : List (Nat × Oper × Slots × PV)} {hist : List (Nat × Heap)} {s s' : Slots} {q q' : Option Nat} {h h' : Heap}, xd3 P wf call ow n ops base k l past hist s q h = some (s', q', h') →
    (K s' h' → drun2 P ow wf n ops base k l (past.map fun x => (x.1, fun h2 => Does P ow x.2.1 (pev x.2.2.1) h2 x.2.2.2 h2)) hist K s h) ∧ (∀ h0, Tch q h0 h → Tch q' h0 h')
  | [], k, past, hist, s, s', q, q', h, h', hx => by
    simp only [xd3, Option.some.injEq, Prod.mk.injEq] at hx
    obtain ⟨rfl, rfl, rfl⟩ := hx
    exact ⟨fun hK => hK, fun h0 hq => hq⟩
  | o :: rest, k, past, hist, s, s', q, q', h, h', hx => by
    unfold xd3 at hx
    split at hx
    · rename_i hd
      unfold drun2
      split at hx
      · simp at hx
      · rename_i hw
        obtain ⟨h1, h2⟩ := xd_ok3 hk rest (k + 1) hx
        rw [hw]
        exact ⟨fun hK => ⟨hd, by simpa using h1 hK⟩, h2⟩
      · rename_i hw
        split at hx
        · simp at hx
        · rename_i v q1 h1 hp
          obtain ⟨d1, d2⟩ := xopR_ok hk hp
          rw [hw]
          split at hx
          · rename_i hiw
            split at hx
            · rename_i hpn
              simp only [Bool.and_eq_true] at hpn
              obtain ⟨hpast, hnone⟩ := hpn
              obtain ⟨g1, g2⟩ := xd_ok3 hk rest (k + 1) hx
              refine ⟨fun hK => ⟨hd, ?_⟩, fun h0 hq => g2 h0 (hq.trans d2)⟩
              · simp only [hiw, if_true]
                refine ⟨v, h1, d1, fun f hf ha => ?_, ?_, g1 hK⟩
                · have hfl : f < ops.length := by
                    unfold alB at ha
                    split at ha
                    · rename_i hq; exact (List.getElem?_eq_some_iff.1 hq).1
                    · simp at ha
                  have := List.all_eq_true.1 hnone f (List.mem_range.2 hfl)
                  simpa [hf, ha] using this
                intro x hx1
                obtain ⟨y, hy, rfl⟩ := List.mem_map.1 hx1
                have := List.all_eq_true.1 hpast y hy
                simp only [Bool.or_eq_true] at this
                exact this.imp id (fun t => xagain_ok2 hk t)
            · simp at hx
          · rename_i hiw
            split at hx
            · rename_i hq1
              split at hx
              · rename_i hhist
                obtain ⟨g1, g2⟩ := xd_ok3 hk rest (k + 1) hx
                refine ⟨fun hK => ⟨hd, ?_⟩, g2⟩
                simp only [hiw, if_true, Bool.false_eq_true, if_false]
                have e1 : h1 = h := by rw [Option.isNone_iff_eq_none] at hq1; subst hq1; exact d2
                subst e1
                refine ⟨v, (doesR_of (by simpa using hiw)).1 d1, ?_, g1 hK⟩
                intro x hx1
                have := List.all_eq_true.1 hhist x hx1
                simp only [Bool.or_eq_true] at this
                exact this.imp id (fun t => xagain_ok2 hk t)
              · simp at hx
            · simp at hx
    · simp at hx
theorem rng_iff {n : Nat} {p : Nat → Bool} : rng n p = true ↔ ∀ i, i < n → p i = true := by simp [rng]
/-- what the run notes of an operation -/
structure S4 (P : Program) (ow : Nat → Bool) (wf : FuncId → Bool) (n : Nat) (ops : List Oper) (base : Nat) (k : Nat) (o : Oper) (s s' : Slots) (h h' : Heap) (v : PV) (l : Option (Nat × AObj)) (b : Bool) (ls : List (Nat × Nat)) : Prop where
  dst : o.dst.all (fun d => decide (d < n)) = true
  ok : ∃ w, wantedB ops s o = some w ∧ (w = false → s' = updO s o.dst (.sc undef) ∧ h' = h ∧ l = none ∧ b = false) ∧
    (w = true → s' = updO s o.dst v ∧
      (isW ow wf o = false → h' = h ∧ l = none ∧ b = false ∧ Does P ow o (pev s) (killL h (killsAt ow ops base k ls)) v (killL h (killsAt ow ops base k ls))) ∧
      (isW ow wf o = true →
        (b = true ∧ l = none ∧ ∃ H', Does P ow o (pev s) (killL h (killsAt ow ops base k ls)) v H' ∧ (∀ id ∈ killsAt ow ops base k ls, H'.obj id = none) ∧ h' = putL H' h (killsAt ow ops base k ls) ∧ ∀ f ∈ laterA ow ops k, h.obj (base + f) = none) ∨
        (b = false ∧ isA ow o = true ∧ ∃ ob, l = some (base + k, ob) ∧ aop P ow (base + k) o (pev s) = some (v, ob) ∧ h' = h.set (base + k) ob) ∨
        (b = false ∧ ∃ t x y id r f ob, o.op = .store t x y ∧ pev s x = .ptr id r f ∧ l = some (id, ob) ∧ h' = h.set id ob ∧ eff P (o.dst.any ow) o.op (pev s) h = some (v, h'))))
theorem store_set {t : TypeId} {x y : Operand} {b : Bool} {ρ : Operand → PV} {H H' : Heap} {id r f : Nat} {ob : AObj} {v : PV} (hx : ρ x = .ptr id r f) (he : eff P b (.store t x y) ρ H = some (v, H')) (ho : H'.obj id = some ob) : H' = H.set id ob := by
  simp only [eff, Option.bind_eq_some_iff] at he
  obtain ⟨m, _, he⟩ := he
  split at he
  · simp only [Option.map_eq_some_iff, Prod.mk.injEq, hx, wr] at he
    obtain ⟨h2, hw, _, rfl⟩ := he
    split at hw
    · split at hw
      · split at hw
        · simp at hw
          subst hw
          simp [Heap.set] at ho
          rw [ho]
        · simp at hw
      · simp at hw
    · simp at hw
  · simp at he
theorem tch_put {q : Option Nat} {h H' : Heap} {l : List Nat} (hn : ∀ id ∈ l, H'.obj id = none) (ht : Tch q (killL h l) H') : Tch q h (putL H' h l) := by
  cases q with
  | none =>
    simp only [Tch] at ht ⊢
    subst ht
    exact putL_killL
  | some m =>
    simp only [Tch] at ht ⊢
    refine ⟨ht.1, fun id hid => ?_⟩
    have h2 := ht.2 id hid
    simp only [killL] at h2
    simp only [putL]
    by_cases hc : id ∈ l
    · have hc' : l.contains id = true := by simpa using hc
      cases ho : h.obj id with
      | none => simp [hn id hc]
      | some o => simp [hc]
    · have hc' : l.contains id = false := by simpa using hc
      rw [if_neg (by simp [hc])]
      rw [hc'] at h2
      simpa using h2
theorem x4_ok {call : CallR2} (hk : CallOk2 P call) {ow : Nat → Bool} {n : Nat} {ops : List Oper} {base k : Nat} {ls : List (Nat × Nat)} {o : Oper} {s : Slots} {h h' : Heap} {v : PV} {q : Option Nat} {l : Option (Nat × AObj)} {b : Bool} (hd : o.dst.all (fun d => decide (d < n)) = true) (hw : wantedB ops s o = some true) (hx : x4 P wf call ow ops base k ls o s h = some (v, q, h', l, b)) :
    S4 P ow wf n ops base k o s (updO s o.dst v) h h' v l b ls ∧ Tch q h h' := by
  unfold x4 at hx
  split at hx
  · rename_i hiw
    split at hx
    · rename_i hA
      split at hx
      · rename_i v1 ob ha
        simp only [Option.some.injEq, Prod.mk.injEq] at hx
        obtain ⟨rfl, rfl, rfl, rfl, rfl⟩ := hx
        exact ⟨⟨hd, true, hw, (fun hc => by cases hc), fun _ => ⟨rfl, (fun hc => by rw [hiw] at hc; cases hc), fun _ => .inr (.inl ⟨rfl, hA, ob, rfl, ha, rfl⟩)⟩⟩, tch_set⟩
      · simp at hx
    · split at hx
      · rename_i t x y hop
        split at hx
        · rename_i id r f hp
          split at hx
          · rename_i v1 h1 he
            split at hx
            · rename_i ob hob
              simp only [Option.some.injEq, Prod.mk.injEq] at hx
              obtain ⟨rfl, rfl, rfl, rfl, rfl⟩ := hx
              have hs := store_set hp he hob
              refine ⟨⟨hd, true, hw, (fun hc => by cases hc), fun _ => ⟨rfl, (fun hc => by rw [hiw] at hc; cases hc), fun _ => .inr (.inr ⟨rfl, t, x, y, id, r, f, ob, hop, hp, rfl, rfl, ?_⟩)⟩⟩, tch_set⟩
              rw [hop, he, hs]
            · simp at hx
          · simp at hx
        · simp at hx
      · split at hx
        · rename_i v1 q1 h1 hp
          split at hx
          · rename_i hno
            simp only [Bool.and_eq_true, List.all_eq_true, Option.isNone_iff_eq_none] at hno
            simp only [Option.some.injEq, Prod.mk.injEq] at hx
            obtain ⟨rfl, rfl, rfl, rfl, rfl⟩ := hx
            obtain ⟨d1, d2⟩ := xop_ok2 hk hp
            exact ⟨⟨hd, true, hw, (fun hc => by cases hc), fun _ => ⟨rfl, (fun hc => by rw [hiw] at hc; cases hc), fun _ => .inl ⟨rfl, rfl, h1, d1, hno.1, rfl, hno.2⟩⟩⟩, tch_put hno.1 d2⟩
          · simp at hx
        · simp at hx
  · rename_i hiw
    split at hx
    · rename_i v1 q1 h1 hp
      split at hx
      · rename_i hq
        simp only [Option.some.injEq, Prod.mk.injEq] at hx
        obtain ⟨rfl, rfl, rfl, rfl, rfl⟩ := hx
        obtain ⟨d1, d2⟩ := xop_ok2 hk hp
        rw [Option.isNone_iff_eq_none] at hq
        subst hq
        simp only [Tch] at d2
        subst d2
        exact ⟨⟨hd, true, hw, (fun hc => by cases hc), fun _ => ⟨rfl, fun _ => ⟨rfl, rfl, rfl, d1⟩, fun hc => by rw [hc] at hiw; simp at hiw⟩⟩, rfl⟩
      · simp at hx
    · simp at hx
/-- the changes noted before operation k + i -/
def lsAt (rs : List Rc) : Nat → List (Nat × Nat) → Nat → List (Nat × Nat)
  | _, ls, 0 => ls
  | k, ls, i + 1 => match rs with
    | r :: rs => lsAt rs (k + 1) (addL k r.l ls) i
    | [] => ls
theorem lsAt_mem : ∀ (rs : List Rc) (k : Nat) (ls : List (Nat × Nat)) (i f : Nat) (q : Nat × AObj), i ≤ rs.length → f < i → gL rs f = some q → (k + f, q.1) ∈ lsAt rs k ls i := by
  have keep : ∀ (rs : List Rc) (k : Nat) (ls : List (Nat × Nat)) (i : Nat) (x : Nat × Nat), x ∈ ls → x ∈ lsAt rs k ls i := by
    intro rs
    induction rs with
    | nil => intro k ls i x hx; cases i <;> simpa only [lsAt] using hx
    | cons r rs ih =>
      intro k ls i x hx
      cases i with
      | zero => simpa only [lsAt] using hx
      | succ i =>
        simp only [lsAt]
        refine ih _ _ _ _ ?_
        unfold addL
        split
        · simp [hx]
        · exact hx
  intro rs
  induction rs with
  | nil => intro k ls i f q h1 h2 _; simp at h1; omega
  | cons r rs ih =>
    intro k ls i f q h1 h2 h3
    cases i with
    | zero => omega
    | succ i =>
      simp only [lsAt]
      cases f with
      | zero =>
        refine keep _ _ _ _ _ ?_
        simp only [gL, List.getElem?_cons_zero] at h3
        unfold addL
        rw [h3]
        simp
      | succ f =>
        have := ih (k + 1) (addL k r.l ls) i f q (by simp at h1; omega) (by omega) (by simpa only [gL, List.getElem?_cons_succ] using h3)
        rw [show k + (f + 1) = k + 1 + f by omega]
        exact this
theorem lsAt_inv : ∀ (rs : List Rc) (k : Nat) (ls : List (Nat × Nat)) (i : Nat) (x : Nat × Nat), x ∈ lsAt rs k ls i → x ∈ ls ∨ ∃ f q, f < i ∧ gL rs f = some q ∧ x = (k + f, q.1)
  | rs, k, ls, 0, x, h => by
    unfold lsAt at h
    exact .inl h
  | [], k, ls, i + 1, x, h => by
    simp only [lsAt] at h
    exact .inl h
  | r :: rs, k, ls, i + 1, x, h => by
    simp only [lsAt] at h
    rcases lsAt_inv rs (k + 1) _ i x h with h1 | ⟨f, q, h1, h2, h3⟩
    · unfold addL at h1
      cases hl : r.l with
      | none => rw [hl] at h1; exact .inl h1
      | some p =>
        rw [hl] at h1
        simp only [List.mem_cons] at h1
        rcases h1 with h1 | h1
        · exact .inr ⟨0, p, by omega, by simp only [gL, List.getElem?_cons_zero]; exact hl, h1⟩
        · exact .inl h1
    · exact .inr ⟨f + 1, q, by omega, by simpa only [gL, List.getElem?_cons_succ] using h2, by rw [h3]; congr 1; omega⟩
theorem xr4_ok {call : CallR2} (hk : CallOk2 P call) {ow : Nat → Bool} {n : Nat} {ops : List Oper} {base : Nat} : ∀ (l : List Oper) (k : Nat) {ls : List (Nat × Nat)} {s sf : Slots} {q qf : Option Nat} {h hf : Heap} {rs : List Rc}, xr4 P wf call ow n ops base k l ls s q h = some (rs, sf, qf, hf) →
    rs.length = l.length ∧ gS rs sf 0 = s ∧ gH rs hf 0 = h ∧ (∀ h0, Tch q h0 h → Tch qf h0 hf) ∧
      ∀ i o, l[i]? = some o → S4 P ow wf n ops base (k + i) o (gS rs sf i) (gS rs sf (i + 1)) (gH rs hf i) (gH rs hf (i + 1)) (gV rs i) (gL rs i) (gB rs i) (lsAt rs k ls i)
  | [], k, ls, s, sf, q, qf, h, hf, rs, hx => by
    simp only [xr4, Option.some.injEq, Prod.mk.injEq] at hx
    obtain ⟨rfl, rfl, rfl, rfl⟩ := hx
    exact ⟨rfl, rfl, rfl, fun _ hq => hq, fun i o ho => by simp at ho⟩
  | o :: rest, k, ls, s, sf, q, qf, h, hf, rs, hx => by
    unfold xr4 at hx
    split at hx
    case isFalse => simp at hx
    rename_i hd
    have fin : ∀ (v : PV) (q' : Option Nat) (h' : Heap) (l : Option (Nat × AObj)) (b : Bool) (s' : Slots) (rs' : List Rc), rs = ⟨s, h, v, l, b⟩ :: rs' → xr4 P wf call ow n ops base (k + 1) rest (addL k l ls) s' (mnO q q') h' = some (rs', sf, qf, hf) → S4 P ow wf n ops base k o s s' h h' v l b ls → Tch q' h h' →
        rs.length = (o :: rest).length ∧ gS rs sf 0 = s ∧ gH rs hf 0 = h ∧ (∀ h0, Tch q h0 h → Tch qf h0 hf) ∧
          ∀ i o', (o :: rest)[i]? = some o' → S4 P ow wf n ops base (k + i) o' (gS rs sf i) (gS rs sf (i + 1)) (gH rs hf i) (gH rs hf (i + 1)) (gV rs i) (gL rs i) (gB rs i) (lsAt rs k ls i) := by
      intro v q' h' l b s' rs' hrs hrec hS ht
      obtain ⟨g1, g2, g3, g4, g5⟩ := xr4_ok hk rest (k + 1) hrec
      subst hrs
      refine ⟨by simp [g1], rfl, rfl, fun h0 hq => g4 h0 (hq.trans ht), fun i o' ho' => ?_⟩
      cases i with
      | zero =>
        simp at ho'
        subst ho'
        have e1 : gS (⟨s, h, v, l, b⟩ :: rs') sf (0 + 1) = s' := g2
        have e2 : gH (⟨s, h, v, l, b⟩ :: rs') hf (0 + 1) = h' := g3
        rw [e1, e2]
        exact hS
      | succ i =>
        have := g5 i o' (by simpa using ho')
        rw [show k + (i + 1) = k + 1 + i by omega]
        exact this
    split at hx
    · simp at hx
    · rename_i hw
      simp only [Option.map_eq_some_iff] at hx
      obtain ⟨⟨rs', sf', qf', hf'⟩, hrec, he⟩ := hx
      simp only [Prod.mk.injEq] at he
      obtain ⟨h1, rfl, rfl, rfl⟩ := he
      refine fin .emp none h none false _ rs' h1.symm (by
        have : mnO q none = q := by cases q <;> rfl
        rw [this]; exact hrec) ⟨hd, false, hw, (fun _ => ⟨rfl, rfl, rfl, rfl⟩), fun hc => by cases hc⟩ rfl
    · rename_i hw
      split at hx
      · simp at hx
      · rename_i v q' h' l b hx4
        simp only [Option.map_eq_some_iff] at hx
        obtain ⟨⟨rs', sf', qf', hf'⟩, hrec, he⟩ := hx
        simp only [Prod.mk.injEq] at he
        obtain ⟨h1, rfl, rfl, rfl⟩ := he
        obtain ⟨t1, t2⟩ := x4_ok hk hd hw hx4
        exact fin v q' h' l b _ rs' h1.symm hrec t1 t2
theorem xd4_ok {call : CallR2} (hk : CallOk2 P call) {ow : Nat → Bool} {n : Nat} {ops : List Oper} {s sf : Slots} {q qf : Option Nat} {h hf : Heap} (hpre : ∀ i j, j < ops.length → pre ops i j = true → i < j) (hx : xd4 P wf call ow n ops h.next s q ⟨h.next + ops.length, h.obj⟩ = some (sf, qf, hf)) :
    (∀ K : Slots → Heap → Prop, K sf hf → ∃ sk hk vk lt br, sk 0 = s ∧ hk 0 = ⟨h.next + ops.length, h.obj⟩ ∧ K (sk ops.length) (hk ops.length) ∧ Facts P ow wf n ops h.next sk hk vk lt br) ∧ (∀ h0, Tch q h0 ⟨h.next + ops.length, h.obj⟩ → Tch qf h0 hf) := by
  unfold xd4 at hx
  split at hx
  · simp at hx
  rename_i rs sf' qf' hf' hr
  split at hx
  case isFalse => simp at hx
  rename_i hc
  simp only [Option.some.injEq, Prod.mk.injEq] at hx
  obtain ⟨rfl, rfl, rfl⟩ := hx
  simp only [Bool.and_eq_true] at hc
  obtain ⟨⟨hww, hlate⟩, hquiet⟩ := hc
  obtain ⟨hlen, g2, g3, g4, g5⟩ := xr4_ok hk ops 0 hr
  refine ⟨fun K hK => ⟨gS rs sf', gH rs hf', gV rs, gL rs, gB rs, g2, g3, ?_, ?_⟩, g4⟩
  · have e1 : gS rs sf' ops.length = sf' := by unfold gS; rw [List.getElem?_eq_none (by omega)]
    have e2 : gH rs hf' ops.length = hf' := by unfold gH; rw [List.getElem?_eq_none (by omega)]
    rw [e1, e2]; exact hK
  · have late : ∀ j f o, j < ops.length → (gB rs j || (gL rs j).isSome) = true → j < f → ops[f]? = some o → isA ow o = true → (if gB rs j = true then ((gH rs hf' (j + 1)).obj (h.next + f)).isNone else match gL rs j with | some p => !(h.next + f == p.1) | none => true) = true := by
      intro j f o hj hb hjf ho ha
      have h1 := rng_iff.1 hlate j hj
      rw [hb] at h1
      simp only [Bool.not_true, Bool.false_or] at h1
      have h2 := rng_iff.1 h1 f (List.getElem?_eq_some_iff.1 ho).1
      have h3 : (decide (j < f) && (ops[f]?).any (isA ow)) = true := by rw [ho]; simp [hjf, ha]
      rw [h3] at h2
      simpa using h2
    have segA : ∀ (M d : Nat), M + d ≤ ops.length → (∀ j, M ≤ j → j < M + d → gB rs j = false) → gH rs hf' (M + d) = lob (gL rs) (fun f => decide (M ≤ f)) (gH rs hf' M) (M + d) := by
      intro M d
      induction d with
      | zero =>
        intro _ _
        have := lob_hi (lt := gL rs) (p := fun f => decide (M ≤ f)) (H := gH rs hf' M) (m := 0) M (fun f _ hf _ => by simp; omega)
        rw [Nat.zero_add] at this
        rw [Nat.add_zero, this]; try rfl
      | succ d ih =>
        intro h1 h2
        have ih := ih (by omega) (fun j a b => h2 j a (by omega))
        have hS := g5 (M + d) ops[M + d] (List.getElem?_eq_getElem (by omega))
        have hb := h2 (M + d) (by omega) (by omega)
        obtain ⟨w, _, k1, k2⟩ := hS.ok
        rw [show M + (d + 1) = M + d + 1 by omega, lob_succ]
        have key : gH rs hf' (M + d + 1) = match gL rs (M + d) with | some q => (gH rs hf' (M + d)).set q.1 q.2 | none => gH rs hf' (M + d) := by
          cases w with
          | false => rw [(k1 rfl).2.2.1]; exact (k1 rfl).2.1
          | true =>
            cases hiw : isW ow wf ops[M + d] with
            | false => rw [((k2 rfl).2.1 hiw).2.1]; exact ((k2 rfl).2.1 hiw).1
            | true =>
              rcases (k2 rfl).2.2 hiw with k3 | k3 | k3
              · rw [k3.1] at hb; simp at hb
              · obtain ⟨_, _, ob, k4, _, k5⟩ := k3
                rw [k4]; simpa using k5
              · obtain ⟨_, _, _, _, _, _, _, ob, _, _, k4, k5, _⟩ := k3
                rw [k4]; exact k5
        rw [key]
        cases hl : gL rs (M + d) with
        | none => simp only; exact ih
        | some q => simp only [show decide (M ≤ M + d) = true by simp, if_true]; rw [ih]
    have wwP : ∀ i j, i < j → j < ops.length → (gB rs i = true ∨ (gL rs i).isSome = true) → (gB rs j = true ∨ (gL rs j).isSome = true) →
        pre ops i j = true ∨ (∃ p q, gL rs i = some p ∧ gL rs j = some q ∧ p.1 ≠ q.1) ∨ (gB rs i = true ∧ (gL rs j).isSome = true ∧ ∃ o, ops[j]? = some o ∧ isA ow o = true) ∨ ((gL rs i).isSome = true ∧ gB rs j = true ∧ ∃ o, ops[i]? = some o ∧ isA ow o = true) := by
      intro i j hij hj hi hj2
      have h1 := rng_iff.1 hww j hj
      have hj3 : (gB rs j || (gL rs j).isSome) = true := by simpa using hj2
      have hi3 : (gB rs i || (gL rs i).isSome) = true := by simpa using hi
      rw [hj3] at h1
      simp only [Bool.not_true, Bool.false_or] at h1
      have h2 := rng_iff.1 h1 i hij
      rw [hi3] at h2
      simp only [Bool.not_true, Bool.false_or, Bool.or_eq_true] at h2
      rcases h2 with ((h2 | h2) | h2) | h2
      · exact .inl h2
      · right; left
        split at h2
        · rename_i p q e1 e2
          exact ⟨p, q, e1, e2, by simpa using h2⟩
        · simp at h2
      · simp only [Bool.and_eq_true] at h2
        refine .inr (.inr (.inl ⟨h2.1.1, h2.1.2, ops[j], List.getElem?_eq_getElem hj, ?_⟩))
        have := h2.2
        rw [List.getElem?_eq_getElem hj] at this
        simpa using this
      · simp only [Bool.and_eq_true] at h2
        refine .inr (.inr (.inr ⟨h2.1.1, h2.1.2, ops[i], List.getElem?_eq_getElem (by omega), ?_⟩))
        have := h2.2
        rw [List.getElem?_eq_getElem (by omega)] at this
        simpa using this
    have kxL : ∀ j, j < ops.length → (∀ f p, j < f → (hf : f < ops.length) → gL rs f = some p → isA ow ops[f] = false → pre ops j f = true) → ∀ id ∈ kx ow ops (gL rs) j, id ∈ killsAt ow ops h.next j (lsAt rs 0 [] j) := by
      intro j hjl hst id hid
      obtain ⟨f, p, m1, m2, m3, m4, m5, m6⟩ := kx_mem hid
      unfold killsAt
      rw [List.mem_append]
      rcases Nat.lt_trichotomy f j with m7 | m7 | m7
      · left
        rw [List.mem_filterMap]
        have := lsAt_mem rs 0 [] j f p (by omega) m7 m5
        rw [Nat.zero_add] at this
        have hjf : pre ops j f = false := by
          cases hpp : pre ops j f with
          | false => rfl
          | true => have := hpre j f m1 hpp; omega
        exact ⟨_, this, by simp [unoB, m2, m3, hjf, m6]⟩
      · exact (m2 m7.symm).elim
      · right
        have hSf := g5 f ops[f] (List.getElem?_eq_getElem m1)
        rw [Nat.zero_add] at hSf
        have fA : isA ow ops[f] = true := by
          cases hA : isA ow ops[f] with
          | true => rfl
          | false =>
            rcases m4 with m4 | m4
            · rw [hst f p m7 m1 m5 hA] at m4; simp at m4
            · rw [hA] at m4; simp at m4
        obtain ⟨wf', _, f1, f2⟩ := hSf.ok
        cases wf' with
        | false => rw [(f1 rfl).2.2.1] at m5; simp at m5
        | true =>
          cases hiwf : isW ow wf ops[f] with
          | false => rw [((f2 rfl).2.1 hiwf).2.1] at m5; simp at m5
          | true =>
            rcases (f2 rfl).2.2 hiwf with f3 | f3 | f3
            · rw [f3.2.1] at m5; simp at m5
            · obtain ⟨_, _, ob, f4, _⟩ := f3
              rw [f4] at m5
              simp at m5
              rw [List.mem_map]
              refine ⟨f, ?_, by rw [← m6, ← m5]⟩
              unfold laterA
              rw [List.mem_filter]
              exact ⟨List.mem_range.2 m1, by rw [List.getElem?_eq_getElem m1]; simp [m7, fA]⟩
            · obtain ⟨_, _, _, _, _, _, _, _, f4, _⟩ := f3
              unfold isA at fA; rw [f4] at fA; simp at fA
    refine ⟨fun j o ho => ?_, fun i j hij hj hi hj2 => ?_⟩
    · have hS := g5 j o ho
      rw [Nat.zero_add] at hS
      have hjl : j < ops.length := (List.getElem?_eq_some_iff.1 ho).1
      obtain ⟨w, k0, k1, k2⟩ := hS.ok
      refine ⟨hS.dst, w, k0, k1, fun hw => ?_⟩
      obtain ⟨k3, k4, k5⟩ := k2 hw
      refine ⟨k3, fun hiw => ?_, fun hiw => ?_⟩
      · obtain ⟨t1, t2, t3, t4⟩ := k4 hiw
        refine ⟨t1, t2, t3, fun M hM => ?_⟩
        have hq := rng_iff.1 hquiet j hjl
        rw [ho] at hq
        simp only [hiw, Bool.false_or] at hq
        rw [hw] at k0
        rw [k0] at hq
        simp only at hq
        have hq2 := rng_iff.1 hq M (by have := hM.1; omega)
        have hcut : cutB ops (gB rs) j M = true := by
          unfold cutB
          simp only [Bool.and_eq_true, Bool.or_eq_true, beq_iff_eq]
          refine ⟨hM.2.2.2, rng_iff.2 fun b hb => ?_⟩
          cases hbb : gB rs b with
          | false => rfl
          | true =>
            simp only [Bool.not_true, Bool.false_or]
            split
            · rename_i hbm; rw [hM.2.1 b hbm hbb]; try rfl
            · rename_i hbm; rw [hM.2.2.1 b (by omega) hbb]; try rfl
        rw [hcut] at hq2
        simp only [Bool.not_true, Bool.false_or, Bool.or_eq_true] at hq2
        rcases hq2 with hq2 | hq2
        · simp only [Bool.and_eq_true, beq_iff_eq] at hq2
          obtain ⟨hMl, hns⟩ := hq2
          refine ⟨killsAt ow ops h.next j (lsAt rs 0 [] j), kxL j hjl (fun f p m1 m2 m3 m4 => ?_), ?_⟩
          · have hSf := g5 f ops[f] (List.getElem?_eq_getElem m2)
            obtain ⟨wf', _, f1, f2⟩ := hSf.ok
            cases wf' with
            | false => rw [(f1 rfl).2.2.1] at m3; simp at m3
            | true =>
              cases hiwf : isW ow wf ops[f] with
              | false => rw [((f2 rfl).2.1 hiwf).2.1] at m3; simp at m3
              | true =>
                rcases (f2 rfl).2.2 hiwf with f3 | f3 | f3
                · rw [f3.2.1] at m3; simp at m3
                · obtain ⟨_, fA, _⟩ := f3
                  rw [fA] at m4; simp at m4
                · obtain ⟨_, _, _, _, _, _, _, _, f4, _⟩ := f3
                  have := rng_iff.1 hns f m2
                  rw [List.getElem?_eq_getElem m2] at this
                  simp [m1, isSt, f4, unoB, show ¬ j = f by omega] at this
                  cases hpp : pre ops f j with
                  | true => have := hpre f j hjl hpp; omega
                  | false => exact this.resolve_right (by rw [hpp]; simp)
          · -- the heap at k, with what stands apart hidden
            have hMj : M ≤ j := by rw [hMl]; exact (lastOf_spec _ _).1
            have hnb : ∀ b, M ≤ b → b < M + (j - M) → gB rs b = false := by
              intro b b1 b2
              have := (lastOf_spec (gB rs) j).2.2 b (by rw [hMl] at b1; exact b1) (by omega)
              simpa using this
            have hseg := segA M (j - M) (by omega) hnb
            rw [show M + (j - M) = j by omega] at hseg
            have hgx : gx ops (gL rs) (gH rs hf') j M (killsAt ow ops h.next j (lsAt rs 0 [] j)) = killL (gH rs hf' j) (killsAt ow ops h.next j (lsAt rs 0 [] j)) := by
              unfold gx
              obtain ⟨d, hdd⟩ : ∃ d, ops.length = j + d := ⟨ops.length - j, by omega⟩
              have h2 : gH rs hf' j = lob (gL rs) (fun f => decide (M ≤ f) && decide (f < j)) (gH rs hf' M) ops.length := by
                rw [hseg, hdd, lob_hi d (fun f a _ _ => by simp; omega)]
                exact lob_congr _ fun f hf _ => by simp [hf]
              rw [h2]
              refine lob_kill _ fun f p hf hl => ?_
              by_cases hMf : M ≤ f
              · simp only [hMf, decide_true, Bool.true_and]
                cases hp : pre ops f j with
                | true =>
                  rcases Nat.lt_or_ge f j with m7 | m7
                  · left; simp [m7]
                  · right
                    -- it stands behind and before: looked at as apart only when it is; else nothing is noted
                    exact absurd hp (by
                      have := hpre f j hjl hp
                      omega)
                | false =>
                  rcases Nat.lt_or_ge f j with m7 | m7
                  · right
                    unfold killsAt
                    rw [List.mem_append]
                    left
                    rw [List.mem_filterMap]
                    have hm := lsAt_mem rs 0 [] j f p (by omega) m7 hl
                    rw [Nat.zero_add] at hm
                    have hjf : pre ops j f = false := by
                      cases hpp : pre ops j f with
                      | false => rfl
                      | true => have := hpre j f hf hpp; omega
                    exact ⟨_, hm, by simp [unoB, hp, hjf, show ¬ j = f by omega]⟩
                  · left; simp; omega
              · left; simp [hMf]
            rw [hgx]
            exact t4
        · exact ⟨kx ow ops (gL rs) j, fun id hid => hid, xagain_ok2 hk hq2⟩
      · rcases k5 hiw with ⟨t1, t2, H', t3, t4, t5, t6⟩ | ⟨t1, t2, t3⟩ | ⟨t1, t, x, y, id, r, f, ob, u1, u2, u3, u4, u5⟩
        · have hkL : ∀ id ∈ kx ow ops (gL rs) j, id ∈ killsAt ow ops h.next j (lsAt rs 0 [] j) := kxL j hjl (fun f p m1 m2 m3 m4 => by
            rcases wwP j f m1 m2 (.inl t1) (.inr (by rw [m3]; try rfl)) with h5 | ⟨_, _, h5, _⟩ | ⟨_, _, o2, h5, h6⟩ | ⟨h5, _⟩
            · exact h5
            · rw [t2] at h5; simp at h5
            · rw [List.getElem?_eq_getElem m2] at h5; simp at h5; rw [h5, h6] at m4; simp at m4
            · rw [t2] at h5; simp at h5)
          have hLk : ∀ id ∈ killsAt ow ops h.next j (lsAt rs 0 [] j), id ∈ kx ow ops (gL rs) j ∨ (gH rs hf' j).obj id = none := fun id hid => by
            unfold killsAt at hid
            rw [List.mem_append] at hid
            rcases hid with hid | hid
            · rw [List.mem_filterMap] at hid
              obtain ⟨x, m1, m2⟩ := hid
              rcases lsAt_inv _ _ _ _ _ m1 with m3 | ⟨f, p, m3, m4, rfl⟩
              · simp at m3
              · left
                split at m2
                · rename_i hu
                  simp at m2
                  simp [unoB] at hu
                  rw [← m2]
                  exact mem_kx (show f < ops.length by omega) hu.1.1 hu.2 (.inl hu.1.2) m4
                · simp at m2
            · rw [List.mem_map] at hid
              obtain ⟨f, m1, rfl⟩ := hid
              exact .inr (t6 f m1)
          have eK : killL (gH rs hf' j) (kx ow ops (gL rs) j) = killL (gH rs hf' j) (killsAt ow ops h.next j (lsAt rs 0 [] j)) := heap_ext rfl fun id => by
            simp only [killL]
            by_cases m1 : id ∈ kx ow ops (gL rs) j
            · simp [m1, hkL id m1]
            · by_cases m2 : id ∈ killsAt ow ops h.next j (lsAt rs 0 [] j)
              · have := (hLk id m2).resolve_left m1
                simp [m1, m2, this]
              · simp [m1, m2]
          have eP : putL H' (gH rs hf' j) (kx ow ops (gL rs) j) = putL H' (gH rs hf' j) (killsAt ow ops h.next j (lsAt rs 0 [] j)) := heap_ext rfl fun id => by
            simp only [putL]
            by_cases m1 : id ∈ kx ow ops (gL rs) j
            · simp [m1, hkL id m1]
            · by_cases m2 : id ∈ killsAt ow ops h.next j (lsAt rs 0 [] j)
              · have := (hLk id m2).resolve_left m1
                simp [m1, m2, this]
              · simp [m1, m2]
          refine .inl ⟨t1, t2, ⟨H', by rw [eK]; exact t3, fun id hid => t4 id (hkL id hid), by rw [eP]; exact t5⟩, fun f q hjf hq ha => ?_⟩
          have := late j f q hjl (by simp [t1]) hjf hq ha
          rw [if_pos t1] at this
          simpa using this
        · exact .inr (.inl ⟨t1, t2, t3⟩)
        · refine .inr (.inr ⟨t1, t, x, y, id, r, f, ob, u1, u2, u3, u4, fun f' q hjf hq ha => ?_, u5⟩)
          have := late j f' q hjl (by simp [u3]) hjf hq ha
          rw [if_neg (by simp [t1]), u3] at this
          simpa using this
    · exact wwP i j hij hj hi hj2
theorem xc_ok2 {call : CallR2} (hk : CallOk2 P call) {ow : Nat → Bool} {n : Nat} : ∀ (m : Nat) (c : Code) {s s' : Slots} {q q' : Option Nat} {h h' : Heap} {e : Exit}, xc2 P wf call ow n m c s q h = some (e, s', q', h') →
    (∀ Q : Post, Q e s' h' → awp P ow wf n c Q s h) ∧ (∀ h0, Tch q h0 h → Tch q' h0 h')
  | 0, c, s, s', q, q', h, h', e, hx => by simp [xc2] at hx
  | m + 1, c, s, s', q, q', h, h', e, hx => by
    unfold xc2 at hx
    split at hx
    · simp only [Option.some.injEq, Prod.mk.injEq] at hx
      obtain ⟨rfl, rfl, rfl, rfl⟩ := hx
      exact ⟨fun Q hQ => by simpa only [awp] using hQ, fun h0 hq => hq⟩
    · rename_i id ops
      split at hx
      · rename_i hdo
        simp only [Option.map_eq_some_iff, Prod.mk.injEq] at hx
        obtain ⟨⟨s1, q1, h1⟩, hx, rfl, rfl, rfl, rfl⟩ := hx
        have := fun (Q : Post) => xd_ok2 (K := Q .normal) hk _ _ hx
        exact ⟨fun Q hQ => by simp only [awp, if_true]; exact .inl ⟨hdo, (this Q).1 hQ⟩, (this (fun _ _ _ => True)).2⟩
      · split at hx
        · rename_i hdo
          simp only [Option.map_eq_some_iff, Prod.mk.injEq] at hx
          obtain ⟨⟨s1, q1, h1⟩, hx, rfl, rfl, rfl, rfl⟩ := hx
          have := fun (Q : Post) => xd_ok3 (K := Q .normal) hk _ _ hx
          refine ⟨fun Q hQ => by simp only [awp, if_true]; exact .inr (.inl ⟨hdo, (this Q).1 hQ⟩), fun h0 hq => (this (fun _ _ _ => True)).2 h0 (hq.trans ?_)⟩
          exact ⟨Nat.le_add_right _ _, fun _ _ => rfl⟩
        · split at hx
          · rename_i hdo
            simp only [Option.map_eq_some_iff, Prod.mk.injEq] at hx
            obtain ⟨⟨s1, q1, h1⟩, hx, rfl, rfl, rfl, rfl⟩ := hx
            obtain ⟨t1, t2⟩ := xd4_ok hk (fun i j hj hp => pre_lt3 (DOk3.of hdo) j i hj hp) hx
            refine ⟨fun Q hQ => by simp only [awp, if_true]; exact .inr (.inr ⟨hdo, t1 (Q .normal) hQ⟩), fun h0 hq => t2 h0 (hq.trans ?_)⟩
            exact ⟨Nat.le_add_right _ _, fun _ _ => rfl⟩
          · simp at hx
    · rename_i id ops
      simp only [Option.map_eq_some_iff, Prod.mk.injEq] at hx
      obtain ⟨⟨s1, q1, h1⟩, hx, rfl, rfl, rfl, rfl⟩ := hx
      have := fun (Q : Post) => xl_ok2 (K := Q .normal) hk _ hx
      exact ⟨fun Q hQ => by simp only [awp, Bool.false_eq_true, if_false]; exact (this Q).1 hQ, (this (fun _ _ _ => True)).2⟩
    · rename_i a b
      split at hx
      · rename_i s1 q1 h1 ha
        obtain ⟨a1, a2⟩ := xc_ok2 hk m a ha
        obtain ⟨b1, b2⟩ := xc_ok2 hk m b hx
        exact ⟨fun Q hQ => by simp only [awp]; exact a1 _ (b1 Q hQ), fun h0 hq => b2 h0 (a2 h0 hq)⟩
      · rename_i hne
        obtain ⟨a1, a2⟩ := xc_ok2 hk m a hx
        refine ⟨fun Q hQ => ?_, a2⟩
        simp only [awp]
        refine a1 _ ?_
        cases e <;> simp only [Post.seq] <;> first | exact hQ | exact (hne _ _ _ hx).elim
    · rename_i c x y
      split at hx
      · rename_i hc
        obtain ⟨a1, a2⟩ := xc_ok2 hk m x hx
        exact ⟨fun Q hQ => by simp only [awp, hc, if_true]; exact a1 Q hQ, a2⟩
      · rename_i hc
        obtain ⟨a1, a2⟩ := xc_ok2 hk m y hx
        exact ⟨fun Q hQ => by simp only [awp, hc, Bool.false_eq_true, if_false]; exact a1 Q hQ, a2⟩
      · simp at hx
    · rename_i id c
      split at hx
      · rename_i id' s1 q1 h1 ha
        obtain ⟨a1, a2⟩ := xc_ok2 hk m c ha
        simp only [Option.some.injEq, Prod.mk.injEq] at hx
        obtain ⟨rfl, rfl, rfl, rfl⟩ := hx
        refine ⟨fun Q hQ => ?_, a2⟩
        simp only [awp]
        refine a1 _ ?_
        simp only [Post.block]
        split <;> rename_i hid <;> simpa only [hid, if_true, if_false] using hQ
      · rename_i hne
        obtain ⟨a1, a2⟩ := xc_ok2 hk m c hx
        refine ⟨fun Q hQ => ?_, a2⟩
        simp only [awp]
        refine a1 _ ?_
        cases e <;> simp only [Post.block] <;> first | exact hQ | exact (hne _ _ _ _ hx).elim
    · rename_i c
      split at hx
      · rename_i s1 q1 h1 ha
        obtain ⟨a1, a2⟩ := xc_ok2 hk m c ha
        obtain ⟨b1, b2⟩ := xc_ok2 hk m (.loop c) hx
        refine ⟨fun Q hQ => ?_, fun h0 hq => b2 h0 (a2 h0 hq)⟩
        have := b1 Q hQ
        simp only [awp] at this ⊢
        obtain ⟨j, hj⟩ := this
        exact ⟨j + 1, a1 _ hj⟩
      · rename_i hne
        obtain ⟨a1, a2⟩ := xc_ok2 hk m c hx
        refine ⟨fun Q hQ => ?_, a2⟩
        simp only [awp]
        refine ⟨1, a1 _ ?_⟩
        cases e <;> simp only [Post.seq] <;> first | exact hQ | exact (hne _ _ _ hx).elim
    · simp only [Option.some.injEq, Prod.mk.injEq] at hx
      obtain ⟨rfl, rfl, rfl, rfl⟩ := hx
      exact ⟨fun Q hQ => by simpa only [awp] using hQ, fun h0 hq => hq⟩
    · simp only [Option.some.injEq, Prod.mk.injEq] at hx
      obtain ⟨rfl, rfl, rfl, rfl⟩ := hx
      exact ⟨fun Q hQ => by simpa only [awp] using hQ, fun h0 hq => hq⟩
    · simp at hx
theorem xf_ok2 (hm : P.follows .mixedOrders = true) {ext : FuncId → List PV → Heap → Option PV} (hext : ExtOk2 P ext) {keep : FuncId → Bool} {m : Nat} : ∀ k, CallOk2 P (xf2 P wf own ext keep m k)
  | 0, f, args, h, v, q, h', hx => by simp [xf2] at hx
  | k + 1, f, args, h, v, q, h', hx => by
    unfold xf2 at hx
    split at hx
    · rename_i r hr
      simp only [Option.some.injEq, Prod.mk.injEq] at hx
      obtain ⟨rfl, rfl, rfl⟩ := hx
      exact ⟨hext _ _ _ _ hr, rfl⟩
    split at hx
    · simp at hx
    · rename_i fn hf
      split at hx
      case isFalse => simp at hx
      rename_i hh
      split at hx
      · simp at hx
      · rename_i c hb
        split at hx
        case h_2 => simp at hx
        rename_i s q1 h1 hc
        split at hx
        · simp at hx
        · rename_i vs hr
          have main : PCall P f args h (fun r h2 => r = resV vs ∧ h2 = h1) ∧ Tch q1 h h1 := by
            obtain ⟨e, he, hc⟩ := endS_some hc
            obtain ⟨a1, a2⟩ := xc_ok2 (xf_ok2 hm hext k) m c hc
            refine ⟨pcall_body hm hf hb hh.1 hh.2 (a1 _ ?_), a2 h rfl⟩
            rcases he with rfl | rfl <;> simp only [retPost, hr] <;> exact ⟨trivial, trivial⟩
          split at hx
          · rename_i hkp
            simp only [Bool.and_eq_true] at hkp
            split at hx
            · rename_i r hfr
              simp only [Option.some.injEq, Prod.mk.injEq] at hx
              obtain ⟨rfl, rfl, rfl⟩ := hx
              refine ⟨pcall_wf hh.1 fun hwf => PCall.drop (main.1.mono ?_), rfl⟩
              rintro r' h' ⟨rfl, rfl⟩
              have hold : ∀ id, id < h.next → h'.obj id = h.obj id := by
                intro id hid
                have ht := main.2
                cases q1 with
                | none => simp only [Tch] at ht; rw [ht]
                | some t =>
                  simp only [Tch] at ht
                  have := hkp.2
                  simp [dropB] at this
                  exact ht.2 id (by omega)
              refine ⟨r, h, ⟨rfl, rfl⟩, frzP_ok _ _ hfr, Nat.le_refl _, fun id o ho => ?_⟩
              have hid := hwf id (by rw [ho]; try rfl)
              exact ⟨by rw [hold id hid]; exact ho, hid, .inl ho⟩
            · simp only [Option.some.injEq, Prod.mk.injEq] at hx
              obtain ⟨rfl, rfl, rfl⟩ := hx
              exact main
          · simp only [Option.some.injEq, Prod.mk.injEq] at hx
            obtain ⟨rfl, rfl, rfl⟩ := hx
            exact main
/-- what is to be computed: a result, whatever the heap -/
def xgives2 (r : Option (PV × Option Nat × Heap)) (v : PV) : Bool := match r with
  | some (u, _, _) => pvEq u v
  | none => false
theorem pcall_run2 (hm : P.follows .mixedOrders = true) {ext : FuncId → List PV → Heap → Option PV} (hext : ExtOk2 P ext) {keep : FuncId → Bool} {m k : Nat} {f : FuncId} {args : List PV} {h : Heap} {v : PV} (hx : xgives2 (xf2 P wf own ext keep m k f args h) v = true) : PCall P f args h (fun r _ => r = v) := by
  unfold xgives2 at hx
  split at hx
  · rename_i u q h' hr
    refine ((xf_ok2 hm hext k _ _ _ _ _ _ hr).1).mono (fun r h'' hr => ?_)
    rw [hr.1, pvEq_eq _ _ hx]
  · simp at hx
end
end Go.AM
namespace Go.Proofs.YtikhonogkpboaaaGreat
open Go.AM
set_option maxHeartbeats 2000000
set_option maxRecDepth 100000
def pbOwn (f t : Nat) : Bool := ([(146, 5), (197, 10), (242, 5), (27, 40), (27, 49), (27, 67), (91, 9)] : List (Nat × Nat)).contains (f, t)
def pbWf (f : Nat) : Bool := false
def pbExt (f : FuncId) (args : List PV) (_ : Heap) : Option PV := ext f args
theorem pbExt_ok : ExtOk2 Tryz.prog pbExt := fun f args r h hr => ext_ok f args r h hr
theorem pbAwake_c : PCall Tryz.prog 20 [] Heap.nil fun r h' => r = .sc (.bool true) ∧ h' = Heap.nil := by
  have h1 : PCall Tryz.prog 20 [] Heap.nil fun r _ => r = .sc (.bool true) := pcall_run2 (wf := pbWf) (own := pbOwn) (keep := fun _ => false) Ty.mixed pbExt_ok (m := 2000) (k := 60) (by kernel_rfl)
  refine PCall.drop (h1.mono ?_)
  rintro r h' rfl
  refine ⟨.sc (.bool true), Heap.nil, ⟨rfl, rfl⟩, ?_, Nat.le_refl _, fun id o ho => by simp [Heap.nil] at ho⟩
  simp only [FrzTo]
end Go.Proofs.YtikhonogkpboaaaGreat
namespace Go.AM
open Go.ChangeShapes Go.WideShapes
/-- the parts of a struct or an array: where each begins, and its type -/
def partsT (P : Program) (t : TypeId) : List (Nat × TypeId) := match P.underlying t with
  | some (.struct fs) => fs.toList.map fun f => (f.offset, f.type)
  | some (.array n e) => (List.range n).map fun i => (i * P.cellsOf e, e)
  | _ => []
/-- do the parts lie one behind the other, from o on to e? -/
def inRow (P : Program) (e : Nat) : Nat → List (Nat × TypeId) → Bool
  | o, [] => o == e
  | o, p :: l => p.1 == o && inRow P e (o + P.cellsOf p.2) l
/-- is the type made of bools, integers, strings, slices, structs and arrays? -/
def covB (P : Program) : Nat → TypeId → Bool
  | 0, _ => false
  | f + 1, t => match P.underlying t with
    | some .bool => true
    | some (.int _) => true
    | some .string => true
    | some (.slice e) => decide (0 < P.cellsOf e) && covB P f e
    | some (.struct _) => inRow P (P.cellsOf t) 0 (partsT P t) && (partsT P t).all fun p => covB P f p.2
    | some (.array _ _) => inRow P (P.cellsOf t) 0 (partsT P t) && (partsT P t).all fun p => covB P f p.2
    | _ => false
/-- the cells of a value of a type that came in -/
def Arg (P : Program) : Nat → TypeId → List PV → Prop
  | 0, _, _ => False
  | f + 1, t, ps => match P.underlying t with
    | some .bool => ∃ b, ps = [.sc (.bool b)]
    | some (.int k) => ∃ n, (Lit.int k n).wf = true ∧ ps = [.sc (.int k n)]
    | some .string => ∃ s : ByteArray, s.size ≤ reachBytes ∧ ps = [.sc (.string s)]
    | some (.slice e) => ∃ rows, ps = [.imm (P.cellsOf e) rows] ∧ rows.length * P.bytesOf e ≤ reachBytes ∧ rows.length ≤ maxLen ∧ ∀ r ∈ rows, r.length = P.cellsOf e ∧ Arg P f e r
    | some (.struct _) => ps.length = P.cellsOf t ∧ ∀ p ∈ partsT P t, Arg P f p.2 ((ps.drop p.1).take (P.cellsOf p.2))
    | some (.array _ _) => ps.length = P.cellsOf t ∧ ∀ p ∈ partsT P t, Arg P f p.2 ((ps.drop p.1).take (P.cellsOf p.2))
    | _ => False
section
variable {H : Type} {enc : TypeId × Value → H} {P : Program} {w : World} {sp : Nat → Bool} {held : Bool}
/-- the cells cs stand for ps, in any heap -/
def RA (w : World) (ps : List PV) (cs : List Value) : Prop := (∀ v ∈ cs, v.oneCell' = true) ∧ ∀ β n, RepL β n (fun b => b < w.heap.size) w ps cs
theorem RA.len {ps : List PV} {cs : List Value} (h : RA w ps cs) : ps.length = cs.length := (h.2 ⟨fun _ => ⟨none, 0, 0, 0⟩, fun _ => False⟩ 0).len
theorem RA.append {ps ps' : List PV} {cs cs' : List Value} (h : RA w ps cs) (k : RA w ps' cs') : RA w (ps ++ ps') (cs ++ cs') :=
  ⟨fun v hv => by exact (List.mem_append.1 hv).elim (h.1 v) (k.1 v), fun β n => (h.2 β n).append (k.2 β n)⟩
theorem inRow_le {e : Nat} : (l : List (Nat × TypeId)) → (o : Nat) → inRow P e o l = true → o ≤ e ∧ ∀ p ∈ l, o ≤ p.1 ∧ p.1 + P.cellsOf p.2 ≤ e
  | [], o, h => by simp [inRow] at h; simp [h]
  | p :: l, o, h => by
    simp only [inRow, Bool.and_eq_true, beq_iff_eq] at h
    obtain ⟨h1, h2⟩ := inRow_le l _ h.2
    refine ⟨by omega, fun q hq => ?_⟩
    rcases List.mem_cons.1 hq with rfl | hq
    · omega
    · have := h2 q hq; omega
theorem parts_rep {c : Nat} {cs : List Value} : (l : List (Nat × TypeId)) → (o : Nat) → inRow P cs.length o l = true →
    (∀ p ∈ l, ∃ ps, Arg P c p.2 ps ∧ RA w ps ((cs.drop p.1).take (P.cellsOf p.2))) →
    ∃ ps, RA w ps (cs.drop o) ∧ ∀ p ∈ l, Arg P c p.2 ((ps.drop (p.1 - o)).take (P.cellsOf p.2))
  | [], o, h, _ => by
    simp [inRow] at h
    refine ⟨[], ⟨?_, fun β n => ?_⟩, by simp⟩
    · rw [List.drop_of_length_le (by omega)]; simp
    · rw [List.drop_of_length_le (by omega)]; simp [RepL]
  | p :: l, o, h, hp => by
    have hle := (inRow_le (p :: l) o h).2 p (by simp)
    simp only [inRow, Bool.and_eq_true, beq_iff_eq] at h
    obtain ⟨ps, h1, h2⟩ := parts_rep l _ h.2 (fun q hq => hp q (by simp [hq]))
    obtain ⟨ps0, h3, h4⟩ := hp p (by simp)
    have hl2 := (inRow_le l _ h.2).2
    have e0 : p.1 = o := h.1
    have l0 : ps0.length = P.cellsOf p.2 := by rw [h4.len, List.length_take, List.length_drop]; omega
    refine ⟨ps0 ++ ps, ?_, fun q hq => ?_⟩
    · have : cs.drop o = (cs.drop p.1).take (P.cellsOf p.2) ++ cs.drop (o + P.cellsOf p.2) := by
        rw [e0, ← List.drop_drop, List.take_append_drop]
      rw [this]
      exact h4.append h1
    · rcases List.mem_cons.1 hq with rfl | hq
      · rw [e0, Nat.sub_self, List.drop_zero, List.take_append_of_le_length (by omega), List.take_of_length_le (by omega)]
        exact h3
      · have h5 := hl2 q hq
        have : q.1 - o = ps0.length + (q.1 - (o + P.cellsOf p.2)) := by omega
        rw [this, ← List.drop_drop, List.drop_left]
        exact h2 q hq
theorem exists_list {α : Type} {R : Nat → α → Prop} : (n : Nat) → (∀ i, i < n → ∃ x, R i x) → ∃ l : List α, l.length = n ∧ ∀ i x, l[i]? = some x → R i x
  | 0, _ => ⟨[], rfl, by simp⟩
  | n + 1, h => by
    obtain ⟨l, h1, h2⟩ := exists_list n (fun i hi => h i (by omega))
    obtain ⟨x, hx⟩ := h n (by omega)
    refine ⟨l ++ [x], by simp [h1], fun i y hy => ?_⟩
    rw [List.getElem?_append] at hy
    split at hy
    · exact h2 i y hy
    · rename_i hi
      have : i = n := by
        have := (List.getElem?_eq_some_iff.1 hy).1
        simp at this; omega
      subst this
      rw [h1] at hy
      simp at hy
      subst hy; exact hx
theorem weightsAll_mem {e : TypeId} {n : Nat} : {ds : List (DataW H)} → {i : Nat} → {d : DataW H} → ds[i]? = some d → n ∈ d.weights P e → n ∈ DataW.weightsAll P e ds
  | [], _, _, h, _ => by simp at h
  | d0 :: ds, 0, d, h, hn => by
    simp at h; subst h
    simp only [DataW.weightsAll, List.mem_append]; exact .inl hn
  | d0 :: ds, i + 1, d, h, hn => by
    simp at h
    simp only [DataW.weightsAll, List.mem_append]; exact .inr (weightsAll_mem h hn)
theorem sc_RA {v : Value} (h : v.oneCell' = true) : RA w [.sc v] [v] :=
  ⟨fun u hu => by simp at hu; subst hu; exact h, fun β n => by simp only [RepL, Rep]; exact ⟨trivial, trivial⟩⟩
end
end Go.AM
namespace Go.AM
open Go.ChangeShapes Go.WideShapes
section
variable {H : Type} {enc : TypeId × Value → H} {P : Program} {w : World} {sp : Nat → Bool} {held : Bool}
/-- are the types made of bools, integers, strings, slices, structs and arrays of them? -/
def covC (P : Program) (Ts : List TypeId) : Bool := Ts.all fun t => match P.underlying t with
  | some .bool => true
  | some (.int _) => true
  | some .string => true
  | some (.slice e) => decide (0 < P.cellsOf e) && Ts.contains e
  | some (.struct _) => inRow P (P.cellsOf t) 0 (partsT P t) && (partsT P t).all fun p => Ts.contains p.2
  | some (.array _ _) => inRow P (P.cellsOf t) 0 (partsT P t) && (partsT P t).all fun p => Ts.contains p.2
  | _ => false
theorem arg_rec {Ts : List TypeId} (hT : covC P Ts = true) : ∀ (fuel : Nat) (t : TypeId), Ts.contains t = true → ∀ (cs : List Value) (x : DataW H × List MemPlace), DataW.trod enc P w 0 sp held fuel t cs = some x → (∀ n ∈ x.1.weights P t, n ≤ reachBytes) →
    ∃ ps, Arg P fuel t ps ∧ RA w ps cs
  | 0, _, _, _, _, hx, _ => by simp [DataW.trod] at hx
  | c + 1, t, ht, cs, x, hx, hw => by
    have h := List.all_eq_true.1 hT t (by simpa using ht)
    split at h
    · rename_i hu
      obtain ⟨b, rfl, rfl⟩ := DataW.trod_bool hu hx
      refine ⟨[.sc (.bool b)], ?_, sc_RA rfl⟩
      unfold Arg; rw [hu]; exact ⟨b, rfl⟩
    · rename_i k hu
      obtain ⟨n, rfl, rfl, hwf⟩ := DataW.trod_int hu hx
      refine ⟨[.sc (.int k n)], ?_, sc_RA rfl⟩
      unfold Arg; rw [hu]; exact ⟨n, hwf, rfl⟩
    · rename_i hu
      obtain ⟨s, rfl, rfl, hs⟩ := DataW.trod_string hu hx
      refine ⟨[.sc (.string s)], ?_, sc_RA rfl⟩
      unfold Arg; rw [hu]
      refine ⟨s, ?_, rfl⟩
      have := hw s.data.toList.length (by simp [DataW.weights])
      simpa using this
    · rename_i e hu
      simp only [Bool.and_eq_true, decide_eq_true_eq] at h
      obtain ⟨hpos, hcov⟩ := h
      rcases DataW.trod_slice hu hx with ⟨rfl, rfl⟩ | ⟨a, len, cap, elems, rest, n, hfu, rfl, rfl, hb, hl, hm, hlen, hel, hsp, hns⟩
      · refine ⟨[.imm (P.cellsOf e) []], ?_, fun v hv => ?_, fun β n => ?_⟩
        · unfold Arg; rw [hu]; exact ⟨[], rfl, by simp, by simp, by simp⟩
        · simp at hv; subst hv; rfl
        · simp only [RepL, Rep]
          exact ⟨⟨none, 0, rfl, Nat.le_refl _, Nat.zero_le _, .inl (by trivial)⟩, trivial⟩
      · obtain rfl : c = n := by omega
        have each : ∀ i, i < len → ∃ r : List PV, (r.length = P.cellsOf e ∧ Arg P c e r) ∧ ∃ ci, RA w r ci ∧ ci.length = P.cellsOf e ∧ ∀ j, j < P.cellsOf e → w.cell? ((a.add (i * P.cellsOf e)).add j) = ci[j]? := by
          intro i hi
          have h1 := hel i hi
          have h2 : elems[i]? = some (elems[i]'(by omega)) := List.getElem?_eq_getElem _
          rw [h2, Option.bind_eq_some_iff] at h1
          obtain ⟨ci, h3, h4⟩ := h1
          obtain ⟨_, h5, h6⟩ := World.cells?_some h3
          obtain ⟨r, h7, h8⟩ := arg_rec hT c e hcov ci _ h4 (fun m hm => hw m (by
            simp only [DataW.weights, hu, List.mem_cons, List.mem_append]
            exact .inr (.inl (weightsAll_mem (i := i) (by rw [List.getElem?_map, h2]; try rfl) hm))))
          exact ⟨r, ⟨by rw [h8.len, h5], h7⟩, ci, h8, h5, h6⟩
        obtain ⟨rows, hrl, hrows⟩ := exists_list len each
        refine ⟨[.imm (P.cellsOf e) rows], ?_, fun v hv => ?_, fun β m => ?_⟩
        · unfold Arg; rw [hu]
          refine ⟨rows, rfl, ?_, by omega, fun r hr => ?_⟩
          · have := hw ((elems.map (·.1)).length * P.bytesOf e + (rest.map (·.1)).length * P.bytesOf e) (by
              simp only [DataW.weights, hu, List.mem_cons, Nat.add_mul, true_or])
            have h9 : rows.length = (elems.map (·.1)).length := by simp [hrl, hlen]
            rw [h9]
            exact Nat.le_trans (Nat.le_add_right _ _) this
          · obtain ⟨i, hi⟩ := List.getElem?_of_mem hr
            exact (hrows i r hi).1
        · simp at hv; subst hv; rfl
        · simp only [RepL, Rep]
          refine ⟨⟨some a, cap, by rw [hrl], by omega, hm, ?_⟩, trivial⟩
          by_cases h0 : len = 0
          · left; exact List.length_eq_zero_iff.1 (by omega)
          · right
            obtain ⟨_, _, c0, _, hc0, hcell0⟩ := each 0 (by omega)
            have h10 := hcell0 0 hpos
            rw [List.getElem?_eq_getElem (by omega)] at h10
            simp only [Nat.zero_mul, Addr.add, if_true] at h10
            have hs : a.spot = none := by
              unfold World.cell? at h10
              split at h10
              · split at h10
                · simp at h10
                · rename_i hsp; simpa using hsp
              · simp at h10
            have hblk : a.block < w.heap.size := by
              unfold World.cell? at h10
              split at h10
              · rename_i hh; exact (Array.getElem?_eq_some_iff.1 hh).1
              · simp at h10
            refine ⟨a.block, a.off, hblk, by cases a; simp only at hs; subst hs; rfl, ?_⟩
            rw [RepR_iff]
            intro i r hr
            obtain ⟨⟨g1, _⟩, ci, g2, g3, g4⟩ := hrows i r hr
            refine ⟨g1, ?_⟩
            rw [RepS_iff]
            intro j p hp
            obtain ⟨v, hv, hrep⟩ := (g2.2 β m).get hp
            have hj : j < P.cellsOf e := by rw [← g3]; exact (List.getElem?_eq_some_iff.1 hv).1
            refine ⟨v, ?_, g2.1 v (List.mem_of_getElem? hv), hrep⟩
            rw [← hv, ← g4 j hj]
            congr 1
            cases a
            simp only at hs; subst hs
            simp only [Addr.add]
            split <;> split <;> simp_all <;> omega
    · rename_i fs hu
      simp only [Bool.and_eq_true, List.all_eq_true] at h
      obtain ⟨xs, n, hfu, rfl, hcl, hxl, hp⟩ := DataW.trod_struct hu hx
      obtain rfl : c = n := by omega
      have hpt : partsT P t = fs.toList.map fun f => (f.offset, f.type) := by unfold partsT; rw [hu]
      obtain ⟨ps, h1, h2⟩ := parts_rep (w := w) (c := c) (cs := cs) (partsT P t) 0 (by rw [hcl]; exact h.1) (fun p hpm => by
        have hcv := h.2 p hpm
        rw [hpt] at hpm
        obtain ⟨i, hi⟩ := List.getElem?_of_mem hpm
        rw [List.getElem?_map, Option.map_eq_some_iff] at hi
        obtain ⟨f, hf, rfl⟩ := hi
        have hf' : fs[i]? = some f := by simpa using hf
        have hi' : i < xs.length := by
          rw [hxl]
          exact (Array.getElem?_eq_some_iff.1 hf').1
        have h3 := hp i f hf'
        rw [List.getElem?_eq_getElem hi'] at h3
        exact arg_rec hT c f.type hcv _ _ h3 (fun m hm => hw m (by
          simp only [DataW.weights, hu]
          exact DataW.weights_mem_each (j := i) (t := f.type) (d := xs[i].1) (by rw [List.getElem?_map, hf]; try rfl) (by rw [List.getElem?_map, List.getElem?_eq_getElem hi']; try rfl) m hm)))
      refine ⟨ps, ?_, by simpa using h1⟩
      unfold Arg; rw [hu]
      exact ⟨by rw [h1.len, List.drop_zero, hcl], fun p hpm => by simpa using h2 p hpm⟩
    · rename_i k e hu
      simp only [Bool.and_eq_true, List.all_eq_true] at h
      obtain ⟨xs, n, hfu, rfl, hcl, hxl, hp⟩ := DataW.trod_array hu hx
      obtain rfl : c = n := by omega
      have hpt : partsT P t = (List.range k).map fun i => (i * P.cellsOf e, e) := by unfold partsT; rw [hu]
      obtain ⟨ps, h1, h2⟩ := parts_rep (w := w) (c := c) (cs := cs) (partsT P t) 0 (by rw [hcl]; exact h.1) (fun p hpm => by
        have hcv := h.2 p hpm
        rw [hpt] at hpm
        obtain ⟨i, hi, rfl⟩ := List.mem_map.1 hpm
        have hi' : i < xs.length := by rw [hxl]; simpa using hi
        have h3 := hp i (by simpa using hi)
        rw [List.getElem?_eq_getElem hi'] at h3
        exact arg_rec hT c e hcv _ _ h3 (fun m hm => hw m (by
          simp only [DataW.weights, hu]
          exact weightsAll_mem (i := i) (d := xs[i].1) (by rw [List.getElem?_map, List.getElem?_eq_getElem hi']; try rfl) hm)))
      refine ⟨ps, ?_, by simpa using h1⟩
      unfold Arg; rw [hu]
      exact ⟨by rw [h1.len, List.drop_zero, hcl], fun p hpm => by simpa using h2 p hpm⟩
    · simp at h
theorem arg_valueC {Ts : List TypeId} (hT : covC P Ts = true) {t : TypeId} (ht : Ts.contains t = true) {fs : Array Field} (hu : P.underlying t = some (.struct fs)) {v : Value} {d : DataW H} {pl : List MemPlace}
    (h : DataW.Trod enc P w 0 sp held t v d pl) (hv : ∃ base, Value.okWide P w .any base t v) (hw : ∀ n ∈ d.weights P t, n ≤ reachBytes) :
    ∃ c ps, Arg P c t ps ∧ ∀ β n, Rep β n (fun b => b < w.heap.size) w (.agg ps) v := by
  obtain ⟨fuel, hf⟩ := h
  obtain ⟨ps, h1, h2⟩ := arg_rec hT fuel t ht _ _ hf hw
  obtain ⟨base, hv⟩ := hv
  unfold Value.okWide at hv
  simp only [hu] at hv
  obtain ⟨cs, rfl, _⟩ := hv
  refine ⟨fuel, ps, h1, fun β n => ?_⟩
  simp only [Rep]
  exact ⟨cs.toList, by simp, h2.1, h2.2 β n⟩
end
end Go.AM
namespace Go.AM
open Go.ChangeShapes Go.WideShapes
section
variable {P : Program} {c : Nat} {t e : TypeId} {ps : List PV} {a : PV}
theorem Arg_int {k : IntKind} (hu : P.underlying t = some (.int k)) (h : Arg P (c + 1) t ps) : ∃ n, (Lit.int k n).wf = true ∧ ps = [.sc (.int k n)] := by
  unfold Arg at h; rw [hu] at h; exact h
theorem Arg_slice (hu : P.underlying t = some (.slice e)) (h : Arg P (c + 1) t ps) : ∃ rows, ps = [.imm (P.cellsOf e) rows] ∧ rows.length * P.bytesOf e ≤ reachBytes ∧ rows.length ≤ maxLen ∧ ∀ r ∈ rows, r.length = P.cellsOf e ∧ Arg P c e r := by
  unfold Arg at h; rw [hu] at h; exact h
theorem Arg_struct {fs : Array Field} (hu : P.underlying t = some (.struct fs)) (h : Arg P (c + 1) t ps) : ps.length = P.cellsOf t ∧ ∀ p ∈ partsT P t, Arg P c p.2 ((ps.drop p.1).take (P.cellsOf p.2)) := by
  unfold Arg at h; rw [hu] at h; exact h
theorem rows_map {α : Type} {Q : α → Prop} {f : α → List PV} : (rows : List (List PV)) → (∀ r ∈ rows, ∃ x, Q x ∧ r = f x) → ∃ xs : List α, rows = xs.map f ∧ ∀ x ∈ xs, Q x
  | [], _ => ⟨[], rfl, by simp⟩
  | r :: rows, h => by
    obtain ⟨xs, h1, h2⟩ := rows_map rows (fun q hq => h q (by simp [hq]))
    obtain ⟨x, h3, h4⟩ := h r (by simp)
    refine ⟨x :: xs, by simp [h1, h4], fun y hy => ?_⟩
    rcases List.mem_cons.1 hy with rfl | hy
    · exact h3
    · exact h2 y hy
theorem i64_in {n : Int} (h : (Lit.int .i64 n).wf = true) : -9223372036854775808 ≤ n ∧ n ≤ 9223372036854775807 := by
  simp [Lit.wf, IntKind.min, IntKind.max, IntKind.bits, IntKind.signed] at h
  omega
end
end Go.AM
namespace Go.Proofs.YtikhonogkpboaaaGreat
open Go.AM
set_option maxHeartbeats 1000000
set_option maxRecDepth 20000
def recTs : List TypeId := [39, 85, 96, 9, 3, 35, 22, 36, 37]
theorem parts57 : partsT Tryz.prog 85 = [(0, 9), (1, 9), (2, 3), (3, 35), (4, 36)] := by kernel_rfl
theorem parts29 : partsT Tryz.prog 39 = [(0, 9), (1, 9), (2, 35), (3, 22), (4, 36), (5, 37)] := by kernel_rfl
theorem parts99 : partsT Tryz.prog 96 = [(0, 9), (1, 9)] := by kernel_rfl
theorem co9 : Tryz.prog.cellsOf 9 = 1 := by kernel_rfl
theorem co3 : Tryz.prog.cellsOf 3 = 1 := by kernel_rfl
theorem co24 : Tryz.prog.cellsOf 35 = 1 := by kernel_rfl
theorem co25 : Tryz.prog.cellsOf 22 = 1 := by kernel_rfl
theorem co26 : Tryz.prog.cellsOf 36 = 1 := by kernel_rfl
theorem co27 : Tryz.prog.cellsOf 37 = 1 := by kernel_rfl
theorem co57 : Tryz.prog.cellsOf 85 = 5 := by kernel_rfl
theorem co29 : Tryz.prog.cellsOf 39 = 6 := by kernel_rfl
theorem co99 : Tryz.prog.cellsOf 96 = 2 := by kernel_rfl
theorem by9 : 0 < Tryz.prog.bytesOf 9 := by rw [show Tryz.prog.bytesOf 9 = 16 by kernel_rfl]; omega
theorem by99 : 0 < Tryz.prog.bytesOf 96 := by rw [show Tryz.prog.bytesOf 96 = 32 by kernel_rfl]; omega
theorem by57 : 0 < Tryz.prog.bytesOf 85 := by rw [show Tryz.prog.bytesOf 85 = 88 by kernel_rfl]; omega
theorem by29 : 0 < Tryz.prog.bytesOf 39 := by rw [show Tryz.prog.bytesOf 39 = 128 by kernel_rfl]; omega
theorem len_le {n b : Nat} (h : n * b ≤ reachBytes) (hb : 0 < b) : n ≤ bigN := by
  have := Nat.le_mul_of_pos_right n hb
  unfold reachBytes at h
  unfold bigN
  omega
theorem arg_str {c : Nat} {ps : List PV} (h : Arg Tryz.prog c 9 ps) : ∃ s : ByteArray, s.size ≤ bigN ∧ ps = [sPV s] := by
  cases c with
  | zero => simp [Arg] at h
  | succ c =>
    unfold Arg at h
    rw [Tryz.underlying9] at h
    obtain ⟨s, h1, h2⟩ := h
    exact ⟨s, by unfold reachBytes at h1; unfold bigN; omega, h2⟩
theorem arg_i64 {c : Nat} {ps : List PV} (h : Arg Tryz.prog c 3 ps) : ∃ n : Int, (-9223372036854775808 ≤ n ∧ n ≤ 9223372036854775807) ∧ ps = [.sc (.int .i64 n)] := by
  cases c with
  | zero => simp [Arg] at h
  | succ c =>
    obtain ⟨n, h1, h2⟩ := Arg_int Tryz.underlying3 h
    exact ⟨n, i64_in h1, h2⟩
theorem arg_strs {c : Nat} {ps : List PV} (h : Arg Tryz.prog c 35 ps) : ∃ l : List ByteArray, (l.length ≤ bigN ∧ ∀ a ∈ l, a.size ≤ bigN) ∧ ps = [.imm 1 (strRows l)] := by
  cases c with
  | zero => simp [Arg] at h
  | succ c =>
    obtain ⟨rows, rfl, h1, _, h2⟩ := Arg_slice Tryz.underlying35 h
    obtain ⟨xs, rfl, h3⟩ := rows_map (Q := fun s : ByteArray => s.size ≤ bigN) (f := fun s => [sPV s]) rows (fun r hr => arg_str (h2 r hr).2)
    refine ⟨xs, ⟨len_le (by simpa using h1) by9, h3⟩, ?_⟩
    rw [co9]; try rfl
theorem arg_pm {c : Nat} {ps : List PV} (h : Arg Tryz.prog c 96 ps) : ∃ p : Pm, p.ok ∧ ps = pmRow p := by
  cases c with
  | zero => simp [Arg] at h
  | succ c =>
    obtain ⟨h1, h2⟩ := Arg_struct Tryz.underlying96 h
    rw [co99] at h1
    rw [parts99] at h2
    match ps, h1, h2 with
    | [p0, p1], _, h2 =>
      have a0 := h2 (0, 9) (by simp)
      have a1 := h2 (1, 9) (by simp)
      simp only [co9, List.drop_zero, List.drop_succ_cons, List.take_succ_cons, List.take_zero] at a0 a1
      obtain ⟨s, hs, e1⟩ := arg_str a0
      obtain ⟨t, ht, e2⟩ := arg_str a1
      simp at e1 e2
      exact ⟨⟨s, t⟩, ⟨hs, ht⟩, by simp [pmRow, e1, e2]⟩
theorem arg_pms {c : Nat} {ps : List PV} (h : Arg Tryz.prog c 22 ps) : ∃ l : List Pm, (l.length ≤ bigN ∧ ∀ a ∈ l, a.ok) ∧ ps = [.imm 2 (pmRows l)] := by
  cases c with
  | zero => simp [Arg] at h
  | succ c =>
    obtain ⟨rows, rfl, h1, _, h2⟩ := Arg_slice Tryz.underlying22 h
    obtain ⟨xs, rfl, h3⟩ := rows_map (Q := Pm.ok) (f := pmRow) rows (fun r hr => arg_pm (h2 r hr).2)
    refine ⟨xs, ⟨len_le (by simpa using h1) by99, h3⟩, ?_⟩
    rw [co99]; try rfl
theorem arg_ex : ∀ (c : Nat) {ps : List PV}, Arg Tryz.prog c 85 ps → ∃ e : Ex, e.ok ∧ ps = e.cells := by
  intro c
  induction c using Nat.strongRecOn with
  | _ c ih =>
    intro ps h
    cases c with
    | zero => simp [Arg] at h
    | succ c =>
      obtain ⟨h1, h2⟩ := Arg_struct Tryz.underlying85 h
      rw [co57] at h1
      rw [parts57] at h2
      match ps, h1, h2 with
      | [p0, p1, p2, p3, p4], _, h2 =>
        have a0 := h2 (0, 9) (by simp)
        have a1 := h2 (1, 9) (by simp)
        have a2 := h2 (2, 3) (by simp)
        have a3 := h2 (3, 35) (by simp)
        have a4 := h2 (4, 36) (by simp)
        simp only [co9, co3, co24, co26, List.drop_zero, List.drop_succ_cons, List.take_succ_cons, List.take_zero] at a0 a1 a2 a3 a4
        obtain ⟨op, hop, e0⟩ := arg_str a0
        obtain ⟨name, hname, e1⟩ := arg_str a1
        obtain ⟨n, hn, e2⟩ := arg_i64 a2
        obtain ⟨args, hargs, e3⟩ := arg_strs a3
        cases c with
        | zero => simp [Arg] at a4
        | succ c =>
          obtain ⟨rows, e4, h3, _, h4⟩ := Arg_slice Tryz.underlying36 a4
          obtain ⟨xs, rfl, h5⟩ := rows_map (Q := Ex.ok) (f := Ex.cells) rows (fun r hr => ih c (by omega) (h4 r hr).2)
          rw [co57] at e4
          simp at e0 e1 e2 e3 e4
          refine ⟨.mk op name n args xs, ?_, ?_⟩
          · simp only [Ex.ok]
            exact ⟨hop, hname, hn, hargs, len_le (by simpa using h3) by57, Ex.oks_iff.2 h5⟩
          · simp only [Ex.cells, e0, e1, e2, e3, e4, Ex.rows_map]
theorem arg_exs {c : Nat} {ps : List PV} (h : Arg Tryz.prog c 36 ps) : ∃ l : List Ex, (l.length ≤ bigN ∧ Ex.oks l) ∧ ps = [.imm 5 (Ex.rows l)] := by
  cases c with
  | zero => simp [Arg] at h
  | succ c =>
    obtain ⟨rows, rfl, h1, _, h2⟩ := Arg_slice Tryz.underlying36 h
    obtain ⟨xs, rfl, h3⟩ := rows_map (Q := Ex.ok) (f := Ex.cells) rows (fun r hr => arg_ex c (h2 r hr).2)
    refine ⟨xs, ⟨len_le (by simpa using h1) by57, Ex.oks_iff.2 h3⟩, ?_⟩
    rw [co57, Ex.rows_map]
theorem arg_fm : ∀ (c : Nat) {ps : List PV}, Arg Tryz.prog c 39 ps → ∃ f : Fm, f.ok ∧ ps = f.cells := by
  intro c
  induction c using Nat.strongRecOn with
  | _ c ih =>
    intro ps h
    cases c with
    | zero => simp [Arg] at h
    | succ c =>
      obtain ⟨h1, h2⟩ := Arg_struct Tryz.underlying39 h
      rw [co29] at h1
      rw [parts29] at h2
      match ps, h1, h2 with
      | [p0, p1, p2, p3, p4, p5], _, h2 =>
        have a0 := h2 (0, 9) (by simp)
        have a1 := h2 (1, 9) (by simp)
        have a2 := h2 (2, 35) (by simp)
        have a3 := h2 (3, 22) (by simp)
        have a4 := h2 (4, 36) (by simp)
        have a5 := h2 (5, 37) (by simp)
        simp only [co9, co24, co25, co26, co27, List.drop_zero, List.drop_succ_cons, List.take_succ_cons, List.take_zero] at a0 a1 a2 a3 a4 a5
        obtain ⟨op, hop, e0⟩ := arg_str a0
        obtain ⟨name, hname, e1⟩ := arg_str a1
        obtain ⟨args, hargs, e2⟩ := arg_strs a2
        obtain ⟨params, hparams, e3⟩ := arg_pms a3
        obtain ⟨exprs, hexprs, e4⟩ := arg_exs a4
        cases c with
        | zero => simp [Arg] at a5
        | succ c =>
          obtain ⟨rows, e5, h3, _, h4⟩ := Arg_slice Tryz.underlying37 a5
          obtain ⟨xs, rfl, h5⟩ := rows_map (Q := Fm.ok) (f := Fm.cells) rows (fun r hr => ih c (by omega) (h4 r hr).2)
          rw [co29] at e5
          simp at e0 e1 e2 e3 e4 e5
          refine ⟨.mk op name args params exprs xs, ?_, ?_⟩
          · simp only [Fm.ok]
            exact ⟨hop, hname, hargs, hparams, hexprs, len_le (by simpa using h3) by29, Fm.oks_iff.2 h5⟩
          · simp only [Fm.cells, e0, e1, e2, e3, e4, e5, Fm.rows_map]
end Go.Proofs.YtikhonogkpboaaaGreat
namespace Go.Proofs.YtikhonogkpboaaaGreat
open Go.AM
set_option maxHeartbeats 2000000
set_option maxRecDepth 20000
theorem bEq_refl (a : ByteArray) : bEq a a = true := by simp [bEq]
theorem bsEq_refl : ∀ l : List ByteArray, bsEq l l = true
  | [] => rfl
  | a :: l => by simp [bsEq, bEq_refl, bsEq_refl l]
theorem pmsEq_refl : ∀ l : List Pm, pmsEq l l = true
  | [] => rfl
  | a :: l => by simp [pmsEq, pmEq, bEq_refl, pmsEq_refl l]
theorem exs_refl : ∀ {l : List Ex}, (∀ e ∈ l, e.same e = true) → Ex.sames l l = true
  | [], _ => rfl
  | a :: l, h => by rw [Ex.sames, h a (List.mem_cons_self ..), exs_refl (l := l) fun e he => h e (List.mem_cons_of_mem _ he)]; try rfl
theorem ex_refl : ∀ e : Ex, e.same e = true := by
  refine Ex.ind ?_
  intro op name n args kids ih
  simp only [Ex.same, bEq_refl, bsEq_refl, exs_refl ih, beq_self_eq_true, Bool.and_true]
theorem fms_refl : ∀ {l : List Fm}, (∀ e ∈ l, e.same e = true) → Fm.sames l l = true
  | [], _ => rfl
  | a :: l, h => by rw [Fm.sames, h a (List.mem_cons_self ..), fms_refl (l := l) fun e he => h e (List.mem_cons_of_mem _ he)]; try rfl
theorem fm_refl : ∀ f : Fm, f.same f = true := by
  refine Fm.ind ?_
  intro op name args params exprs kids ih
  simp only [Fm.same, bEq_refl, bsEq_refl, pmsEq_refl, exs_refl (fun e _ => ex_refl e), fms_refl ih, Bool.and_true]
theorem bEq_symm (a b : ByteArray) : bEq a b = bEq b a := BEq.comm
theorem bsEq_symm : ∀ l m : List ByteArray, bsEq l m = bsEq m l
  | [], [] => rfl
  | [], _ :: _ => rfl
  | _ :: _, [] => rfl
  | a :: l, b :: m => by rw [bsEq, bsEq, bEq_symm a b, bsEq_symm l m]
theorem pmsEq_symm : ∀ l m : List Pm, pmsEq l m = pmsEq m l
  | [], [] => rfl
  | [], _ :: _ => rfl
  | _ :: _, [] => rfl
  | a :: l, b :: m => by rw [pmsEq, pmsEq, pmEq, pmEq, bEq_symm a.name, bEq_symm a.type, pmsEq_symm l m]
theorem exs_symm : ∀ {l : List Ex}, (∀ e ∈ l, ∀ d, e.same d = d.same e) → ∀ m, Ex.sames l m = Ex.sames m l
  | [], _, [] => rfl
  | [], _, _ :: _ => rfl
  | _ :: _, _, [] => rfl
  | a :: l, h, b :: m => by rw [Ex.sames, Ex.sames, h a (List.mem_cons_self ..), exs_symm (l := l) fun e he => h e (List.mem_cons_of_mem _ he)]
theorem ex_symm : ∀ e d : Ex, e.same d = d.same e := by
  refine Ex.ind ?_
  rintro op name n args kids ih ⟨op2, name2, n2, args2, kids2⟩
  simp only [Ex.same]
  rw [bEq_symm op, bEq_symm name, BEq.comm (a := n), bsEq_symm args, exs_symm ih]
theorem fms_symm : ∀ {l : List Fm}, (∀ e ∈ l, ∀ d, e.same d = d.same e) → ∀ m, Fm.sames l m = Fm.sames m l
  | [], _, [] => rfl
  | [], _, _ :: _ => rfl
  | _ :: _, _, [] => rfl
  | a :: l, h, b :: m => by rw [Fm.sames, Fm.sames, h a (List.mem_cons_self ..), fms_symm (l := l) fun e he => h e (List.mem_cons_of_mem _ he)]
theorem fm_symm : ∀ e d : Fm, e.same d = d.same e := by
  refine Fm.ind ?_
  rintro op name args params exprs kids ih ⟨op2, name2, args2, params2, exprs2, kids2⟩
  simp only [Fm.same]
  rw [bEq_symm op, bEq_symm name, bsEq_symm args, pmsEq_symm params, exs_symm (fun e _ => ex_symm e), fms_symm ih]
end Go.Proofs.YtikhonogkpboaaaGreat
namespace Go.Proofs.YtikhonogkpboaaaGreat
open Go.AM
set_option maxHeartbeats 4000000
set_option maxRecDepth 20000
theorem at_refl (a : At) : a.same a = true := by simp [At.same, bEq_refl, bsEq_refl]
theorem ats_refl : ∀ l : List At, atsEq l l = true
  | [] => rfl
  | a :: l => by simp [atsEq, at_refl, ats_refl l]
theorem vls_refl : ∀ l : List Vl, vlsEq l l = true
  | [] => rfl
  | a :: l => by simp [vlsEq, Vl.same, at_refl, vls_refl l]
theorem pb_refl (p : Pb) : p.same p = true := by simp [Pb.same, bEq_refl, pmsEq_refl, ats_refl, vls_refl, fm_refl]
theorem at_symm (a b : At) : a.same b = b.same a := by simp only [At.same]; rw [bEq_symm, bsEq_symm]
theorem ats_symm : ∀ l m : List At, atsEq l m = atsEq m l
  | [], [] => rfl
  | [], _ :: _ => rfl
  | _ :: _, [] => rfl
  | a :: l, b :: m => by simp only [atsEq]; rw [at_symm a b, ats_symm l m]
theorem vls_symm : ∀ l m : List Vl, vlsEq l m = vlsEq m l
  | [], [] => rfl
  | [], _ :: _ => rfl
  | _ :: _, [] => rfl
  | a :: l, b :: m => by simp only [vlsEq, Vl.same]; rw [at_symm, BEq.comm (a := a.n), vls_symm l m]
theorem pb_symm (p q : Pb) : p.same q = q.same p := by
  simp only [Pb.same]
  rw [bEq_symm p.name, bEq_symm p.domain, pmsEq_symm p.objects, ats_symm p.init, vls_symm p.values, fm_symm p.goal]
theorem problemSame_c {a b : Pb} (ha : a.okS) (hb : b.okS) : PCall Tryz.prog 5 [.agg a.cells, .agg b.cells] Heap.nil fun r _ => r = .sc (.bool true) := by
  have cl := plarge_c a ha
  have cl2 := plarge_c b hb
  have c1 := rpsame_c a b ha hb
  have c2 := psame_c a b ha hb
  have c3 := psame_c b a hb ha
  have c4 := psame_c a a ha ha
  rw [pb_refl] at c4
  rw [pb_symm b a] at c3
  generalize a.same b = e at c1 c2 c3
  generalize largeP a = n at cl
  generalize largeP b = n2 at cl2
  clear ha hb
  have ea : ∃ la, a.cells = la ∧ la.length = 11 := ⟨_, rfl, by obtain ⟨_, _, _, _, _, ⟨_, _, _, _, _, _⟩⟩ := a; rfl⟩
  obtain ⟨aname, adomain, aobjects, ainit, avalues, ⟨aop, agname, aargs, aparams, aexprs, akids⟩⟩ := a
  obtain ⟨bname, bdomain, bobjects, binit, bvalues, ⟨bop, bgname, bargs, bparams, bexprs, bkids⟩⟩ := b
  simp only [Pb.cells, Fm.cells, List.cons_append, List.nil_append] at cl cl2 c1 c2 c3 c4 ⊢
  clear ea
  refine pcall_body (ow := fun _ => false) (wf := fun _ => false) Ty.mixed Tryz.func5 rfl Ty.hb_5 (by rw [Tryz.ntmps5]; simp) ?_
  rw [Tryz.ntmps5, Tryz.results5]
  cases n with
  | true =>
    repeat' (first | (refine a_seq (fun K hK => ?_)) | (refine a_block ?_) | ((first | refine a_regionS ?_ | refine a_region (fun K hK => ?_) | refine a_ret ?_); simp (maxSteps := 2000000) only [Ty.w, simprocAttr]) | ((first | refine a_skip ?_ | refine a_exit ?_); (try simp only [pst0, simprocAttr])) | (refine a_cond _ (by (try simp (maxSteps := 2000000) only [Ty.w, simprocAttr]); rfl) (fun hb => ?_) (fun hb => ?_) <;> (try simp only [hb0, decide_eq_true_eq, decide_eq_false_iff_not, simprocAttr] at hb) <;> (try (exfalso; omega))) | (with_reducible refine ite_in (fun hb => ?_) (fun hb => ?_) <;> (try simp only [Decidable.not_not] at hb) <;> (try simp only [hb, if_true, if_false, not_false_eq_true, not_true_eq_false, ↓reduceIte]) <;> (try simp only [hb0, decide_eq_true_eq, decide_eq_false_iff_not, simprocAttr] at hb) <;> (try (exfalso; omega))) | ((first | refine hK _ _ ?_ | (clear hK; refine hK _ _ ?_) | (clear hK; clear hK; refine hK _ _ ?_) | (clear hK; clear hK; clear hK; refine hK _ _ ?_)); clear hK; (try simp only [pst0, simprocAttr])) | (rw [if_pos]; rotate_left 1; omega; simp (maxSteps := 2000000) only [Ty.w, simprocAttr]))
    refine owp_useQ (cl _) (by (try simp only [Ty.w, simprocAttr, ]); try rfl) ?_; simp (maxSteps := 2000000) only [Ty.w, simprocAttr, ]
    repeat' (first | (refine a_seq (fun K hK => ?_)) | (refine a_block ?_) | ((first | refine a_regionS ?_ | refine a_region (fun K hK => ?_) | refine a_ret ?_); simp (maxSteps := 2000000) only [Ty.w, simprocAttr]) | ((first | refine a_skip ?_ | refine a_exit ?_); (try simp only [pst0, simprocAttr])) | (refine a_cond _ (by (try simp (maxSteps := 2000000) only [Ty.w, simprocAttr]); rfl) (fun hb => ?_) (fun hb => ?_) <;> (try simp only [hb0, decide_eq_true_eq, decide_eq_false_iff_not, simprocAttr] at hb) <;> (try (exfalso; omega))) | (with_reducible refine ite_in (fun hb => ?_) (fun hb => ?_) <;> (try simp only [Decidable.not_not] at hb) <;> (try simp only [hb, if_true, if_false, not_false_eq_true, not_true_eq_false, ↓reduceIte]) <;> (try simp only [hb0, decide_eq_true_eq, decide_eq_false_iff_not, simprocAttr] at hb) <;> (try (exfalso; omega))) | ((first | refine hK _ _ ?_ | (clear hK; refine hK _ _ ?_) | (clear hK; clear hK; refine hK _ _ ?_) | (clear hK; clear hK; clear hK; refine hK _ _ ?_)); clear hK; (try simp only [pst0, simprocAttr])) | (rw [if_pos]; rotate_left 1; omega; simp (maxSteps := 2000000) only [Ty.w, simprocAttr]))
    refine owp_useQ (pbAwake_c) (by (try simp only [Ty.w, simprocAttr, ]); try rfl) ?_; simp (maxSteps := 2000000) only [Ty.w, simprocAttr, ]
    repeat' (first | (refine a_seq (fun K hK => ?_)) | (refine a_block ?_) | ((first | refine a_regionS ?_ | refine a_region (fun K hK => ?_) | refine a_ret ?_); simp (maxSteps := 2000000) only [Ty.w, simprocAttr]) | ((first | refine a_skip ?_ | refine a_exit ?_); (try simp only [pst0, simprocAttr])) | (refine a_cond _ (by (try simp (maxSteps := 2000000) only [Ty.w, simprocAttr]); rfl) (fun hb => ?_) (fun hb => ?_) <;> (try simp only [hb0, decide_eq_true_eq, decide_eq_false_iff_not, simprocAttr] at hb) <;> (try (exfalso; omega))) | (with_reducible refine ite_in (fun hb => ?_) (fun hb => ?_) <;> (try simp only [Decidable.not_not] at hb) <;> (try simp only [hb, if_true, if_false, not_false_eq_true, not_true_eq_false, ↓reduceIte]) <;> (try simp only [hb0, decide_eq_true_eq, decide_eq_false_iff_not, simprocAttr] at hb) <;> (try (exfalso; omega))) | ((first | refine hK _ _ ?_ | (clear hK; refine hK _ _ ?_) | (clear hK; clear hK; refine hK _ _ ?_) | (clear hK; clear hK; clear hK; refine hK _ _ ?_)); clear hK; (try simp only [pst0, simprocAttr])) | (rw [if_pos]; rotate_left 1; omega; simp (maxSteps := 2000000) only [Ty.w, simprocAttr]))
  | false =>
    cases n2 with
    | true =>
      repeat' (first | (refine a_seq (fun K hK => ?_)) | (refine a_block ?_) | ((first | refine a_regionS ?_ | refine a_region (fun K hK => ?_) | refine a_ret ?_); simp (maxSteps := 2000000) only [Ty.w, simprocAttr]) | ((first | refine a_skip ?_ | refine a_exit ?_); (try simp only [pst0, simprocAttr])) | (refine a_cond _ (by (try simp (maxSteps := 2000000) only [Ty.w, simprocAttr]); rfl) (fun hb => ?_) (fun hb => ?_) <;> (try simp only [hb0, decide_eq_true_eq, decide_eq_false_iff_not, simprocAttr] at hb) <;> (try (exfalso; omega))) | (with_reducible refine ite_in (fun hb => ?_) (fun hb => ?_) <;> (try simp only [Decidable.not_not] at hb) <;> (try simp only [hb, if_true, if_false, not_false_eq_true, not_true_eq_false, ↓reduceIte]) <;> (try simp only [hb0, decide_eq_true_eq, decide_eq_false_iff_not, simprocAttr] at hb) <;> (try (exfalso; omega))) | ((first | refine hK _ _ ?_ | (clear hK; refine hK _ _ ?_) | (clear hK; clear hK; refine hK _ _ ?_) | (clear hK; clear hK; clear hK; refine hK _ _ ?_)); clear hK; (try simp only [pst0, simprocAttr])) | (rw [if_pos]; rotate_left 1; omega; simp (maxSteps := 2000000) only [Ty.w, simprocAttr]))
      refine owp_useQ (cl _) (by (try simp only [Ty.w, simprocAttr, ]); try rfl) ?_; simp (maxSteps := 2000000) only [Ty.w, simprocAttr, ]
      repeat' (first | (refine a_seq (fun K hK => ?_)) | (refine a_block ?_) | ((first | refine a_regionS ?_ | refine a_region (fun K hK => ?_) | refine a_ret ?_); simp (maxSteps := 2000000) only [Ty.w, simprocAttr]) | ((first | refine a_skip ?_ | refine a_exit ?_); (try simp only [pst0, simprocAttr])) | (refine a_cond _ (by (try simp (maxSteps := 2000000) only [Ty.w, simprocAttr]); rfl) (fun hb => ?_) (fun hb => ?_) <;> (try simp only [hb0, decide_eq_true_eq, decide_eq_false_iff_not, simprocAttr] at hb) <;> (try (exfalso; omega))) | (with_reducible refine ite_in (fun hb => ?_) (fun hb => ?_) <;> (try simp only [Decidable.not_not] at hb) <;> (try simp only [hb, if_true, if_false, not_false_eq_true, not_true_eq_false, ↓reduceIte]) <;> (try simp only [hb0, decide_eq_true_eq, decide_eq_false_iff_not, simprocAttr] at hb) <;> (try (exfalso; omega))) | ((first | refine hK _ _ ?_ | (clear hK; refine hK _ _ ?_) | (clear hK; clear hK; refine hK _ _ ?_) | (clear hK; clear hK; clear hK; refine hK _ _ ?_)); clear hK; (try simp only [pst0, simprocAttr])) | (rw [if_pos]; rotate_left 1; omega; simp (maxSteps := 2000000) only [Ty.w, simprocAttr]))
      refine owp_useQ (cl2 _) (by (try simp only [Ty.w, simprocAttr, ]); try rfl) ?_; simp (maxSteps := 2000000) only [Ty.w, simprocAttr, ]
      repeat' (first | (refine a_seq (fun K hK => ?_)) | (refine a_block ?_) | ((first | refine a_regionS ?_ | refine a_region (fun K hK => ?_) | refine a_ret ?_); simp (maxSteps := 2000000) only [Ty.w, simprocAttr]) | ((first | refine a_skip ?_ | refine a_exit ?_); (try simp only [pst0, simprocAttr])) | (refine a_cond _ (by (try simp (maxSteps := 2000000) only [Ty.w, simprocAttr]); rfl) (fun hb => ?_) (fun hb => ?_) <;> (try simp only [hb0, decide_eq_true_eq, decide_eq_false_iff_not, simprocAttr] at hb) <;> (try (exfalso; omega))) | (with_reducible refine ite_in (fun hb => ?_) (fun hb => ?_) <;> (try simp only [Decidable.not_not] at hb) <;> (try simp only [hb, if_true, if_false, not_false_eq_true, not_true_eq_false, ↓reduceIte]) <;> (try simp only [hb0, decide_eq_true_eq, decide_eq_false_iff_not, simprocAttr] at hb) <;> (try (exfalso; omega))) | ((first | refine hK _ _ ?_ | (clear hK; refine hK _ _ ?_) | (clear hK; clear hK; refine hK _ _ ?_) | (clear hK; clear hK; clear hK; refine hK _ _ ?_)); clear hK; (try simp only [pst0, simprocAttr])) | (rw [if_pos]; rotate_left 1; omega; simp (maxSteps := 2000000) only [Ty.w, simprocAttr]))
      refine owp_useQ (pbAwake_c) (by (try simp only [Ty.w, simprocAttr, ]); try rfl) ?_; simp (maxSteps := 2000000) only [Ty.w, simprocAttr, ]
      repeat' (first | (refine a_seq (fun K hK => ?_)) | (refine a_block ?_) | ((first | refine a_regionS ?_ | refine a_region (fun K hK => ?_) | refine a_ret ?_); simp (maxSteps := 2000000) only [Ty.w, simprocAttr]) | ((first | refine a_skip ?_ | refine a_exit ?_); (try simp only [pst0, simprocAttr])) | (refine a_cond _ (by (try simp (maxSteps := 2000000) only [Ty.w, simprocAttr]); rfl) (fun hb => ?_) (fun hb => ?_) <;> (try simp only [hb0, decide_eq_true_eq, decide_eq_false_iff_not, simprocAttr] at hb) <;> (try (exfalso; omega))) | (with_reducible refine ite_in (fun hb => ?_) (fun hb => ?_) <;> (try simp only [Decidable.not_not] at hb) <;> (try simp only [hb, if_true, if_false, not_false_eq_true, not_true_eq_false, ↓reduceIte]) <;> (try simp only [hb0, decide_eq_true_eq, decide_eq_false_iff_not, simprocAttr] at hb) <;> (try (exfalso; omega))) | ((first | refine hK _ _ ?_ | (clear hK; refine hK _ _ ?_) | (clear hK; clear hK; refine hK _ _ ?_) | (clear hK; clear hK; clear hK; refine hK _ _ ?_)); clear hK; (try simp only [pst0, simprocAttr])) | (rw [if_pos]; rotate_left 1; omega; simp (maxSteps := 2000000) only [Ty.w, simprocAttr]))
    | false =>
      repeat' (first | (refine a_seq (fun K hK => ?_)) | (refine a_block ?_) | ((first | refine a_regionS ?_ | refine a_region (fun K hK => ?_) | refine a_ret ?_); simp (maxSteps := 2000000) only [Ty.w, simprocAttr]) | ((first | refine a_skip ?_ | refine a_exit ?_); (try simp only [pst0, simprocAttr])) | (refine a_cond _ (by (try simp (maxSteps := 2000000) only [Ty.w, simprocAttr]); rfl) (fun hb => ?_) (fun hb => ?_) <;> (try simp only [hb0, decide_eq_true_eq, decide_eq_false_iff_not, simprocAttr] at hb) <;> (try (exfalso; omega))) | (with_reducible refine ite_in (fun hb => ?_) (fun hb => ?_) <;> (try simp only [Decidable.not_not] at hb) <;> (try simp only [hb, if_true, if_false, not_false_eq_true, not_true_eq_false, ↓reduceIte]) <;> (try simp only [hb0, decide_eq_true_eq, decide_eq_false_iff_not, simprocAttr] at hb) <;> (try (exfalso; omega))) | ((first | refine hK _ _ ?_ | (clear hK; refine hK _ _ ?_) | (clear hK; clear hK; refine hK _ _ ?_) | (clear hK; clear hK; clear hK; refine hK _ _ ?_)); clear hK; (try simp only [pst0, simprocAttr])) | (rw [if_pos]; rotate_left 1; omega; simp (maxSteps := 2000000) only [Ty.w, simprocAttr]))
      refine owp_useQ (cl _) (by (try simp only [Ty.w, simprocAttr, ]); try rfl) ?_; simp (maxSteps := 2000000) only [Ty.w, simprocAttr, ]
      repeat' (first | (refine a_seq (fun K hK => ?_)) | (refine a_block ?_) | ((first | refine a_regionS ?_ | refine a_region (fun K hK => ?_) | refine a_ret ?_); simp (maxSteps := 2000000) only [Ty.w, simprocAttr]) | ((first | refine a_skip ?_ | refine a_exit ?_); (try simp only [pst0, simprocAttr])) | (refine a_cond _ (by (try simp (maxSteps := 2000000) only [Ty.w, simprocAttr]); rfl) (fun hb => ?_) (fun hb => ?_) <;> (try simp only [hb0, decide_eq_true_eq, decide_eq_false_iff_not, simprocAttr] at hb) <;> (try (exfalso; omega))) | (with_reducible refine ite_in (fun hb => ?_) (fun hb => ?_) <;> (try simp only [Decidable.not_not] at hb) <;> (try simp only [hb, if_true, if_false, not_false_eq_true, not_true_eq_false, ↓reduceIte]) <;> (try simp only [hb0, decide_eq_true_eq, decide_eq_false_iff_not, simprocAttr] at hb) <;> (try (exfalso; omega))) | ((first | refine hK _ _ ?_ | (clear hK; refine hK _ _ ?_) | (clear hK; clear hK; refine hK _ _ ?_) | (clear hK; clear hK; clear hK; refine hK _ _ ?_)); clear hK; (try simp only [pst0, simprocAttr])) | (rw [if_pos]; rotate_left 1; omega; simp (maxSteps := 2000000) only [Ty.w, simprocAttr]))
      refine owp_useQ (cl2 _) (by (try simp only [Ty.w, simprocAttr, ]); try rfl) ?_; simp (maxSteps := 2000000) only [Ty.w, simprocAttr, ]
      repeat' (first | (refine a_seq (fun K hK => ?_)) | (refine a_block ?_) | ((first | refine a_regionS ?_ | refine a_region (fun K hK => ?_) | refine a_ret ?_); simp (maxSteps := 2000000) only [Ty.w, simprocAttr]) | ((first | refine a_skip ?_ | refine a_exit ?_); (try simp only [pst0, simprocAttr])) | (refine a_cond _ (by (try simp (maxSteps := 2000000) only [Ty.w, simprocAttr]); rfl) (fun hb => ?_) (fun hb => ?_) <;> (try simp only [hb0, decide_eq_true_eq, decide_eq_false_iff_not, simprocAttr] at hb) <;> (try (exfalso; omega))) | (with_reducible refine ite_in (fun hb => ?_) (fun hb => ?_) <;> (try simp only [Decidable.not_not] at hb) <;> (try simp only [hb, if_true, if_false, not_false_eq_true, not_true_eq_false, ↓reduceIte]) <;> (try simp only [hb0, decide_eq_true_eq, decide_eq_false_iff_not, simprocAttr] at hb) <;> (try (exfalso; omega))) | ((first | refine hK _ _ ?_ | (clear hK; refine hK _ _ ?_) | (clear hK; clear hK; refine hK _ _ ?_) | (clear hK; clear hK; clear hK; refine hK _ _ ?_)); clear hK; (try simp only [pst0, simprocAttr])) | (rw [if_pos]; rotate_left 1; omega; simp (maxSteps := 2000000) only [Ty.w, simprocAttr]))
      refine owp_useQ (pbAwake_c) (by (try simp only [Ty.w, simprocAttr, ]); try rfl) ?_; simp (maxSteps := 2000000) only [Ty.w, simprocAttr, ]
      repeat' (first | (refine a_seq (fun K hK => ?_)) | (refine a_block ?_) | ((first | refine a_regionS ?_ | refine a_region (fun K hK => ?_) | refine a_ret ?_); simp (maxSteps := 2000000) only [Ty.w, simprocAttr, Bool.not_true]) | ((first | refine a_skip ?_ | refine a_exit ?_); (try simp only [pst0, simprocAttr])) | (refine a_cond _ (by (try simp (maxSteps := 2000000) only [Ty.w, simprocAttr, Bool.not_true]); rfl) (fun hb => ?_) (fun hb => ?_) <;> (try simp only [hb0, decide_eq_true_eq, decide_eq_false_iff_not, simprocAttr] at hb) <;> (try (exfalso; omega))) | (with_reducible refine ite_in (fun hb => ?_) (fun hb => ?_) <;> (try simp only [Decidable.not_not] at hb) <;> (try simp only [hb, if_true, if_false, not_false_eq_true, not_true_eq_false, ↓reduceIte]) <;> (try simp only [hb0, decide_eq_true_eq, decide_eq_false_iff_not, simprocAttr] at hb) <;> (try (exfalso; omega))) | ((first | refine hK _ _ ?_ | (clear hK; refine hK _ _ ?_) | (clear hK; clear hK; refine hK _ _ ?_) | (clear hK; clear hK; clear hK; refine hK _ _ ?_)); clear hK; (try simp only [pst0, simprocAttr])) | (rw [if_pos]; rotate_left 1; omega; simp (maxSteps := 2000000) only [Ty.w, simprocAttr, Bool.not_true]))
      refine owp_useQ (c1 _) (by (try simp only [Ty.w, simprocAttr, ]); try rfl) ?_; simp (maxSteps := 2000000) only [Ty.w, simprocAttr, ]
      repeat' (first | (refine a_seq (fun K hK => ?_)) | (refine a_block ?_) | ((first | refine a_regionS ?_ | refine a_region (fun K hK => ?_) | refine a_ret ?_); simp (maxSteps := 2000000) only [Ty.w, simprocAttr]) | ((first | refine a_skip ?_ | refine a_exit ?_); (try simp only [pst0, simprocAttr])) | (refine a_cond _ (by (try simp (maxSteps := 2000000) only [Ty.w, simprocAttr]); rfl) (fun hb => ?_) (fun hb => ?_) <;> (try simp only [hb0, decide_eq_true_eq, decide_eq_false_iff_not, simprocAttr] at hb) <;> (try (exfalso; omega))) | (with_reducible refine ite_in (fun hb => ?_) (fun hb => ?_) <;> (try simp only [Decidable.not_not] at hb) <;> (try simp only [hb, if_true, if_false, not_false_eq_true, not_true_eq_false, ↓reduceIte]) <;> (try simp only [hb0, decide_eq_true_eq, decide_eq_false_iff_not, simprocAttr] at hb) <;> (try (exfalso; omega))) | ((first | refine hK _ _ ?_ | (clear hK; refine hK _ _ ?_) | (clear hK; clear hK; refine hK _ _ ?_) | (clear hK; clear hK; clear hK; refine hK _ _ ?_)); clear hK; (try simp only [pst0, simprocAttr])) | (rw [if_pos]; rotate_left 1; omega; simp (maxSteps := 2000000) only [Ty.w, simprocAttr]))
      refine owp_useQ (c2 _) (by (try simp only [Ty.w, simprocAttr, ]); try rfl) ?_; simp (maxSteps := 2000000) only [Ty.w, simprocAttr, ]
      repeat' (first | (refine a_seq (fun K hK => ?_)) | (refine a_block ?_) | ((first | refine a_regionS ?_ | refine a_region (fun K hK => ?_) | refine a_ret ?_); simp (maxSteps := 2000000) only [Ty.w, simprocAttr]) | ((first | refine a_skip ?_ | refine a_exit ?_); (try simp only [pst0, simprocAttr])) | (refine a_cond _ (by (try simp (maxSteps := 2000000) only [Ty.w, simprocAttr]); rfl) (fun hb => ?_) (fun hb => ?_) <;> (try simp only [hb0, decide_eq_true_eq, decide_eq_false_iff_not, simprocAttr] at hb) <;> (try (exfalso; omega))) | (with_reducible refine ite_in (fun hb => ?_) (fun hb => ?_) <;> (try simp only [Decidable.not_not] at hb) <;> (try simp only [hb, if_true, if_false, not_false_eq_true, not_true_eq_false, ↓reduceIte]) <;> (try simp only [hb0, decide_eq_true_eq, decide_eq_false_iff_not, simprocAttr] at hb) <;> (try (exfalso; omega))) | ((first | refine hK _ _ ?_ | (clear hK; refine hK _ _ ?_) | (clear hK; clear hK; refine hK _ _ ?_) | (clear hK; clear hK; clear hK; refine hK _ _ ?_)); clear hK; (try simp only [pst0, simprocAttr])) | (rw [if_pos]; rotate_left 1; omega; simp (maxSteps := 2000000) only [Ty.w, simprocAttr]))
      refine owp_useQ (c3 _) (by (try simp only [Ty.w, simprocAttr, ]); try rfl) ?_; simp (maxSteps := 2000000) only [Ty.w, simprocAttr, ]
      repeat' (first | (refine a_seq (fun K hK => ?_)) | (refine a_block ?_) | ((first | refine a_regionS ?_ | refine a_region (fun K hK => ?_) | refine a_ret ?_); simp (maxSteps := 2000000) only [Ty.w, simprocAttr]) | ((first | refine a_skip ?_ | refine a_exit ?_); (try simp only [pst0, simprocAttr])) | (refine a_cond _ (by (try simp (maxSteps := 2000000) only [Ty.w, simprocAttr]); rfl) (fun hb => ?_) (fun hb => ?_) <;> (try simp only [hb0, decide_eq_true_eq, decide_eq_false_iff_not, simprocAttr] at hb) <;> (try (exfalso; omega))) | (with_reducible refine ite_in (fun hb => ?_) (fun hb => ?_) <;> (try simp only [Decidable.not_not] at hb) <;> (try simp only [hb, if_true, if_false, not_false_eq_true, not_true_eq_false, ↓reduceIte]) <;> (try simp only [hb0, decide_eq_true_eq, decide_eq_false_iff_not, simprocAttr] at hb) <;> (try (exfalso; omega))) | ((first | refine hK _ _ ?_ | (clear hK; refine hK _ _ ?_) | (clear hK; clear hK; refine hK _ _ ?_) | (clear hK; clear hK; clear hK; refine hK _ _ ?_)); clear hK; (try simp only [pst0, simprocAttr])) | (rw [if_pos]; rotate_left 1; omega; simp (maxSteps := 2000000) only [Ty.w, simprocAttr]))
      refine owp_useQ (c4 _) (by (try simp only [Ty.w, simprocAttr, ]); try rfl) ?_; simp (maxSteps := 2000000) only [Ty.w, simprocAttr, ]
      repeat' (first | (refine a_seq (fun K hK => ?_)) | (refine a_block ?_) | ((first | refine a_regionS ?_ | refine a_region (fun K hK => ?_) | refine a_ret ?_); simp (maxSteps := 2000000) only [Ty.w, simprocAttr]) | ((first | refine a_skip ?_ | refine a_exit ?_); (try simp only [pst0, simprocAttr])) | (refine a_cond _ (by (try simp (maxSteps := 2000000) only [Ty.w, simprocAttr]); rfl) (fun hb => ?_) (fun hb => ?_) <;> (try simp only [hb0, decide_eq_true_eq, decide_eq_false_iff_not, simprocAttr] at hb) <;> (try (exfalso; omega))) | (with_reducible refine ite_in (fun hb => ?_) (fun hb => ?_) <;> (try simp only [Decidable.not_not] at hb) <;> (try simp only [hb, if_true, if_false, not_false_eq_true, not_true_eq_false, ↓reduceIte]) <;> (try simp only [hb0, decide_eq_true_eq, decide_eq_false_iff_not, simprocAttr] at hb) <;> (try (exfalso; omega))) | ((first | refine hK _ _ ?_ | (clear hK; refine hK _ _ ?_) | (clear hK; clear hK; refine hK _ _ ?_) | (clear hK; clear hK; clear hK; refine hK _ _ ?_)); clear hK; (try simp only [pst0, simprocAttr])) | (rw [if_pos]; rotate_left 1; omega; simp (maxSteps := 2000000) only [Ty.w, simprocAttr]))
end Go.Proofs.YtikhonogkpboaaaGreat
namespace Go.Proofs.YtikhonogkpboaaaGreat
open Go.AM
set_option maxHeartbeats 1000000
set_option maxRecDepth 20000
def pbTs : List TypeId := recTs ++ [41, 111, 33, 113, 34]
theorem partsAt : partsT Tryz.prog 111 = [(0, 9), (1, 35)] := by kernel_rfl
theorem partsVl : partsT Tryz.prog 113 = [(0, 111), (2, 3)] := by kernel_rfl
theorem partsPb : partsT Tryz.prog 41 = [(0, 9), (1, 9), (2, 22), (3, 33), (4, 34), (5, 39)] := by kernel_rfl
theorem coAt : Tryz.prog.cellsOf 111 = 2 := by kernel_rfl
theorem coVl : Tryz.prog.cellsOf 113 = 3 := by kernel_rfl
theorem coPb : Tryz.prog.cellsOf 41 = 11 := by kernel_rfl
theorem coAts : Tryz.prog.cellsOf 33 = 1 := by kernel_rfl
theorem coVls : Tryz.prog.cellsOf 34 = 1 := by kernel_rfl
theorem byAt : 0 < Tryz.prog.bytesOf 111 := by rw [show Tryz.prog.bytesOf 111 = 40 by kernel_rfl]; omega
theorem byVl : 0 < Tryz.prog.bytesOf 113 := by rw [show Tryz.prog.bytesOf 113 = 48 by kernel_rfl]; omega
theorem arg_at {c : Nat} {ps : List PV} (h : Arg Tryz.prog c 111 ps) : ∃ a : At, a.ok ∧ ps = atRow a := by
  cases c with
  | zero => simp [Arg] at h
  | succ c =>
    obtain ⟨h1, h2⟩ := Arg_struct Tryz.underlying111 h
    rw [coAt] at h1
    rw [partsAt] at h2
    match ps, h1, h2 with
    | [p0, p1], _, h2 =>
      have a0 := h2 (0, 9) (by simp)
      have a1 := h2 (1, 35) (by simp)
      simp only [co9, co24, List.drop_zero, List.drop_succ_cons, List.take_succ_cons, List.take_zero] at a0 a1
      obtain ⟨s, hs, e1⟩ := arg_str a0
      obtain ⟨t, ht, e2⟩ := arg_strs a1
      simp at e1 e2
      exact ⟨⟨s, t⟩, ⟨hs, ht⟩, by simp [atRow, e1, e2]⟩
theorem arg_ats {c : Nat} {ps : List PV} (h : Arg Tryz.prog c 33 ps) : ∃ l : List At, (l.length ≤ bigN ∧ ∀ a ∈ l, a.ok) ∧ ps = [.imm 2 (atRows l)] := by
  cases c with
  | zero => simp [Arg] at h
  | succ c =>
    obtain ⟨rows, rfl, h1, _, h2⟩ := Arg_slice Tryz.underlying33 h
    obtain ⟨xs, rfl, h3⟩ := rows_map (Q := At.ok) (f := atRow) rows (fun r hr => arg_at (h2 r hr).2)
    refine ⟨xs, ⟨len_le (by simpa using h1) byAt, h3⟩, ?_⟩
    rw [coAt]; try rfl
theorem arg_vl {c : Nat} {ps : List PV} (h : Arg Tryz.prog c 113 ps) : ∃ a : Vl, a.okS ∧ ps = vlRow a := by
  cases c with
  | zero => simp [Arg] at h
  | succ c =>
    obtain ⟨h1, h2⟩ := Arg_struct Tryz.underlying113 h
    rw [coVl] at h1
    rw [partsVl] at h2
    match ps, h1, h2 with
    | [p0, p1, p2], _, h2 =>
      have a0 := h2 (0, 111) (by simp)
      have a1 := h2 (2, 3) (by simp)
      simp only [coAt, co3, List.drop_zero, List.drop_succ_cons, List.take_succ_cons, List.take_zero] at a0 a1
      obtain ⟨s, hs, e1⟩ := arg_at a0
      obtain ⟨n, hn, e2⟩ := arg_i64 a1
      simp [atRow] at e1 e2
      exact ⟨⟨s, n⟩, hs, by simp [vlRow, e1, e2]⟩
theorem arg_vls {c : Nat} {ps : List PV} (h : Arg Tryz.prog c 34 ps) : ∃ l : List Vl, (l.length ≤ bigN ∧ ∀ a ∈ l, a.okS) ∧ ps = [.imm 3 (vlRows l)] := by
  cases c with
  | zero => simp [Arg] at h
  | succ c =>
    obtain ⟨rows, rfl, h1, _, h2⟩ := Arg_slice Tryz.underlying34 h
    obtain ⟨xs, rfl, h3⟩ := rows_map (Q := Vl.okS) (f := vlRow) rows (fun r hr => arg_vl (h2 r hr).2)
    refine ⟨xs, ⟨len_le (by simpa using h1) byVl, h3⟩, ?_⟩
    rw [coVl]; try rfl
theorem arg_pb (c : Nat) {ps : List PV} (h : Arg Tryz.prog c 41 ps) : ∃ p : Pb, p.okS ∧ ps = p.cells := by
  cases c with
  | zero => simp [Arg] at h
  | succ c =>
    obtain ⟨h1, h2⟩ := Arg_struct Tryz.underlying41 h
    rw [coPb] at h1
    rw [partsPb] at h2
    match ps, h1, h2 with
    | [p0, p1, p2, p3, p4, p5, p6, p7, p8, p9, p10], _, h2 =>
      have a0 := h2 (0, 9) (by simp)
      have a1 := h2 (1, 9) (by simp)
      have a2 := h2 (2, 22) (by simp)
      have a3 := h2 (3, 33) (by simp)
      have a4 := h2 (4, 34) (by simp)
      have a5 := h2 (5, 39) (by simp)
      simp only [co9, co25, coAts, coVls, co29, List.drop_zero, List.drop_succ_cons, List.take_succ_cons, List.take_zero] at a0 a1 a2 a3 a4 a5
      obtain ⟨name, hname, e0⟩ := arg_str a0
      obtain ⟨domain, hdomain, e1⟩ := arg_str a1
      obtain ⟨objects, hobjects, e2⟩ := arg_pms a2
      obtain ⟨init, hinit, e3⟩ := arg_ats a3
      obtain ⟨values, hvalues, e4⟩ := arg_vls a4
      obtain ⟨goal, hgoal, e5⟩ := arg_fm _ a5
      simp at e0 e1 e2 e3 e4
      refine ⟨⟨name, domain, objects, init, values, goal⟩, ⟨hobjects.1, hinit, hvalues, hgoal⟩, ?_⟩
      simp only [Pb.cells, e0, e1, e2, e3, e4, List.cons_append, List.nil_append]
      rw [← e5]
end Go.Proofs.YtikhonogkpboaaaGreat
