/- What the claim rests on, part 5: the abstract machine, contracts of the functions, plain data. -/
import Derived.Test.YtikhonogkpboaaaGreatZu4
set_option linter.unusedVariables false
set_option linter.unusedSimpArgs false
set_option linter.unusedSectionVars false
namespace Go.Proofs.YtikhonogkpboaaaGreat
open Go.AM
set_option maxHeartbeats 4000000
set_option maxRecDepth 20000
theorem rdsame_c (a b : Dm) (ha : a.ok) (hb : b.ok) (h : Heap) : PCall Tryz.prog 15 [.agg a.cells, .agg b.cells] h fun r h' => r = .sc (.bool (a.same b)) ∧ h' = h := by
  have c_types := fun h : Heap => rparams_c (h := h) (l := a.types) (m := b.types) ha.types.1 hb.types.1
  have c_constants := fun h : Heap => rparams_c (h := h) (l := a.constants) (m := b.constants) ha.constants.1 hb.constants.1
  have la_predicates := ha.predicates.1
  have oa_predicates := ha.predicates.2
  have ob_predicates := hb.predicates.2
  have la_functions := ha.functions.1
  have oa_functions := ha.functions.2
  have ob_functions := hb.functions.2
  have la_actions := ha.actions.1
  have oa_actions := ha.actions.2
  have ob_actions := hb.actions.2
  have la_duratives := ha.duratives.1
  have oa_duratives := ha.duratives.2
  have ob_duratives := hb.duratives.2
  clear ha hb
  obtain ⟨name, types, constants, predicates, functions, actions, duratives⟩ := a
  obtain ⟨name3, types3, constants3, predicates3, functions3, actions3, duratives3⟩ := b
  generalize hF : Dm.same _ _ = F
  simp only [Dm.same, Dm.cells, bEq, bigN] at *
  have ll_predicates := prRows_len predicates
  have lm_predicates := prRows_len predicates3
  have ll_functions := fuRows_len functions
  have lm_functions := fuRows_len functions3
  have ll_actions := acRows_len actions
  have lm_actions := acRows_len actions3
  have ll_duratives := duRows_len duratives
  have lm_duratives := duRows_len duratives3
  generalize pmsEq types types3 = v1 at c_types hF
  generalize pmsEq constants constants3 = v2 at c_constants hF
  refine PCall.quiet Ty.hb_15 ?_
  refine pcall_body (ow := fun _ => false) (wf := fun _ => false) Ty.mixed Tryz.func15 rfl Ty.hb_15 (by rw [Tryz.ntmps15]; simp) ?_
  rw [Tryz.ntmps15, Tryz.results15]
  cases q0 : (name.data.toList == name3.data.toList) with
  | false =>
    repeat' (first | (refine a_seq (fun K hK => ?_)) | (refine a_block ?_) | ((first | refine a_regionS ?_ | refine a_region (fun K hK => ?_) | refine a_ret ?_); simp (maxSteps := 2000000) only [Ty.w, simprocAttr, bne, Bool.not_true, Bool.not_false, q0]) | ((first | refine a_skip ?_ | refine a_exit ?_); (try simp only [pst0, simprocAttr])) | (refine a_cond _ (by (try simp (maxSteps := 2000000) only [Ty.w, simprocAttr, bne, Bool.not_true, Bool.not_false, q0]); rfl) (fun hb => ?_) (fun hb => ?_) <;> (try simp only [hb0, decide_eq_true_eq, decide_eq_false_iff_not, simprocAttr] at hb) <;> (try (exfalso; omega))) | (with_reducible refine ite_in (fun hb => ?_) (fun hb => ?_) <;> (try simp only [Decidable.not_not] at hb) <;> (try simp only [hb, if_true, if_false, not_false_eq_true, not_true_eq_false, ↓reduceIte]) <;> (try simp only [hb0, decide_eq_true_eq, decide_eq_false_iff_not, simprocAttr] at hb) <;> (try (exfalso; omega))) | ((first | refine hK _ _ ?_ | (clear hK; refine hK _ _ ?_) | (clear hK; clear hK; refine hK _ _ ?_) | (clear hK; clear hK; clear hK; refine hK _ _ ?_)); clear hK; (try simp only [pst0, simprocAttr])) | (rw [if_pos]; rotate_left 1; omega; simp (maxSteps := 2000000) only [Ty.w, simprocAttr, bne, Bool.not_true, Bool.not_false, q0]))
    all_goals (refine ⟨?_, Grow.refl _⟩; first | rfl | (rw [← hF]; simp only [q0, Bool.true_and, Bool.false_and, Bool.and_false, Bool.and_true]; done))
  | true =>
    repeat' (first | (refine a_seq (fun K hK => ?_)) | (refine a_block ?_) | ((first | refine a_regionS ?_ | refine a_region (fun K hK => ?_) | refine a_ret ?_); simp (maxSteps := 2000000) only [Ty.w, simprocAttr, bne, Bool.not_true, Bool.not_false, q0]) | ((first | refine a_skip ?_ | refine a_exit ?_); (try simp only [pst0, simprocAttr])) | (refine a_cond _ (by (try simp (maxSteps := 2000000) only [Ty.w, simprocAttr, bne, Bool.not_true, Bool.not_false, q0]); rfl) (fun hb => ?_) (fun hb => ?_) <;> (try simp only [hb0, decide_eq_true_eq, decide_eq_false_iff_not, simprocAttr] at hb) <;> (try (exfalso; omega))) | (with_reducible refine ite_in (fun hb => ?_) (fun hb => ?_) <;> (try simp only [Decidable.not_not] at hb) <;> (try simp only [hb, if_true, if_false, not_false_eq_true, not_true_eq_false, ↓reduceIte]) <;> (try simp only [hb0, decide_eq_true_eq, decide_eq_false_iff_not, simprocAttr] at hb) <;> (try (exfalso; omega))) | ((first | refine hK _ _ ?_ | (clear hK; refine hK _ _ ?_) | (clear hK; clear hK; refine hK _ _ ?_) | (clear hK; clear hK; clear hK; refine hK _ _ ?_)); clear hK; (try simp only [pst0, simprocAttr])) | (rw [if_pos]; rotate_left 1; omega; simp (maxSteps := 2000000) only [Ty.w, simprocAttr, bne, Bool.not_true, Bool.not_false, q0]))
    cases v1 with
    | false =>
      refine owp_useQ (c_types _) (by (try simp only [Ty.w, simprocAttr, bne, Bool.not_true, Bool.not_false, q0]); try rfl) ?_; simp (maxSteps := 2000000) only [Ty.w, simprocAttr, bne, Bool.not_true, Bool.not_false, q0]
      repeat' (first | (refine a_seq (fun K hK => ?_)) | (refine a_block ?_) | ((first | refine a_regionS ?_ | refine a_region (fun K hK => ?_) | refine a_ret ?_); simp (maxSteps := 2000000) only [Ty.w, simprocAttr, bne, Bool.not_true, Bool.not_false, q0]) | ((first | refine a_skip ?_ | refine a_exit ?_); (try simp only [pst0, simprocAttr])) | (refine a_cond _ (by (try simp (maxSteps := 2000000) only [Ty.w, simprocAttr, bne, Bool.not_true, Bool.not_false, q0]); rfl) (fun hb => ?_) (fun hb => ?_) <;> (try simp only [hb0, decide_eq_true_eq, decide_eq_false_iff_not, simprocAttr] at hb) <;> (try (exfalso; omega))) | (with_reducible refine ite_in (fun hb => ?_) (fun hb => ?_) <;> (try simp only [Decidable.not_not] at hb) <;> (try simp only [hb, if_true, if_false, not_false_eq_true, not_true_eq_false, ↓reduceIte]) <;> (try simp only [hb0, decide_eq_true_eq, decide_eq_false_iff_not, simprocAttr] at hb) <;> (try (exfalso; omega))) | ((first | refine hK _ _ ?_ | (clear hK; refine hK _ _ ?_) | (clear hK; clear hK; refine hK _ _ ?_) | (clear hK; clear hK; clear hK; refine hK _ _ ?_)); clear hK; (try simp only [pst0, simprocAttr])) | (rw [if_pos]; rotate_left 1; omega; simp (maxSteps := 2000000) only [Ty.w, simprocAttr, bne, Bool.not_true, Bool.not_false, q0]))
      all_goals (refine ⟨?_, Grow.refl _⟩; first | rfl | (rw [← hF]; simp only [q0, Bool.true_and, Bool.false_and, Bool.and_false, Bool.and_true]; done))
    | true =>
      refine owp_useQ (c_types _) (by (try simp only [Ty.w, simprocAttr, bne, Bool.not_true, Bool.not_false, q0]); try rfl) ?_; simp (maxSteps := 2000000) only [Ty.w, simprocAttr, bne, Bool.not_true, Bool.not_false, q0]
      repeat' (first | (refine a_seq (fun K hK => ?_)) | (refine a_block ?_) | ((first | refine a_regionS ?_ | refine a_region (fun K hK => ?_) | refine a_ret ?_); simp (maxSteps := 2000000) only [Ty.w, simprocAttr, bne, Bool.not_true, Bool.not_false, q0]) | ((first | refine a_skip ?_ | refine a_exit ?_); (try simp only [pst0, simprocAttr])) | (refine a_cond _ (by (try simp (maxSteps := 2000000) only [Ty.w, simprocAttr, bne, Bool.not_true, Bool.not_false, q0]); rfl) (fun hb => ?_) (fun hb => ?_) <;> (try simp only [hb0, decide_eq_true_eq, decide_eq_false_iff_not, simprocAttr] at hb) <;> (try (exfalso; omega))) | (with_reducible refine ite_in (fun hb => ?_) (fun hb => ?_) <;> (try simp only [Decidable.not_not] at hb) <;> (try simp only [hb, if_true, if_false, not_false_eq_true, not_true_eq_false, ↓reduceIte]) <;> (try simp only [hb0, decide_eq_true_eq, decide_eq_false_iff_not, simprocAttr] at hb) <;> (try (exfalso; omega))) | ((first | refine hK _ _ ?_ | (clear hK; refine hK _ _ ?_) | (clear hK; clear hK; refine hK _ _ ?_) | (clear hK; clear hK; clear hK; refine hK _ _ ?_)); clear hK; (try simp only [pst0, simprocAttr])) | (rw [if_pos]; rotate_left 1; omega; simp (maxSteps := 2000000) only [Ty.w, simprocAttr, bne, Bool.not_true, Bool.not_false, q0]))
      cases v2 with
      | false =>
        refine owp_useQ (c_constants _) (by (try simp only [Ty.w, simprocAttr, bne, Bool.not_true, Bool.not_false, q0]); try rfl) ?_; simp (maxSteps := 2000000) only [Ty.w, simprocAttr, bne, Bool.not_true, Bool.not_false, q0]
        repeat' (first | (refine a_seq (fun K hK => ?_)) | (refine a_block ?_) | ((first | refine a_regionS ?_ | refine a_region (fun K hK => ?_) | refine a_ret ?_); simp (maxSteps := 2000000) only [Ty.w, simprocAttr, bne, Bool.not_true, Bool.not_false, q0]) | ((first | refine a_skip ?_ | refine a_exit ?_); (try simp only [pst0, simprocAttr])) | (refine a_cond _ (by (try simp (maxSteps := 2000000) only [Ty.w, simprocAttr, bne, Bool.not_true, Bool.not_false, q0]); rfl) (fun hb => ?_) (fun hb => ?_) <;> (try simp only [hb0, decide_eq_true_eq, decide_eq_false_iff_not, simprocAttr] at hb) <;> (try (exfalso; omega))) | (with_reducible refine ite_in (fun hb => ?_) (fun hb => ?_) <;> (try simp only [Decidable.not_not] at hb) <;> (try simp only [hb, if_true, if_false, not_false_eq_true, not_true_eq_false, ↓reduceIte]) <;> (try simp only [hb0, decide_eq_true_eq, decide_eq_false_iff_not, simprocAttr] at hb) <;> (try (exfalso; omega))) | ((first | refine hK _ _ ?_ | (clear hK; refine hK _ _ ?_) | (clear hK; clear hK; refine hK _ _ ?_) | (clear hK; clear hK; clear hK; refine hK _ _ ?_)); clear hK; (try simp only [pst0, simprocAttr])) | (rw [if_pos]; rotate_left 1; omega; simp (maxSteps := 2000000) only [Ty.w, simprocAttr, bne, Bool.not_true, Bool.not_false, q0]))
        all_goals (refine ⟨?_, Grow.refl _⟩; first | rfl | (rw [← hF]; simp only [q0, Bool.true_and, Bool.false_and, Bool.and_false, Bool.and_true]; done))
      | true =>
        refine owp_useQ (c_constants _) (by (try simp only [Ty.w, simprocAttr, bne, Bool.not_true, Bool.not_false, q0]); try rfl) ?_; simp (maxSteps := 2000000) only [Ty.w, simprocAttr, bne, Bool.not_true, Bool.not_false, q0]
        cases n_predicates : ((predicates.length : Int) == (predicates3.length : Int)) with
        | false =>
          have : prsEq predicates predicates3 = false := prsEq_len (by simp at n_predicates; omega)
          repeat' (first | (refine a_seq (fun K hK => ?_)) | (refine a_block ?_) | ((first | refine a_regionS ?_ | refine a_region (fun K hK => ?_) | refine a_ret ?_); simp (maxSteps := 2000000) only [Ty.w, simprocAttr, bne, Bool.not_true, Bool.not_false, ll_predicates, lm_predicates, ll_functions, lm_functions, ll_actions, lm_actions, ll_duratives, lm_duratives, q0, n_predicates]) | ((first | refine a_skip ?_ | refine a_exit ?_); (try simp only [pst0, simprocAttr])) | (refine a_cond _ (by (try simp (maxSteps := 2000000) only [Ty.w, simprocAttr, bne, Bool.not_true, Bool.not_false, ll_predicates, lm_predicates, ll_functions, lm_functions, ll_actions, lm_actions, ll_duratives, lm_duratives, q0, n_predicates]); rfl) (fun hb => ?_) (fun hb => ?_) <;> (try simp only [hb0, decide_eq_true_eq, decide_eq_false_iff_not, simprocAttr] at hb) <;> (try (exfalso; omega))) | (with_reducible refine ite_in (fun hb => ?_) (fun hb => ?_) <;> (try simp only [Decidable.not_not] at hb) <;> (try simp only [hb, if_true, if_false, not_false_eq_true, not_true_eq_false, ↓reduceIte]) <;> (try simp only [hb0, decide_eq_true_eq, decide_eq_false_iff_not, simprocAttr] at hb) <;> (try (exfalso; omega))) | ((first | refine hK _ _ ?_ | (clear hK; refine hK _ _ ?_) | (clear hK; clear hK; refine hK _ _ ?_) | (clear hK; clear hK; clear hK; refine hK _ _ ?_)); clear hK; (try simp only [pst0, simprocAttr])) | (rw [if_pos]; rotate_left 1; omega; simp (maxSteps := 2000000) only [Ty.w, simprocAttr, bne, Bool.not_true, Bool.not_false, ll_predicates, lm_predicates, ll_functions, lm_functions, ll_actions, lm_actions, ll_duratives, lm_duratives, q0, n_predicates]))
          all_goals (refine ⟨?_, Grow.refl _⟩; first | rfl | (rw [← hF]; simp only [q0, this, Bool.true_and, Bool.false_and, Bool.and_false, Bool.and_true]; done))
        | true =>
          cases n_functions : ((functions.length : Int) == (functions3.length : Int)) with
          | false =>
            have : fusEq functions functions3 = false := fusEq_len (by simp at n_functions; omega)
            repeat' (first | (refine a_seq (fun K hK => ?_)) | (refine a_block ?_) | ((first | refine a_regionS ?_ | refine a_region (fun K hK => ?_) | refine a_ret ?_); simp (maxSteps := 2000000) only [Ty.w, simprocAttr, bne, Bool.not_true, Bool.not_false, ll_predicates, lm_predicates, ll_functions, lm_functions, ll_actions, lm_actions, ll_duratives, lm_duratives, q0, n_predicates, n_functions]) | ((first | refine a_skip ?_ | refine a_exit ?_); (try simp only [pst0, simprocAttr])) | (refine a_cond _ (by (try simp (maxSteps := 2000000) only [Ty.w, simprocAttr, bne, Bool.not_true, Bool.not_false, ll_predicates, lm_predicates, ll_functions, lm_functions, ll_actions, lm_actions, ll_duratives, lm_duratives, q0, n_predicates, n_functions]); rfl) (fun hb => ?_) (fun hb => ?_) <;> (try simp only [hb0, decide_eq_true_eq, decide_eq_false_iff_not, simprocAttr] at hb) <;> (try (exfalso; omega))) | (with_reducible refine ite_in (fun hb => ?_) (fun hb => ?_) <;> (try simp only [Decidable.not_not] at hb) <;> (try simp only [hb, if_true, if_false, not_false_eq_true, not_true_eq_false, ↓reduceIte]) <;> (try simp only [hb0, decide_eq_true_eq, decide_eq_false_iff_not, simprocAttr] at hb) <;> (try (exfalso; omega))) | ((first | refine hK _ _ ?_ | (clear hK; refine hK _ _ ?_) | (clear hK; clear hK; refine hK _ _ ?_) | (clear hK; clear hK; clear hK; refine hK _ _ ?_)); clear hK; (try simp only [pst0, simprocAttr])) | (rw [if_pos]; rotate_left 1; omega; simp (maxSteps := 2000000) only [Ty.w, simprocAttr, bne, Bool.not_true, Bool.not_false, ll_predicates, lm_predicates, ll_functions, lm_functions, ll_actions, lm_actions, ll_duratives, lm_duratives, q0, n_predicates, n_functions]))
            all_goals (refine ⟨?_, Grow.refl _⟩; first | rfl | (rw [← hF]; simp only [q0, n_predicates, this, Bool.true_and, Bool.false_and, Bool.and_false, Bool.and_true]; done))
          | true =>
            cases n_actions : ((actions.length : Int) == (actions3.length : Int)) with
            | false =>
              have : acsEq actions actions3 = false := acsEq_len (by simp at n_actions; omega)
              repeat' (first | (refine a_seq (fun K hK => ?_)) | (refine a_block ?_) | ((first | refine a_regionS ?_ | refine a_region (fun K hK => ?_) | refine a_ret ?_); simp (maxSteps := 2000000) only [Ty.w, simprocAttr, bne, Bool.not_true, Bool.not_false, ll_predicates, lm_predicates, ll_functions, lm_functions, ll_actions, lm_actions, ll_duratives, lm_duratives, q0, n_predicates, n_functions, n_actions]) | ((first | refine a_skip ?_ | refine a_exit ?_); (try simp only [pst0, simprocAttr])) | (refine a_cond _ (by (try simp (maxSteps := 2000000) only [Ty.w, simprocAttr, bne, Bool.not_true, Bool.not_false, ll_predicates, lm_predicates, ll_functions, lm_functions, ll_actions, lm_actions, ll_duratives, lm_duratives, q0, n_predicates, n_functions, n_actions]); rfl) (fun hb => ?_) (fun hb => ?_) <;> (try simp only [hb0, decide_eq_true_eq, decide_eq_false_iff_not, simprocAttr] at hb) <;> (try (exfalso; omega))) | (with_reducible refine ite_in (fun hb => ?_) (fun hb => ?_) <;> (try simp only [Decidable.not_not] at hb) <;> (try simp only [hb, if_true, if_false, not_false_eq_true, not_true_eq_false, ↓reduceIte]) <;> (try simp only [hb0, decide_eq_true_eq, decide_eq_false_iff_not, simprocAttr] at hb) <;> (try (exfalso; omega))) | ((first | refine hK _ _ ?_ | (clear hK; refine hK _ _ ?_) | (clear hK; clear hK; refine hK _ _ ?_) | (clear hK; clear hK; clear hK; refine hK _ _ ?_)); clear hK; (try simp only [pst0, simprocAttr])) | (rw [if_pos]; rotate_left 1; omega; simp (maxSteps := 2000000) only [Ty.w, simprocAttr, bne, Bool.not_true, Bool.not_false, ll_predicates, lm_predicates, ll_functions, lm_functions, ll_actions, lm_actions, ll_duratives, lm_duratives, q0, n_predicates, n_functions, n_actions]))
              all_goals (refine ⟨?_, Grow.refl _⟩; first | rfl | (rw [← hF]; simp only [q0, n_predicates, n_functions, this, Bool.true_and, Bool.false_and, Bool.and_false, Bool.and_true]; done))
            | true =>
              cases n_duratives : ((duratives.length : Int) == (duratives3.length : Int)) with
              | false =>
                have : dusEq duratives duratives3 = false := dusEq_len (by simp at n_duratives; omega)
                repeat' (first | (refine a_seq (fun K hK => ?_)) | (refine a_block ?_) | ((first | refine a_regionS ?_ | refine a_region (fun K hK => ?_) | refine a_ret ?_); simp (maxSteps := 2000000) only [Ty.w, simprocAttr, bne, Bool.not_true, Bool.not_false, ll_predicates, lm_predicates, ll_functions, lm_functions, ll_actions, lm_actions, ll_duratives, lm_duratives, q0, n_predicates, n_functions, n_actions, n_duratives]) | ((first | refine a_skip ?_ | refine a_exit ?_); (try simp only [pst0, simprocAttr])) | (refine a_cond _ (by (try simp (maxSteps := 2000000) only [Ty.w, simprocAttr, bne, Bool.not_true, Bool.not_false, ll_predicates, lm_predicates, ll_functions, lm_functions, ll_actions, lm_actions, ll_duratives, lm_duratives, q0, n_predicates, n_functions, n_actions, n_duratives]); rfl) (fun hb => ?_) (fun hb => ?_) <;> (try simp only [hb0, decide_eq_true_eq, decide_eq_false_iff_not, simprocAttr] at hb) <;> (try (exfalso; omega))) | (with_reducible refine ite_in (fun hb => ?_) (fun hb => ?_) <;> (try simp only [Decidable.not_not] at hb) <;> (try simp only [hb, if_true, if_false, not_false_eq_true, not_true_eq_false, ↓reduceIte]) <;> (try simp only [hb0, decide_eq_true_eq, decide_eq_false_iff_not, simprocAttr] at hb) <;> (try (exfalso; omega))) | ((first | refine hK _ _ ?_ | (clear hK; refine hK _ _ ?_) | (clear hK; clear hK; refine hK _ _ ?_) | (clear hK; clear hK; clear hK; refine hK _ _ ?_)); clear hK; (try simp only [pst0, simprocAttr])) | (rw [if_pos]; rotate_left 1; omega; simp (maxSteps := 2000000) only [Ty.w, simprocAttr, bne, Bool.not_true, Bool.not_false, ll_predicates, lm_predicates, ll_functions, lm_functions, ll_actions, lm_actions, ll_duratives, lm_duratives, q0, n_predicates, n_functions, n_actions, n_duratives]))
                all_goals (refine ⟨?_, Grow.refl _⟩; first | rfl | (rw [← hF]; simp only [q0, n_predicates, n_functions, n_actions, this, Bool.true_and, Bool.false_and, Bool.and_false, Bool.and_true]; done))
              | true =>
                have e_predicates : predicates.length = predicates3.length := by simp at n_predicates; omega
                have e_functions : functions.length = functions3.length := by simp at n_functions; omega
                have e_actions : actions.length = actions3.length := by simp at n_actions; omega
                have e_duratives : duratives.length = duratives3.length := by simp at n_duratives; omega
                repeat' (first | (refine a_seq (fun K hK => ?_)) | (refine a_block ?_) | ((first | refine a_regionS ?_ | refine a_region (fun K hK => ?_) | refine a_ret ?_); simp (maxSteps := 2000000) only [Ty.w, simprocAttr, bne, Bool.not_true, Bool.not_false, ll_predicates, lm_predicates, ll_functions, lm_functions, ll_actions, lm_actions, ll_duratives, lm_duratives, q0, n_predicates, n_functions, n_actions, n_duratives]) | ((first | refine a_skip ?_ | refine a_exit ?_); (try simp only [pst0, simprocAttr])) | (refine a_cond _ (by (try simp (maxSteps := 2000000) only [Ty.w, simprocAttr, bne, Bool.not_true, Bool.not_false, ll_predicates, lm_predicates, ll_functions, lm_functions, ll_actions, lm_actions, ll_duratives, lm_duratives, q0, n_predicates, n_functions, n_actions, n_duratives]); rfl) (fun hb => ?_) (fun hb => ?_) <;> (try simp only [hb0, decide_eq_true_eq, decide_eq_false_iff_not, simprocAttr] at hb) <;> (try (exfalso; omega))) | (with_reducible refine ite_in (fun hb => ?_) (fun hb => ?_) <;> (try simp only [Decidable.not_not] at hb) <;> (try simp only [hb, if_true, if_false, not_false_eq_true, not_true_eq_false, ↓reduceIte]) <;> (try simp only [hb0, decide_eq_true_eq, decide_eq_false_iff_not, simprocAttr] at hb) <;> (try (exfalso; omega))) | ((first | refine hK _ _ ?_ | (clear hK; refine hK _ _ ?_) | (clear hK; clear hK; refine hK _ _ ?_) | (clear hK; clear hK; clear hK; refine hK _ _ ?_)); clear hK; (try simp only [pst0, simprocAttr])) | (rw [if_pos]; rotate_left 1; omega; simp (maxSteps := 2000000) only [Ty.w, simprocAttr, bne, Bool.not_true, Bool.not_false, ll_predicates, lm_predicates, ll_functions, lm_functions, ll_actions, lm_actions, ll_duratives, lm_duratives, q0, n_predicates, n_functions, n_actions, n_duratives]))
                refine a_loop (fun c S h' => Grow h h' ∧ S 2 = .cptr [sPV name, .imm 2 (pmRows types), .imm 2 (pmRows constants), .imm 2 (prRows predicates), .imm 4 (fuRows functions), .imm 10 (acRows actions), .imm 23 (duRows duratives)] ∧ S 3 = .cptr [sPV name3, .imm 2 (pmRows types3), .imm 2 (pmRows constants3), .imm 2 (prRows predicates3), .imm 4 (fuRows functions3), .imm 10 (acRows actions3), .imm 23 (duRows duratives3)] ∧ ∃ k : Nat, S 5 = .sc (.int .i64 k) ∧ k ≤ predicates.length ∧ c = predicates.length - k ∧ prsEq predicates predicates3 = prsEq (predicates.drop k) (predicates3.drop k)) predicates.length ?_ ?_
                · (try simp only [Ty.w, simprocAttr])
                  exact ⟨Grow.refl _, 0, rfl, by omega, rfl, by simp⟩
                · rintro c S h' ⟨hg, g2, g3, k, gk, hkl, rfl, hinv⟩
                  by_cases hlt : k < predicates.length
                  · have hd : decide ((k : Int) < (predicates.length : Int)) = true := by simp; omega
                    have w7 : IntKind.i64.wrap ((k : Int) + 1) = k + 1 := by rw [wrap64 (by omega) (by omega)]
                    obtain ⟨a, hx⟩ : ∃ a, predicates[k]? = some a := ⟨_, List.getElem?_eq_getElem hlt⟩
                    obtain ⟨b, hy⟩ : ∃ b, predicates3[k]? = some b := ⟨_, List.getElem?_eq_getElem (by omega)⟩
                    have ha := oa_predicates a (List.mem_of_getElem? hx)
                    have hb := ob_predicates b (List.mem_of_getElem? hy)
                    rw [drop_of_get hx, drop_of_get hy] at hinv
                    simp only [prsEq] at hinv
                    have hr := prRows_get hx
                    have hr2 := prRows_get hy
                    have c1 := fun h : Heap => rparams_c (h := h) (l := a.params) (m := b.params) ha.params.1 hb.params.1
                    simp only [Pr.same, bEq] at hinv
                    generalize pmsEq a.params b.params = v at c1 hinv
                    clear ha hb
                    obtain ⟨name9, params9⟩ := a
                    obtain ⟨name8, params8⟩ := b
                    simp only [prRow, Fm.cells, Ex.cells, List.cons_append, List.nil_append] at hr hr2 c1
                    cases q : (name9.data.toList == name8.data.toList) with
                    | false =>
                      repeat' (first | (refine a_seq (fun K hK => ?_)) | (refine a_block ?_) | ((first | refine a_regionS ?_ | refine a_drawS (by decide +kernel) ?_ | refine a_region (fun K hK => ?_) | refine a_draw (by decide +kernel) (fun K hK => ?_) | refine a_ret ?_); simp (maxSteps := 2000000) only [Ty.w, simprocAttr, g2, g3, gk, ll_predicates, lm_predicates, hd, hr, hr2, w7, bne, Bool.not_true, Bool.not_false, q]) | ((first | refine a_skip ?_ | refine a_exit ?_); (try simp only [pst0, simprocAttr])) | (refine a_cond _ (by (try simp (maxSteps := 2000000) only [Ty.w, simprocAttr, g2, g3, gk, ll_predicates, lm_predicates, hd, hr, hr2, w7, bne, Bool.not_true, Bool.not_false, q]); rfl) (fun hb => ?_) (fun hb => ?_) <;> (try simp only [hb0, decide_eq_true_eq, decide_eq_false_iff_not, simprocAttr] at hb) <;> (try (exfalso; omega))) | (with_reducible refine ite_in (fun hb => ?_) (fun hb => ?_) <;> (try simp only [Decidable.not_not] at hb) <;> (try simp only [hb, if_true, if_false, not_false_eq_true, not_true_eq_false, ↓reduceIte]) <;> (try simp only [hb0, decide_eq_true_eq, decide_eq_false_iff_not, simprocAttr] at hb) <;> (try (exfalso; omega))) | ((first | refine hK _ _ ?_ | (clear hK; refine hK _ _ ?_) | (clear hK; clear hK; refine hK _ _ ?_) | (clear hK; clear hK; clear hK; refine hK _ _ ?_)); clear hK; (try simp only [pst0, simprocAttr])) | ((first | with_reducible refine a_past _ rfl (by decide +kernel) ?_ | (with_reducible refine a_past2 (by simp only [List.forall_mem_cons, Ty.w, simprocAttr, g2, g3, gk, ll_predicates, lm_predicates, hd, hr, hr2, w7, bne, Bool.not_true, Bool.not_false, q]; (repeat' apply And.intro) <;> first | trivial | exact .inl (by decide +kernel)) ?_)); try simp (maxSteps := 2000000) only [Ty.w, simprocAttr, g2, g3, gk, ll_predicates, lm_predicates, hd, hr, hr2, w7, bne, Bool.not_true, Bool.not_false, q]) | (rw [if_pos]; rotate_left 1; omega; simp (maxSteps := 2000000) only [Ty.w, simprocAttr, g2, g3, gk, ll_predicates, lm_predicates, hd, hr, hr2, w7, bne, Bool.not_true, Bool.not_false, q]))
                      all_goals (refine ⟨?_, hg⟩; rw [← hF, hinv]; simp only [q, q0, Bool.true_and, Bool.false_and, Bool.and_false, Bool.and_true]; done)
                    | true =>
                      repeat' (first | (refine a_seq (fun K hK => ?_)) | (refine a_block ?_) | ((first | refine a_regionS ?_ | refine a_drawS (by decide +kernel) ?_ | refine a_region (fun K hK => ?_) | refine a_draw (by decide +kernel) (fun K hK => ?_) | refine a_ret ?_); simp (maxSteps := 2000000) only [Ty.w, simprocAttr, g2, g3, gk, ll_predicates, lm_predicates, hd, hr, hr2, w7, bne, Bool.not_true, Bool.not_false, q]) | ((first | refine a_skip ?_ | refine a_exit ?_); (try simp only [pst0, simprocAttr])) | (refine a_cond _ (by (try simp (maxSteps := 2000000) only [Ty.w, simprocAttr, g2, g3, gk, ll_predicates, lm_predicates, hd, hr, hr2, w7, bne, Bool.not_true, Bool.not_false, q]); rfl) (fun hb => ?_) (fun hb => ?_) <;> (try simp only [hb0, decide_eq_true_eq, decide_eq_false_iff_not, simprocAttr] at hb) <;> (try (exfalso; omega))) | (with_reducible refine ite_in (fun hb => ?_) (fun hb => ?_) <;> (try simp only [Decidable.not_not] at hb) <;> (try simp only [hb, if_true, if_false, not_false_eq_true, not_true_eq_false, ↓reduceIte]) <;> (try simp only [hb0, decide_eq_true_eq, decide_eq_false_iff_not, simprocAttr] at hb) <;> (try (exfalso; omega))) | ((first | refine hK _ _ ?_ | (clear hK; refine hK _ _ ?_) | (clear hK; clear hK; refine hK _ _ ?_) | (clear hK; clear hK; clear hK; refine hK _ _ ?_)); clear hK; (try simp only [pst0, simprocAttr])) | ((first | with_reducible refine a_past _ rfl (by decide +kernel) ?_ | (with_reducible refine a_past2 (by simp only [List.forall_mem_cons, Ty.w, simprocAttr, g2, g3, gk, ll_predicates, lm_predicates, hd, hr, hr2, w7, bne, Bool.not_true, Bool.not_false, q]; (repeat' apply And.intro) <;> first | trivial | exact .inl (by decide +kernel)) ?_)); try simp (maxSteps := 2000000) only [Ty.w, simprocAttr, g2, g3, gk, ll_predicates, lm_predicates, hd, hr, hr2, w7, bne, Bool.not_true, Bool.not_false, q]) | (rw [if_pos]; rotate_left 1; omega; simp (maxSteps := 2000000) only [Ty.w, simprocAttr, g2, g3, gk, ll_predicates, lm_predicates, hd, hr, hr2, w7, bne, Bool.not_true, Bool.not_false, q]))
                      cases v with
                      | false =>
                        (first | refine a_dcall0 (c1 _) (by (try simp only [Ty.w, simprocAttr, g2, g3, gk, ll_predicates, lm_predicates, hd, hr, hr2, w7, bne, Bool.not_true, Bool.not_false, q]); try rfl) ?_ | refine a_dcallA (c1 _) (by (try simp only [Ty.w, simprocAttr, g2, g3, gk, ll_predicates, lm_predicates, hd, hr, hr2, w7, bne, Bool.not_true, Bool.not_false, q]); try rfl) (by simp only [Ty.w, simprocAttr, g2, g3, gk, ll_predicates, lm_predicates, hd, hr, hr2, w7, bne, Bool.not_true, Bool.not_false, q]; try trivial) ?_); simp (maxSteps := 2000000) only [Ty.w, simprocAttr, Option.getD_some, g2, g3, gk, ll_predicates, lm_predicates, hd, hr, hr2, w7, bne, Bool.not_true, Bool.not_false, q]
                        repeat' (first | (refine a_seq (fun K hK => ?_)) | (refine a_block ?_) | ((first | refine a_regionS ?_ | refine a_drawS (by decide +kernel) ?_ | refine a_region (fun K hK => ?_) | refine a_draw (by decide +kernel) (fun K hK => ?_) | refine a_ret ?_); simp (maxSteps := 2000000) only [Ty.w, simprocAttr, g2, g3, gk, ll_predicates, lm_predicates, hd, hr, hr2, w7, bne, Bool.not_true, Bool.not_false, q]) | ((first | refine a_skip ?_ | refine a_exit ?_); (try simp only [pst0, simprocAttr])) | (refine a_cond _ (by (try simp (maxSteps := 2000000) only [Ty.w, simprocAttr, g2, g3, gk, ll_predicates, lm_predicates, hd, hr, hr2, w7, bne, Bool.not_true, Bool.not_false, q]); rfl) (fun hb => ?_) (fun hb => ?_) <;> (try simp only [hb0, decide_eq_true_eq, decide_eq_false_iff_not, simprocAttr] at hb) <;> (try (exfalso; omega))) | (with_reducible refine ite_in (fun hb => ?_) (fun hb => ?_) <;> (try simp only [Decidable.not_not] at hb) <;> (try simp only [hb, if_true, if_false, not_false_eq_true, not_true_eq_false, ↓reduceIte]) <;> (try simp only [hb0, decide_eq_true_eq, decide_eq_false_iff_not, simprocAttr] at hb) <;> (try (exfalso; omega))) | ((first | refine hK _ _ ?_ | (clear hK; refine hK _ _ ?_) | (clear hK; clear hK; refine hK _ _ ?_) | (clear hK; clear hK; clear hK; refine hK _ _ ?_)); clear hK; (try simp only [pst0, simprocAttr])) | ((first | with_reducible refine a_past _ rfl (by decide +kernel) ?_ | (with_reducible refine a_past2 (by simp only [List.forall_mem_cons, Ty.w, simprocAttr, g2, g3, gk, ll_predicates, lm_predicates, hd, hr, hr2, w7, bne, Bool.not_true, Bool.not_false, q]; (repeat' apply And.intro) <;> first | trivial | exact .inl (by decide +kernel)) ?_)); try simp (maxSteps := 2000000) only [Ty.w, simprocAttr, g2, g3, gk, ll_predicates, lm_predicates, hd, hr, hr2, w7, bne, Bool.not_true, Bool.not_false, q]) | (rw [if_pos]; rotate_left 1; omega; simp (maxSteps := 2000000) only [Ty.w, simprocAttr, g2, g3, gk, ll_predicates, lm_predicates, hd, hr, hr2, w7, bne, Bool.not_true, Bool.not_false, q]))
                        all_goals (refine ⟨?_, hg⟩; rw [← hF, hinv]; simp only [q, q0, Bool.true_and, Bool.false_and, Bool.and_false, Bool.and_true]; done)
                      | true =>
                        (first | refine a_dcall0 (c1 _) (by (try simp only [Ty.w, simprocAttr, g2, g3, gk, ll_predicates, lm_predicates, hd, hr, hr2, w7, bne, Bool.not_true, Bool.not_false, q]); try rfl) ?_ | refine a_dcallA (c1 _) (by (try simp only [Ty.w, simprocAttr, g2, g3, gk, ll_predicates, lm_predicates, hd, hr, hr2, w7, bne, Bool.not_true, Bool.not_false, q]); try rfl) (by simp only [Ty.w, simprocAttr, g2, g3, gk, ll_predicates, lm_predicates, hd, hr, hr2, w7, bne, Bool.not_true, Bool.not_false, q]; try trivial) ?_); simp (maxSteps := 2000000) only [Ty.w, simprocAttr, Option.getD_some, g2, g3, gk, ll_predicates, lm_predicates, hd, hr, hr2, w7, bne, Bool.not_true, Bool.not_false, q]
                        repeat' (first | (refine a_seq (fun K hK => ?_)) | (refine a_block ?_) | ((first | refine a_regionS ?_ | refine a_drawS (by decide +kernel) ?_ | refine a_region (fun K hK => ?_) | refine a_draw (by decide +kernel) (fun K hK => ?_) | refine a_ret ?_); simp (maxSteps := 2000000) only [Ty.w, simprocAttr, g2, g3, gk, ll_predicates, lm_predicates, hd, hr, hr2, w7, bne, Bool.not_true, Bool.not_false, q]) | ((first | refine a_skip ?_ | refine a_exit ?_); (try simp only [pst0, simprocAttr])) | (refine a_cond _ (by (try simp (maxSteps := 2000000) only [Ty.w, simprocAttr, g2, g3, gk, ll_predicates, lm_predicates, hd, hr, hr2, w7, bne, Bool.not_true, Bool.not_false, q]); rfl) (fun hb => ?_) (fun hb => ?_) <;> (try simp only [hb0, decide_eq_true_eq, decide_eq_false_iff_not, simprocAttr] at hb) <;> (try (exfalso; omega))) | (with_reducible refine ite_in (fun hb => ?_) (fun hb => ?_) <;> (try simp only [Decidable.not_not] at hb) <;> (try simp only [hb, if_true, if_false, not_false_eq_true, not_true_eq_false, ↓reduceIte]) <;> (try simp only [hb0, decide_eq_true_eq, decide_eq_false_iff_not, simprocAttr] at hb) <;> (try (exfalso; omega))) | ((first | refine hK _ _ ?_ | (clear hK; refine hK _ _ ?_) | (clear hK; clear hK; refine hK _ _ ?_) | (clear hK; clear hK; clear hK; refine hK _ _ ?_)); clear hK; (try simp only [pst0, simprocAttr])) | ((first | with_reducible refine a_past _ rfl (by decide +kernel) ?_ | (with_reducible refine a_past2 (by simp only [List.forall_mem_cons, Ty.w, simprocAttr, g2, g3, gk, ll_predicates, lm_predicates, hd, hr, hr2, w7, bne, Bool.not_true, Bool.not_false, q]; (repeat' apply And.intro) <;> first | trivial | exact .inl (by decide +kernel)) ?_)); try simp (maxSteps := 2000000) only [Ty.w, simprocAttr, g2, g3, gk, ll_predicates, lm_predicates, hd, hr, hr2, w7, bne, Bool.not_true, Bool.not_false, q]) | (rw [if_pos]; rotate_left 1; omega; simp (maxSteps := 2000000) only [Ty.w, simprocAttr, g2, g3, gk, ll_predicates, lm_predicates, hd, hr, hr2, w7, bne, Bool.not_true, Bool.not_false, q]))
                        (simp only [q, Bool.true_and] at hinv; exact ⟨predicates.length - (k + 1), by omega, hg, k + 1, by simp, by omega, rfl, hinv⟩)
                  · have hd : decide ((k : Int) < (predicates.length : Int)) = false := by simp; omega
                    rw [List.drop_eq_nil_of_le (by omega), List.drop_eq_nil_of_le (by omega)] at hinv
                    simp only [prsEq] at hinv
                    rw [hinv] at hF
                    clear hinv
                    repeat' (first | (refine a_seq (fun K hK => ?_)) | (refine a_block ?_) | ((first | refine a_regionS ?_ | refine a_region (fun K hK => ?_) | refine a_ret ?_); simp (maxSteps := 2000000) only [Ty.w, simprocAttr, g2, g3, gk, ll_predicates, hd]) | ((first | refine a_skip ?_ | refine a_exit ?_); (try simp only [pst0, simprocAttr])) | (refine a_cond _ (by (try simp (maxSteps := 2000000) only [Ty.w, simprocAttr, g2, g3, gk, ll_predicates, hd]); rfl) (fun hb => ?_) (fun hb => ?_) <;> (try simp only [hb0, decide_eq_true_eq, decide_eq_false_iff_not, simprocAttr] at hb) <;> (try (exfalso; omega))) | (with_reducible refine ite_in (fun hb => ?_) (fun hb => ?_) <;> (try simp only [Decidable.not_not] at hb) <;> (try simp only [hb, if_true, if_false, not_false_eq_true, not_true_eq_false, ↓reduceIte]) <;> (try simp only [hb0, decide_eq_true_eq, decide_eq_false_iff_not, simprocAttr] at hb) <;> (try (exfalso; omega))) | ((first | refine hK _ _ ?_ | (clear hK; refine hK _ _ ?_) | (clear hK; clear hK; refine hK _ _ ?_) | (clear hK; clear hK; clear hK; refine hK _ _ ?_)); clear hK; (try simp only [pst0, simprocAttr])) | (rw [if_pos]; rotate_left 1; omega; simp (maxSteps := 2000000) only [Ty.w, simprocAttr, g2, g3, gk, ll_predicates, hd]))
                    refine a_loop (fun c S h' => Grow h h' ∧ S 2 = .cptr [sPV name, .imm 2 (pmRows types), .imm 2 (pmRows constants), .imm 2 (prRows predicates), .imm 4 (fuRows functions), .imm 10 (acRows actions), .imm 23 (duRows duratives)] ∧ S 3 = .cptr [sPV name3, .imm 2 (pmRows types3), .imm 2 (pmRows constants3), .imm 2 (prRows predicates3), .imm 4 (fuRows functions3), .imm 10 (acRows actions3), .imm 23 (duRows duratives3)] ∧ ∃ k : Nat, S 6 = .sc (.int .i64 k) ∧ k ≤ functions.length ∧ c = functions.length - k ∧ fusEq functions functions3 = fusEq (functions.drop k) (functions3.drop k)) functions.length ?_ ?_
                    · (try simp only [Ty.w, simprocAttr, g2, g3])
                      exact ⟨hg, 0, rfl, by omega, rfl, by simp⟩
                    · rintro c S h' ⟨hg, g2, g3, k, gk, hkl, rfl, hinv⟩
                      by_cases hlt : k < functions.length
                      · have hd : decide ((k : Int) < (functions.length : Int)) = true := by simp; omega
                        have w7 : IntKind.i64.wrap ((k : Int) + 1) = k + 1 := by rw [wrap64 (by omega) (by omega)]
                        obtain ⟨a, hx⟩ : ∃ a, functions[k]? = some a := ⟨_, List.getElem?_eq_getElem hlt⟩
                        obtain ⟨b, hy⟩ : ∃ b, functions3[k]? = some b := ⟨_, List.getElem?_eq_getElem (by omega)⟩
                        have ha := oa_functions a (List.mem_of_getElem? hx)
                        have hb := ob_functions b (List.mem_of_getElem? hy)
                        rw [drop_of_get hx, drop_of_get hy] at hinv
                        simp only [fusEq] at hinv
                        have hr := fuRows_get hx
                        have hr2 := fuRows_get hy
                        have c1 := fun h : Heap => rparams_c (h := h) (l := a.params) (m := b.params) ha.params.1 hb.params.1
                        simp only [Fu.same, bEq] at hinv
                        generalize pmsEq a.params b.params = v at c1 hinv
                        clear ha hb
                        obtain ⟨name9, params9, lo9, hi9⟩ := a
                        obtain ⟨name8, params8, lo8, hi8⟩ := b
                        simp only [fuRow, Fm.cells, Ex.cells, List.cons_append, List.nil_append] at hr hr2 c1
                        repeat' (first | (refine a_seq (fun K hK => ?_)) | (refine a_block ?_) | ((first | refine a_regionS ?_ | refine a_region (fun K hK => ?_) | refine a_ret ?_); simp (maxSteps := 2000000) only [Ty.w, simprocAttr, g2, g3, gk, ll_functions, hd]) | ((first | refine a_skip ?_ | refine a_exit ?_); (try simp only [pst0, simprocAttr])) | (refine a_cond _ (by (try simp (maxSteps := 2000000) only [Ty.w, simprocAttr, g2, g3, gk, ll_functions, hd]); rfl) (fun hb => ?_) (fun hb => ?_) <;> (try simp only [hb0, decide_eq_true_eq, decide_eq_false_iff_not, simprocAttr] at hb) <;> (try (exfalso; omega))) | (with_reducible refine ite_in (fun hb => ?_) (fun hb => ?_) <;> (try simp only [Decidable.not_not] at hb) <;> (try simp only [hb, if_true, if_false, not_false_eq_true, not_true_eq_false, ↓reduceIte]) <;> (try simp only [hb0, decide_eq_true_eq, decide_eq_false_iff_not, simprocAttr] at hb) <;> (try (exfalso; omega))) | ((first | refine hK _ _ ?_ | (clear hK; refine hK _ _ ?_) | (clear hK; clear hK; refine hK _ _ ?_) | (clear hK; clear hK; clear hK; refine hK _ _ ?_)); clear hK; (try simp only [pst0, simprocAttr])) | (rw [if_pos]; rotate_left 1; omega; simp (maxSteps := 2000000) only [Ty.w, simprocAttr, g2, g3, gk, ll_functions, hd]))
                        refine a_draw3S (by decide +kernel) ?_
                        refine d3_quiet _ (by decide) rfl rfl (fun H => by (try simp (maxSteps := 2000000) only [Ty.w, simprocAttr, Ty.all, g2, g3, gk]); first | rfl | exact ⟨rfl, rfl⟩) ?_
                        refine d3_quiet _ (by decide) rfl rfl (fun H => by (try simp (maxSteps := 2000000) only [Ty.w, simprocAttr, Ty.all, g2, g3, gk]); first | rfl | exact ⟨rfl, rfl⟩) ?_
                        refine d3_quiet _ (by decide) rfl rfl (fun H => by (try simp (maxSteps := 2000000) only [Ty.w, simprocAttr, Ty.all, g2, g3, gk]); first | rfl | exact ⟨rfl, rfl⟩) ?_
                        refine d3_quiet _ (by decide) rfl rfl (fun H => by (try simp (maxSteps := 2000000) only [Ty.w, simprocAttr, Ty.all, g2, g3, gk, hr]); first | rfl | exact ⟨rfl, rfl⟩) ?_
                        refine d3_quiet _ (by decide) rfl rfl (fun H => by (try simp (maxSteps := 2000000) only [Ty.w, simprocAttr, Ty.all, g2, g3, gk, hr]); first | rfl | exact ⟨rfl, rfl⟩) ?_
                        refine d3_quiet _ (by decide) rfl rfl (fun H => by (try simp (maxSteps := 2000000) only [Ty.w, simprocAttr, Ty.all, g2, g3, gk]); first | rfl | exact ⟨rfl, rfl⟩) ?_
                        refine d3_quiet _ (by decide) rfl rfl (fun H => by (try simp (maxSteps := 2000000) only [Ty.w, simprocAttr, Ty.all, g2, g3, gk]); first | rfl | exact ⟨rfl, rfl⟩) ?_
                        refine d3_quiet _ (by decide) rfl rfl (fun H => by (try simp (maxSteps := 2000000) only [Ty.w, simprocAttr, Ty.all, g2, g3, gk]); first | rfl | exact ⟨rfl, rfl⟩) ?_
                        refine d3_quiet _ (by decide) rfl rfl (fun H => by (try simp (maxSteps := 2000000) only [Ty.w, simprocAttr, Ty.all, g2, g3, gk, hr2]); first | rfl | exact ⟨rfl, rfl⟩) ?_
                        refine d3_quiet _ (by decide) rfl rfl (fun H => by (try simp (maxSteps := 2000000) only [Ty.w, simprocAttr, Ty.all, g2, g3, gk, hr2]); first | rfl | exact ⟨rfl, rfl⟩) ?_
                        refine d3_alloc rfl (by decide) rfl (by simp only [Ty.all]; rfl) (by decide) (by intro x hx; repeat' (first | (exact absurd hx (List.not_mem_nil)) | (rcases List.mem_cons.1 hx with rfl | hx) | exact .inl (by dsimp only; decide +kernel) | exact .inl (by decide +kernel) | exact .inr (by (try dsimp only); omega))) ?_
                        refine d3_alloc rfl (by decide) rfl (by simp only [Ty.all]; rfl) (by decide) (by intro x hx; repeat' (first | (exact absurd hx (List.not_mem_nil)) | (rcases List.mem_cons.1 hx with rfl | hx) | exact .inl (by dsimp only; decide +kernel) | exact .inl (by decide +kernel) | exact .inr (by (try dsimp only); omega))) ?_
                        refine d3_store rfl (by decide) rfl (by (try simp (maxSteps := 2000000) only [Ty.w, simprocAttr, Ty.all, nsucc, Nat.add_eq_left, Nat.one_ne_zero]); rfl) (by (try simp (maxSteps := 2000000) only [Ty.w, simprocAttr, Ty.all, nsucc, Nat.add_eq_left, Nat.one_ne_zero]); first | rfl | exact ⟨rfl, rfl⟩) (fun f q hf _ _ hq => absurd hf (by rw [Nat.add_left_cancel hq]; decide)) (by intro x hx; repeat' (first | (exact absurd hx (List.not_mem_nil)) | (rcases List.mem_cons.1 hx with rfl | hx) | exact .inl (by dsimp only; decide +kernel) | exact .inl (by decide +kernel) | exact .inr (by (try dsimp only); omega))) ?_
                        refine d3_store rfl (by decide) rfl (by (try simp (maxSteps := 2000000) only [Ty.w, simprocAttr, Ty.all, nsucc, Nat.add_eq_left, Nat.one_ne_zero]); rfl) (by (try simp (maxSteps := 2000000) only [Ty.w, simprocAttr, Ty.all, nsucc, Nat.add_eq_left, Nat.one_ne_zero]); first | rfl | exact ⟨rfl, rfl⟩) (fun f q hf _ _ hq => absurd hf (by rw [Nat.add_left_cancel hq]; decide)) (by intro x hx; repeat' (first | (exact absurd hx (List.not_mem_nil)) | (rcases List.mem_cons.1 hx with rfl | hx) | exact .inl (by dsimp only; decide +kernel) | exact .inl (by decide +kernel) | exact .inr (by (try dsimp only); omega))) ?_
                        refine d3_end ?_
                        refine hK _ _ ?_
                        clear hK K
                        refine a_genD (fun S2 h2 => Grow h h2 ∧ S2 2 = .cptr [sPV name, .imm 2 (pmRows types), .imm 2 (pmRows constants), .imm 2 (prRows predicates), .imm 4 (fuRows functions), .imm 10 (acRows actions), .imm 23 (duRows duratives)] ∧ S2 3 = .cptr [sPV name3, .imm 2 (pmRows types3), .imm 2 (pmRows constants3), .imm 2 (prRows predicates3), .imm 4 (fuRows functions3), .imm 10 (acRows actions3), .imm 23 (duRows duratives3)] ∧ S2 6 = .sc (.int .i64 k) ∧ S2 7 = .ptr (h'.next + 10) 0 0 ∧ S2 8 = .ptr (h'.next + 11) 0 0 ∧ h2.obj (h'.next + 10) = some (.arr 4 [[sPV name9, .imm 2 (pmRows params9), .sc (.int .i64 lo9), .sc (.int .i64 hi9)]]) ∧ h2.obj (h'.next + 11) = some (.arr 4 [[sPV name8, .imm 2 (pmRows params8), .sc (.int .i64 lo8), .sc (.int .i64 hi8)]])) ?_ ?_
                        · simp (maxSteps := 2000000) only [Ty.w, simprocAttr, g2, g3, gk, nsucc, Nat.add_eq_left, Nat.one_ne_zero]
                          exact (((((hg.bump _).set (Nat.le_add_right_of_le hg.le) _).set (Nat.le_add_right_of_le hg.le) _).set (Nat.le_add_right_of_le hg.le) _).set (Nat.le_add_right_of_le hg.le) _)
                        · rintro S2 h2 ⟨hg2, k2, k3, k5, k7, k8, o7, o8⟩
                          clear hg g2 g3 gk
                          cases q1 : (name9.data.toList == name8.data.toList) with
                          | false =>
                            repeat' (first | (refine a_seq (fun K hK => ?_)) | (refine a_block ?_) | ((first | refine a_regionS ?_ | refine a_region (fun K hK => ?_) | refine a_ret ?_); simp (maxSteps := 2000000) only [Ty.w, simprocAttr, k2, k3, k5, k7, k8, o7, o8, bne, Bool.not_true, Bool.not_false, q1]) | ((first | refine a_skip ?_ | refine a_exit ?_); (try simp only [pst0, simprocAttr])) | (refine a_cond _ (by (try simp (maxSteps := 2000000) only [Ty.w, simprocAttr, k2, k3, k5, k7, k8, o7, o8, bne, Bool.not_true, Bool.not_false, q1]); rfl) (fun hb => ?_) (fun hb => ?_) <;> (try simp only [hb0, decide_eq_true_eq, decide_eq_false_iff_not, simprocAttr] at hb) <;> (try (exfalso; omega))) | (with_reducible refine ite_in (fun hb => ?_) (fun hb => ?_) <;> (try simp only [Decidable.not_not] at hb) <;> (try simp only [hb, if_true, if_false, not_false_eq_true, not_true_eq_false, ↓reduceIte]) <;> (try simp only [hb0, decide_eq_true_eq, decide_eq_false_iff_not, simprocAttr] at hb) <;> (try (exfalso; omega))) | ((first | refine hK _ _ ?_ | (clear hK; refine hK _ _ ?_) | (clear hK; clear hK; refine hK _ _ ?_) | (clear hK; clear hK; clear hK; refine hK _ _ ?_)); clear hK; (try simp only [pst0, simprocAttr])) | (rw [if_pos]; rotate_left 1; omega; simp (maxSteps := 2000000) only [Ty.w, simprocAttr, k2, k3, k5, k7, k8, o7, o8, bne, Bool.not_true, Bool.not_false, q1]))
                            all_goals (refine ⟨?_, hg2⟩; rw [← hF, hinv]; simp only [q1, q0, Bool.true_and, Bool.false_and, Bool.and_false, Bool.and_true]; done)
                          | true =>
                            cases q2 : (lo9 == lo8) with
                            | false =>
                              repeat' (first | (refine a_seq (fun K hK => ?_)) | (refine a_block ?_) | ((first | refine a_regionS ?_ | refine a_region (fun K hK => ?_) | refine a_ret ?_); simp (maxSteps := 2000000) only [Ty.w, simprocAttr, k2, k3, k5, k7, k8, o7, o8, bne, Bool.not_true, Bool.not_false, q1, q2]) | ((first | refine a_skip ?_ | refine a_exit ?_); (try simp only [pst0, simprocAttr])) | (refine a_cond _ (by (try simp (maxSteps := 2000000) only [Ty.w, simprocAttr, k2, k3, k5, k7, k8, o7, o8, bne, Bool.not_true, Bool.not_false, q1, q2]); rfl) (fun hb => ?_) (fun hb => ?_) <;> (try simp only [hb0, decide_eq_true_eq, decide_eq_false_iff_not, simprocAttr] at hb) <;> (try (exfalso; omega))) | (with_reducible refine ite_in (fun hb => ?_) (fun hb => ?_) <;> (try simp only [Decidable.not_not] at hb) <;> (try simp only [hb, if_true, if_false, not_false_eq_true, not_true_eq_false, ↓reduceIte]) <;> (try simp only [hb0, decide_eq_true_eq, decide_eq_false_iff_not, simprocAttr] at hb) <;> (try (exfalso; omega))) | ((first | refine hK _ _ ?_ | (clear hK; refine hK _ _ ?_) | (clear hK; clear hK; refine hK _ _ ?_) | (clear hK; clear hK; clear hK; refine hK _ _ ?_)); clear hK; (try simp only [pst0, simprocAttr])) | (rw [if_pos]; rotate_left 1; omega; simp (maxSteps := 2000000) only [Ty.w, simprocAttr, k2, k3, k5, k7, k8, o7, o8, bne, Bool.not_true, Bool.not_false, q1, q2]))
                              all_goals (refine ⟨?_, hg2⟩; rw [← hF, hinv]; simp only [q1, q2, q0, Bool.true_and, Bool.false_and, Bool.and_false, Bool.and_true]; done)
                            | true =>
                              cases q3 : (hi9 == hi8) with
                              | false =>
                                repeat' (first | (refine a_seq (fun K hK => ?_)) | (refine a_block ?_) | ((first | refine a_regionS ?_ | refine a_region (fun K hK => ?_) | refine a_ret ?_); simp (maxSteps := 2000000) only [Ty.w, simprocAttr, k2, k3, k5, k7, k8, o7, o8, bne, Bool.not_true, Bool.not_false, q1, q2, q3]) | ((first | refine a_skip ?_ | refine a_exit ?_); (try simp only [pst0, simprocAttr])) | (refine a_cond _ (by (try simp (maxSteps := 2000000) only [Ty.w, simprocAttr, k2, k3, k5, k7, k8, o7, o8, bne, Bool.not_true, Bool.not_false, q1, q2, q3]); rfl) (fun hb => ?_) (fun hb => ?_) <;> (try simp only [hb0, decide_eq_true_eq, decide_eq_false_iff_not, simprocAttr] at hb) <;> (try (exfalso; omega))) | (with_reducible refine ite_in (fun hb => ?_) (fun hb => ?_) <;> (try simp only [Decidable.not_not] at hb) <;> (try simp only [hb, if_true, if_false, not_false_eq_true, not_true_eq_false, ↓reduceIte]) <;> (try simp only [hb0, decide_eq_true_eq, decide_eq_false_iff_not, simprocAttr] at hb) <;> (try (exfalso; omega))) | ((first | refine hK _ _ ?_ | (clear hK; refine hK _ _ ?_) | (clear hK; clear hK; refine hK _ _ ?_) | (clear hK; clear hK; clear hK; refine hK _ _ ?_)); clear hK; (try simp only [pst0, simprocAttr])) | (rw [if_pos]; rotate_left 1; omega; simp (maxSteps := 2000000) only [Ty.w, simprocAttr, k2, k3, k5, k7, k8, o7, o8, bne, Bool.not_true, Bool.not_false, q1, q2, q3]))
                                all_goals (refine ⟨?_, hg2⟩; rw [← hF, hinv]; simp only [q1, q2, q3, q0, Bool.true_and, Bool.false_and, Bool.and_false, Bool.and_true]; done)
                              | true =>
                                repeat' (first | (refine a_seq (fun K hK => ?_)) | (refine a_block ?_) | ((first | refine a_regionS ?_ | refine a_region (fun K hK => ?_) | refine a_ret ?_); simp (maxSteps := 2000000) only [Ty.w, simprocAttr, k2, k3, k5, k7, k8, o7, o8, bne, Bool.not_true, Bool.not_false, q1, q2, q3]) | ((first | refine a_skip ?_ | refine a_exit ?_); (try simp only [pst0, simprocAttr])) | (refine a_cond _ (by (try simp (maxSteps := 2000000) only [Ty.w, simprocAttr, k2, k3, k5, k7, k8, o7, o8, bne, Bool.not_true, Bool.not_false, q1, q2, q3]); rfl) (fun hb => ?_) (fun hb => ?_) <;> (try simp only [hb0, decide_eq_true_eq, decide_eq_false_iff_not, simprocAttr] at hb) <;> (try (exfalso; omega))) | (with_reducible refine ite_in (fun hb => ?_) (fun hb => ?_) <;> (try simp only [Decidable.not_not] at hb) <;> (try simp only [hb, if_true, if_false, not_false_eq_true, not_true_eq_false, ↓reduceIte]) <;> (try simp only [hb0, decide_eq_true_eq, decide_eq_false_iff_not, simprocAttr] at hb) <;> (try (exfalso; omega))) | ((first | refine hK _ _ ?_ | (clear hK; refine hK _ _ ?_) | (clear hK; clear hK; refine hK _ _ ?_) | (clear hK; clear hK; clear hK; refine hK _ _ ?_)); clear hK; (try simp only [pst0, simprocAttr])) | (rw [if_pos]; rotate_left 1; omega; simp (maxSteps := 2000000) only [Ty.w, simprocAttr, k2, k3, k5, k7, k8, o7, o8, bne, Bool.not_true, Bool.not_false, q1, q2, q3]))
                                cases v with
                                | false =>
                                  refine owp_useQ (c1 _) (by (try simp only [Ty.w, simprocAttr, k2, k3, k5, k7, k8, o7, o8, bne, Bool.not_true, Bool.not_false, q1, q2, q3]); try rfl) ?_; simp (maxSteps := 2000000) only [Ty.w, simprocAttr, k2, k3, k5, k7, k8, o7, o8, bne, Bool.not_true, Bool.not_false, q1, q2, q3]
                                  repeat' (first | (refine a_seq (fun K hK => ?_)) | (refine a_block ?_) | ((first | refine a_regionS ?_ | refine a_region (fun K hK => ?_) | refine a_ret ?_); simp (maxSteps := 2000000) only [Ty.w, simprocAttr, k2, k3, k5, k7, k8, o7, o8, bne, Bool.not_true, Bool.not_false, q1, q2, q3]) | ((first | refine a_skip ?_ | refine a_exit ?_); (try simp only [pst0, simprocAttr])) | (refine a_cond _ (by (try simp (maxSteps := 2000000) only [Ty.w, simprocAttr, k2, k3, k5, k7, k8, o7, o8, bne, Bool.not_true, Bool.not_false, q1, q2, q3]); rfl) (fun hb => ?_) (fun hb => ?_) <;> (try simp only [hb0, decide_eq_true_eq, decide_eq_false_iff_not, simprocAttr] at hb) <;> (try (exfalso; omega))) | (with_reducible refine ite_in (fun hb => ?_) (fun hb => ?_) <;> (try simp only [Decidable.not_not] at hb) <;> (try simp only [hb, if_true, if_false, not_false_eq_true, not_true_eq_false, ↓reduceIte]) <;> (try simp only [hb0, decide_eq_true_eq, decide_eq_false_iff_not, simprocAttr] at hb) <;> (try (exfalso; omega))) | ((first | refine hK _ _ ?_ | (clear hK; refine hK _ _ ?_) | (clear hK; clear hK; refine hK _ _ ?_) | (clear hK; clear hK; clear hK; refine hK _ _ ?_)); clear hK; (try simp only [pst0, simprocAttr])) | (rw [if_pos]; rotate_left 1; omega; simp (maxSteps := 2000000) only [Ty.w, simprocAttr, k2, k3, k5, k7, k8, o7, o8, bne, Bool.not_true, Bool.not_false, q1, q2, q3]))
                                  all_goals (refine ⟨?_, hg2⟩; rw [← hF, hinv]; simp only [q1, q2, q3, q0, Bool.true_and, Bool.false_and, Bool.and_false, Bool.and_true]; done)
                                | true =>
                                  refine owp_useQ (c1 _) (by (try simp only [Ty.w, simprocAttr, k2, k3, k5, k7, k8, o7, o8, bne, Bool.not_true, Bool.not_false, q1, q2, q3]); try rfl) ?_; simp (maxSteps := 2000000) only [Ty.w, simprocAttr, k2, k3, k5, k7, k8, o7, o8, bne, Bool.not_true, Bool.not_false, q1, q2, q3]
                                  repeat' (first | (refine a_seq (fun K hK => ?_)) | (refine a_block ?_) | ((first | refine a_regionS ?_ | refine a_region (fun K hK => ?_) | refine a_ret ?_); simp (maxSteps := 2000000) only [Ty.w, simprocAttr, k2, k3, k5, k7, k8, o7, o8, bne, Bool.not_true, Bool.not_false, q1, q2, q3, w7]) | ((first | refine a_skip ?_ | refine a_exit ?_); (try simp only [pst0, simprocAttr])) | (refine a_cond _ (by (try simp (maxSteps := 2000000) only [Ty.w, simprocAttr, k2, k3, k5, k7, k8, o7, o8, bne, Bool.not_true, Bool.not_false, q1, q2, q3, w7]); rfl) (fun hb => ?_) (fun hb => ?_) <;> (try simp only [hb0, decide_eq_true_eq, decide_eq_false_iff_not, simprocAttr] at hb) <;> (try (exfalso; omega))) | (with_reducible refine ite_in (fun hb => ?_) (fun hb => ?_) <;> (try simp only [Decidable.not_not] at hb) <;> (try simp only [hb, if_true, if_false, not_false_eq_true, not_true_eq_false, ↓reduceIte]) <;> (try simp only [hb0, decide_eq_true_eq, decide_eq_false_iff_not, simprocAttr] at hb) <;> (try (exfalso; omega))) | ((first | refine hK _ _ ?_ | (clear hK; refine hK _ _ ?_) | (clear hK; clear hK; refine hK _ _ ?_) | (clear hK; clear hK; clear hK; refine hK _ _ ?_)); clear hK; (try simp only [pst0, simprocAttr])) | (rw [if_pos]; rotate_left 1; omega; simp (maxSteps := 2000000) only [Ty.w, simprocAttr, k2, k3, k5, k7, k8, o7, o8, bne, Bool.not_true, Bool.not_false, q1, q2, q3, w7]))
                                  (simp only [q1, q2, q3, Bool.true_and] at hinv; exact ⟨functions.length - (k + 1), by omega, hg2, k + 1, by simp, by omega, rfl, hinv⟩)
                      · have hd : decide ((k : Int) < (functions.length : Int)) = false := by simp; omega
                        rw [List.drop_eq_nil_of_le (by omega), List.drop_eq_nil_of_le (by omega)] at hinv
                        simp only [fusEq] at hinv
                        rw [hinv] at hF
                        clear hinv
                        repeat' (first | (refine a_seq (fun K hK => ?_)) | (refine a_block ?_) | ((first | refine a_regionS ?_ | refine a_region (fun K hK => ?_) | refine a_ret ?_); simp (maxSteps := 2000000) only [Ty.w, simprocAttr, g2, g3, gk, ll_functions, hd]) | ((first | refine a_skip ?_ | refine a_exit ?_); (try simp only [pst0, simprocAttr])) | (refine a_cond _ (by (try simp (maxSteps := 2000000) only [Ty.w, simprocAttr, g2, g3, gk, ll_functions, hd]); rfl) (fun hb => ?_) (fun hb => ?_) <;> (try simp only [hb0, decide_eq_true_eq, decide_eq_false_iff_not, simprocAttr] at hb) <;> (try (exfalso; omega))) | (with_reducible refine ite_in (fun hb => ?_) (fun hb => ?_) <;> (try simp only [Decidable.not_not] at hb) <;> (try simp only [hb, if_true, if_false, not_false_eq_true, not_true_eq_false, ↓reduceIte]) <;> (try simp only [hb0, decide_eq_true_eq, decide_eq_false_iff_not, simprocAttr] at hb) <;> (try (exfalso; omega))) | ((first | refine hK _ _ ?_ | (clear hK; refine hK _ _ ?_) | (clear hK; clear hK; refine hK _ _ ?_) | (clear hK; clear hK; clear hK; refine hK _ _ ?_)); clear hK; (try simp only [pst0, simprocAttr])) | (rw [if_pos]; rotate_left 1; omega; simp (maxSteps := 2000000) only [Ty.w, simprocAttr, g2, g3, gk, ll_functions, hd]))
                        refine a_loop (fun c S h' => Grow h h' ∧ S 2 = .cptr [sPV name, .imm 2 (pmRows types), .imm 2 (pmRows constants), .imm 2 (prRows predicates), .imm 4 (fuRows functions), .imm 10 (acRows actions), .imm 23 (duRows duratives)] ∧ S 3 = .cptr [sPV name3, .imm 2 (pmRows types3), .imm 2 (pmRows constants3), .imm 2 (prRows predicates3), .imm 4 (fuRows functions3), .imm 10 (acRows actions3), .imm 23 (duRows duratives3)] ∧ ∃ k : Nat, S 9 = .sc (.int .i64 k) ∧ k ≤ actions.length ∧ c = actions.length - k ∧ acsEq actions actions3 = acsEq (actions.drop k) (actions3.drop k)) actions.length ?_ ?_
                        · (try simp only [Ty.w, simprocAttr, g2, g3])
                          exact ⟨hg, 0, rfl, by omega, rfl, by simp⟩
                        · rintro c S h' ⟨hg, g2, g3, k, gk, hkl, rfl, hinv⟩
                          by_cases hlt : k < actions.length
                          · have hd : decide ((k : Int) < (actions.length : Int)) = true := by simp; omega
                            have w7 : IntKind.i64.wrap ((k : Int) + 1) = k + 1 := by rw [wrap64 (by omega) (by omega)]
                            obtain ⟨a, hx⟩ : ∃ a, actions[k]? = some a := ⟨_, List.getElem?_eq_getElem hlt⟩
                            obtain ⟨b, hy⟩ : ∃ b, actions3[k]? = some b := ⟨_, List.getElem?_eq_getElem (by omega)⟩
                            have ha := oa_actions a (List.mem_of_getElem? hx)
                            have hb := ob_actions b (List.mem_of_getElem? hy)
                            rw [drop_of_get hx, drop_of_get hy] at hinv
                            simp only [acsEq] at hinv
                            have hr := acRows_get hx
                            have hr2 := acRows_get hy
                            have c1 := rsameAc_c ha hb
                            generalize he : a.same b = e at c1 hinv
                            clear he ha hb
                            obtain ⟨name9, params9, cost9, ⟨fopp9, fnap9, farp9, fpap9, fexp9, fkip9⟩, changes9⟩ := a
                            obtain ⟨name8, params8, cost8, ⟨fopp8, fnap8, farp8, fpap8, fexp8, fkip8⟩, changes8⟩ := b
                            simp only [acRow, Fm.cells, Ex.cells, List.cons_append, List.nil_append] at hr hr2 c1
                            repeat' (first | (refine a_seq (fun K hK => ?_)) | (refine a_block ?_) | ((first | refine a_regionS ?_ | refine a_drawS (by decide +kernel) ?_ | refine a_region (fun K hK => ?_) | refine a_draw (by decide +kernel) (fun K hK => ?_) | refine a_ret ?_); simp (maxSteps := 2000000) only [Ty.w, simprocAttr, g2, g3, gk, ll_actions, lm_actions, hd, hr, hr2, w7, bne, Bool.not_true, Bool.not_false]) | ((first | refine a_skip ?_ | refine a_exit ?_); (try simp only [pst0, simprocAttr])) | (refine a_cond _ (by (try simp (maxSteps := 2000000) only [Ty.w, simprocAttr, g2, g3, gk, ll_actions, lm_actions, hd, hr, hr2, w7, bne, Bool.not_true, Bool.not_false]); rfl) (fun hb => ?_) (fun hb => ?_) <;> (try simp only [hb0, decide_eq_true_eq, decide_eq_false_iff_not, simprocAttr] at hb) <;> (try (exfalso; omega))) | (with_reducible refine ite_in (fun hb => ?_) (fun hb => ?_) <;> (try simp only [Decidable.not_not] at hb) <;> (try simp only [hb, if_true, if_false, not_false_eq_true, not_true_eq_false, ↓reduceIte]) <;> (try simp only [hb0, decide_eq_true_eq, decide_eq_false_iff_not, simprocAttr] at hb) <;> (try (exfalso; omega))) | ((first | refine hK _ _ ?_ | (clear hK; refine hK _ _ ?_) | (clear hK; clear hK; refine hK _ _ ?_) | (clear hK; clear hK; clear hK; refine hK _ _ ?_)); clear hK; (try simp only [pst0, simprocAttr])) | ((first | with_reducible refine a_past _ rfl (by decide +kernel) ?_ | (with_reducible refine a_past2 (by simp only [List.forall_mem_cons, Ty.w, simprocAttr, g2, g3, gk, ll_actions, lm_actions, hd, hr, hr2, w7, bne, Bool.not_true, Bool.not_false]; (repeat' apply And.intro) <;> first | trivial | exact .inl (by decide +kernel)) ?_)); try simp (maxSteps := 2000000) only [Ty.w, simprocAttr, g2, g3, gk, ll_actions, lm_actions, hd, hr, hr2, w7, bne, Bool.not_true, Bool.not_false]) | (rw [if_pos]; rotate_left 1; omega; simp (maxSteps := 2000000) only [Ty.w, simprocAttr, g2, g3, gk, ll_actions, lm_actions, hd, hr, hr2, w7, bne, Bool.not_true, Bool.not_false]))
                            cases e with
                            | false =>
                              (first | refine a_dcall0 (c1 _) (by (try simp only [Ty.w, simprocAttr, g2, g3, gk, ll_actions, lm_actions, hd, hr, hr2, w7, bne, Bool.not_true, Bool.not_false]); try rfl) ?_ | refine a_dcallA (c1 _) (by (try simp only [Ty.w, simprocAttr, g2, g3, gk, ll_actions, lm_actions, hd, hr, hr2, w7, bne, Bool.not_true, Bool.not_false]); try rfl) (by simp only [Ty.w, simprocAttr, g2, g3, gk, ll_actions, lm_actions, hd, hr, hr2, w7, bne, Bool.not_true, Bool.not_false]; try trivial) ?_); simp (maxSteps := 2000000) only [Ty.w, simprocAttr, Option.getD_some, g2, g3, gk, ll_actions, lm_actions, hd, hr, hr2, w7, bne, Bool.not_true, Bool.not_false]
                              repeat' (first | (refine a_seq (fun K hK => ?_)) | (refine a_block ?_) | ((first | refine a_regionS ?_ | refine a_drawS (by decide +kernel) ?_ | refine a_region (fun K hK => ?_) | refine a_draw (by decide +kernel) (fun K hK => ?_) | refine a_ret ?_); simp (maxSteps := 2000000) only [Ty.w, simprocAttr, g2, g3, gk, ll_actions, lm_actions, hd, hr, hr2, w7, bne, Bool.not_true, Bool.not_false]) | ((first | refine a_skip ?_ | refine a_exit ?_); (try simp only [pst0, simprocAttr])) | (refine a_cond _ (by (try simp (maxSteps := 2000000) only [Ty.w, simprocAttr, g2, g3, gk, ll_actions, lm_actions, hd, hr, hr2, w7, bne, Bool.not_true, Bool.not_false]); rfl) (fun hb => ?_) (fun hb => ?_) <;> (try simp only [hb0, decide_eq_true_eq, decide_eq_false_iff_not, simprocAttr] at hb) <;> (try (exfalso; omega))) | (with_reducible refine ite_in (fun hb => ?_) (fun hb => ?_) <;> (try simp only [Decidable.not_not] at hb) <;> (try simp only [hb, if_true, if_false, not_false_eq_true, not_true_eq_false, ↓reduceIte]) <;> (try simp only [hb0, decide_eq_true_eq, decide_eq_false_iff_not, simprocAttr] at hb) <;> (try (exfalso; omega))) | ((first | refine hK _ _ ?_ | (clear hK; refine hK _ _ ?_) | (clear hK; clear hK; refine hK _ _ ?_) | (clear hK; clear hK; clear hK; refine hK _ _ ?_)); clear hK; (try simp only [pst0, simprocAttr])) | ((first | with_reducible refine a_past _ rfl (by decide +kernel) ?_ | (with_reducible refine a_past2 (by simp only [List.forall_mem_cons, Ty.w, simprocAttr, g2, g3, gk, ll_actions, lm_actions, hd, hr, hr2, w7, bne, Bool.not_true, Bool.not_false]; (repeat' apply And.intro) <;> first | trivial | exact .inl (by decide +kernel)) ?_)); try simp (maxSteps := 2000000) only [Ty.w, simprocAttr, g2, g3, gk, ll_actions, lm_actions, hd, hr, hr2, w7, bne, Bool.not_true, Bool.not_false]) | (rw [if_pos]; rotate_left 1; omega; simp (maxSteps := 2000000) only [Ty.w, simprocAttr, g2, g3, gk, ll_actions, lm_actions, hd, hr, hr2, w7, bne, Bool.not_true, Bool.not_false]))
                              all_goals (refine ⟨?_, hg⟩; rw [← hF, hinv]; simp only [q0, Bool.true_and, Bool.false_and, Bool.and_false, Bool.and_true]; done)
                            | true =>
                              (first | refine a_dcall0 (c1 _) (by (try simp only [Ty.w, simprocAttr, g2, g3, gk, ll_actions, lm_actions, hd, hr, hr2, w7, bne, Bool.not_true, Bool.not_false]); try rfl) ?_ | refine a_dcallA (c1 _) (by (try simp only [Ty.w, simprocAttr, g2, g3, gk, ll_actions, lm_actions, hd, hr, hr2, w7, bne, Bool.not_true, Bool.not_false]); try rfl) (by simp only [Ty.w, simprocAttr, g2, g3, gk, ll_actions, lm_actions, hd, hr, hr2, w7, bne, Bool.not_true, Bool.not_false]; try trivial) ?_); simp (maxSteps := 2000000) only [Ty.w, simprocAttr, Option.getD_some, g2, g3, gk, ll_actions, lm_actions, hd, hr, hr2, w7, bne, Bool.not_true, Bool.not_false]
                              repeat' (first | (refine a_seq (fun K hK => ?_)) | (refine a_block ?_) | ((first | refine a_regionS ?_ | refine a_drawS (by decide +kernel) ?_ | refine a_region (fun K hK => ?_) | refine a_draw (by decide +kernel) (fun K hK => ?_) | refine a_ret ?_); simp (maxSteps := 2000000) only [Ty.w, simprocAttr, g2, g3, gk, ll_actions, lm_actions, hd, hr, hr2, w7, bne, Bool.not_true, Bool.not_false]) | ((first | refine a_skip ?_ | refine a_exit ?_); (try simp only [pst0, simprocAttr])) | (refine a_cond _ (by (try simp (maxSteps := 2000000) only [Ty.w, simprocAttr, g2, g3, gk, ll_actions, lm_actions, hd, hr, hr2, w7, bne, Bool.not_true, Bool.not_false]); rfl) (fun hb => ?_) (fun hb => ?_) <;> (try simp only [hb0, decide_eq_true_eq, decide_eq_false_iff_not, simprocAttr] at hb) <;> (try (exfalso; omega))) | (with_reducible refine ite_in (fun hb => ?_) (fun hb => ?_) <;> (try simp only [Decidable.not_not] at hb) <;> (try simp only [hb, if_true, if_false, not_false_eq_true, not_true_eq_false, ↓reduceIte]) <;> (try simp only [hb0, decide_eq_true_eq, decide_eq_false_iff_not, simprocAttr] at hb) <;> (try (exfalso; omega))) | ((first | refine hK _ _ ?_ | (clear hK; refine hK _ _ ?_) | (clear hK; clear hK; refine hK _ _ ?_) | (clear hK; clear hK; clear hK; refine hK _ _ ?_)); clear hK; (try simp only [pst0, simprocAttr])) | ((first | with_reducible refine a_past _ rfl (by decide +kernel) ?_ | (with_reducible refine a_past2 (by simp only [List.forall_mem_cons, Ty.w, simprocAttr, g2, g3, gk, ll_actions, lm_actions, hd, hr, hr2, w7, bne, Bool.not_true, Bool.not_false]; (repeat' apply And.intro) <;> first | trivial | exact .inl (by decide +kernel)) ?_)); try simp (maxSteps := 2000000) only [Ty.w, simprocAttr, g2, g3, gk, ll_actions, lm_actions, hd, hr, hr2, w7, bne, Bool.not_true, Bool.not_false]) | (rw [if_pos]; rotate_left 1; omega; simp (maxSteps := 2000000) only [Ty.w, simprocAttr, g2, g3, gk, ll_actions, lm_actions, hd, hr, hr2, w7, bne, Bool.not_true, Bool.not_false]))
                              (simp only [Bool.true_and] at hinv; exact ⟨actions.length - (k + 1), by omega, hg, k + 1, by simp, by omega, rfl, hinv⟩)
                          · have hd : decide ((k : Int) < (actions.length : Int)) = false := by simp; omega
                            rw [List.drop_eq_nil_of_le (by omega), List.drop_eq_nil_of_le (by omega)] at hinv
                            simp only [acsEq] at hinv
                            rw [hinv] at hF
                            clear hinv
                            repeat' (first | (refine a_seq (fun K hK => ?_)) | (refine a_block ?_) | ((first | refine a_regionS ?_ | refine a_region (fun K hK => ?_) | refine a_ret ?_); simp (maxSteps := 2000000) only [Ty.w, simprocAttr, g2, g3, gk, ll_actions, hd]) | ((first | refine a_skip ?_ | refine a_exit ?_); (try simp only [pst0, simprocAttr])) | (refine a_cond _ (by (try simp (maxSteps := 2000000) only [Ty.w, simprocAttr, g2, g3, gk, ll_actions, hd]); rfl) (fun hb => ?_) (fun hb => ?_) <;> (try simp only [hb0, decide_eq_true_eq, decide_eq_false_iff_not, simprocAttr] at hb) <;> (try (exfalso; omega))) | (with_reducible refine ite_in (fun hb => ?_) (fun hb => ?_) <;> (try simp only [Decidable.not_not] at hb) <;> (try simp only [hb, if_true, if_false, not_false_eq_true, not_true_eq_false, ↓reduceIte]) <;> (try simp only [hb0, decide_eq_true_eq, decide_eq_false_iff_not, simprocAttr] at hb) <;> (try (exfalso; omega))) | ((first | refine hK _ _ ?_ | (clear hK; refine hK _ _ ?_) | (clear hK; clear hK; refine hK _ _ ?_) | (clear hK; clear hK; clear hK; refine hK _ _ ?_)); clear hK; (try simp only [pst0, simprocAttr])) | (rw [if_pos]; rotate_left 1; omega; simp (maxSteps := 2000000) only [Ty.w, simprocAttr, g2, g3, gk, ll_actions, hd]))
                            refine a_loop (fun c S h' => Grow h h' ∧ S 2 = .cptr [sPV name, .imm 2 (pmRows types), .imm 2 (pmRows constants), .imm 2 (prRows predicates), .imm 4 (fuRows functions), .imm 10 (acRows actions), .imm 23 (duRows duratives)] ∧ S 3 = .cptr [sPV name3, .imm 2 (pmRows types3), .imm 2 (pmRows constants3), .imm 2 (prRows predicates3), .imm 4 (fuRows functions3), .imm 10 (acRows actions3), .imm 23 (duRows duratives3)] ∧ ∃ k : Nat, S 10 = .sc (.int .i64 k) ∧ k ≤ duratives.length ∧ c = duratives.length - k ∧ dusEq duratives duratives3 = dusEq (duratives.drop k) (duratives3.drop k)) duratives.length ?_ ?_
                            · (try simp only [Ty.w, simprocAttr, g2, g3])
                              exact ⟨hg, 0, rfl, by omega, rfl, by simp⟩
                            · rintro c S h' ⟨hg, g2, g3, k, gk, hkl, rfl, hinv⟩
                              by_cases hlt : k < duratives.length
                              · have hd : decide ((k : Int) < (duratives.length : Int)) = true := by simp; omega
                                have w7 : IntKind.i64.wrap ((k : Int) + 1) = k + 1 := by rw [wrap64 (by omega) (by omega)]
                                obtain ⟨a, hx⟩ : ∃ a, duratives[k]? = some a := ⟨_, List.getElem?_eq_getElem hlt⟩
                                obtain ⟨b, hy⟩ : ∃ b, duratives3[k]? = some b := ⟨_, List.getElem?_eq_getElem (by omega)⟩
                                have ha := oa_duratives a (List.mem_of_getElem? hx)
                                have hb := ob_duratives b (List.mem_of_getElem? hy)
                                rw [drop_of_get hx, drop_of_get hy] at hinv
                                simp only [dusEq] at hinv
                                have hr := duRows_get hx
                                have hr2 := duRows_get hy
                                have c1 := rsameDu_c ha hb
                                generalize he : a.same b = e at c1 hinv
                                clear he ha hb
                                obtain ⟨name9, params9, dur9, ⟨fops9, fnas9, fars9, fpas9, fexs9, fkis9⟩, ⟨fopo9, fnao9, faro9, fpao9, fexo9, fkio9⟩, ⟨fope9, fnae9, fare9, fpae9, fexe9, fkie9⟩, atStart9, atStop9⟩ := a
                                obtain ⟨name8, params8, dur8, ⟨fops8, fnas8, fars8, fpas8, fexs8, fkis8⟩, ⟨fopo8, fnao8, faro8, fpao8, fexo8, fkio8⟩, ⟨fope8, fnae8, fare8, fpae8, fexe8, fkie8⟩, atStart8, atStop8⟩ := b
                                simp only [duRow, Fm.cells, Ex.cells, List.cons_append, List.nil_append] at hr hr2 c1
                                repeat' (first | (refine a_seq (fun K hK => ?_)) | (refine a_block ?_) | ((first | refine a_regionS ?_ | refine a_drawS (by decide +kernel) ?_ | refine a_region (fun K hK => ?_) | refine a_draw (by decide +kernel) (fun K hK => ?_) | refine a_ret ?_); simp (maxSteps := 2000000) only [Ty.w, simprocAttr, g2, g3, gk, ll_duratives, lm_duratives, hd, hr, hr2, w7, bne, Bool.not_true, Bool.not_false]) | ((first | refine a_skip ?_ | refine a_exit ?_); (try simp only [pst0, simprocAttr])) | (refine a_cond _ (by (try simp (maxSteps := 2000000) only [Ty.w, simprocAttr, g2, g3, gk, ll_duratives, lm_duratives, hd, hr, hr2, w7, bne, Bool.not_true, Bool.not_false]); rfl) (fun hb => ?_) (fun hb => ?_) <;> (try simp only [hb0, decide_eq_true_eq, decide_eq_false_iff_not, simprocAttr] at hb) <;> (try (exfalso; omega))) | (with_reducible refine ite_in (fun hb => ?_) (fun hb => ?_) <;> (try simp only [Decidable.not_not] at hb) <;> (try simp only [hb, if_true, if_false, not_false_eq_true, not_true_eq_false, ↓reduceIte]) <;> (try simp only [hb0, decide_eq_true_eq, decide_eq_false_iff_not, simprocAttr] at hb) <;> (try (exfalso; omega))) | ((first | refine hK _ _ ?_ | (clear hK; refine hK _ _ ?_) | (clear hK; clear hK; refine hK _ _ ?_) | (clear hK; clear hK; clear hK; refine hK _ _ ?_)); clear hK; (try simp only [pst0, simprocAttr])) | ((first | with_reducible refine a_past _ rfl (by decide +kernel) ?_ | (with_reducible refine a_past2 (by simp only [List.forall_mem_cons, Ty.w, simprocAttr, g2, g3, gk, ll_duratives, lm_duratives, hd, hr, hr2, w7, bne, Bool.not_true, Bool.not_false]; (repeat' apply And.intro) <;> first | trivial | exact .inl (by decide +kernel)) ?_)); try simp (maxSteps := 2000000) only [Ty.w, simprocAttr, g2, g3, gk, ll_duratives, lm_duratives, hd, hr, hr2, w7, bne, Bool.not_true, Bool.not_false]) | (rw [if_pos]; rotate_left 1; omega; simp (maxSteps := 2000000) only [Ty.w, simprocAttr, g2, g3, gk, ll_duratives, lm_duratives, hd, hr, hr2, w7, bne, Bool.not_true, Bool.not_false]))
                                cases e with
                                | false =>
                                  (first | refine a_dcall0 (c1 _) (by (try simp only [Ty.w, simprocAttr, g2, g3, gk, ll_duratives, lm_duratives, hd, hr, hr2, w7, bne, Bool.not_true, Bool.not_false]); try rfl) ?_ | refine a_dcallA (c1 _) (by (try simp only [Ty.w, simprocAttr, g2, g3, gk, ll_duratives, lm_duratives, hd, hr, hr2, w7, bne, Bool.not_true, Bool.not_false]); try rfl) (by simp only [Ty.w, simprocAttr, g2, g3, gk, ll_duratives, lm_duratives, hd, hr, hr2, w7, bne, Bool.not_true, Bool.not_false]; try trivial) ?_); simp (maxSteps := 2000000) only [Ty.w, simprocAttr, Option.getD_some, g2, g3, gk, ll_duratives, lm_duratives, hd, hr, hr2, w7, bne, Bool.not_true, Bool.not_false]
                                  repeat' (first | (refine a_seq (fun K hK => ?_)) | (refine a_block ?_) | ((first | refine a_regionS ?_ | refine a_drawS (by decide +kernel) ?_ | refine a_region (fun K hK => ?_) | refine a_draw (by decide +kernel) (fun K hK => ?_) | refine a_ret ?_); simp (maxSteps := 2000000) only [Ty.w, simprocAttr, g2, g3, gk, ll_duratives, lm_duratives, hd, hr, hr2, w7, bne, Bool.not_true, Bool.not_false]) | ((first | refine a_skip ?_ | refine a_exit ?_); (try simp only [pst0, simprocAttr])) | (refine a_cond _ (by (try simp (maxSteps := 2000000) only [Ty.w, simprocAttr, g2, g3, gk, ll_duratives, lm_duratives, hd, hr, hr2, w7, bne, Bool.not_true, Bool.not_false]); rfl) (fun hb => ?_) (fun hb => ?_) <;> (try simp only [hb0, decide_eq_true_eq, decide_eq_false_iff_not, simprocAttr] at hb) <;> (try (exfalso; omega))) | (with_reducible refine ite_in (fun hb => ?_) (fun hb => ?_) <;> (try simp only [Decidable.not_not] at hb) <;> (try simp only [hb, if_true, if_false, not_false_eq_true, not_true_eq_false, ↓reduceIte]) <;> (try simp only [hb0, decide_eq_true_eq, decide_eq_false_iff_not, simprocAttr] at hb) <;> (try (exfalso; omega))) | ((first | refine hK _ _ ?_ | (clear hK; refine hK _ _ ?_) | (clear hK; clear hK; refine hK _ _ ?_) | (clear hK; clear hK; clear hK; refine hK _ _ ?_)); clear hK; (try simp only [pst0, simprocAttr])) | ((first | with_reducible refine a_past _ rfl (by decide +kernel) ?_ | (with_reducible refine a_past2 (by simp only [List.forall_mem_cons, Ty.w, simprocAttr, g2, g3, gk, ll_duratives, lm_duratives, hd, hr, hr2, w7, bne, Bool.not_true, Bool.not_false]; (repeat' apply And.intro) <;> first | trivial | exact .inl (by decide +kernel)) ?_)); try simp (maxSteps := 2000000) only [Ty.w, simprocAttr, g2, g3, gk, ll_duratives, lm_duratives, hd, hr, hr2, w7, bne, Bool.not_true, Bool.not_false]) | (rw [if_pos]; rotate_left 1; omega; simp (maxSteps := 2000000) only [Ty.w, simprocAttr, g2, g3, gk, ll_duratives, lm_duratives, hd, hr, hr2, w7, bne, Bool.not_true, Bool.not_false]))
                                  all_goals (refine ⟨?_, hg⟩; rw [← hF, hinv]; simp only [q0, Bool.true_and, Bool.false_and, Bool.and_false, Bool.and_true]; done)
                                | true =>
                                  (first | refine a_dcall0 (c1 _) (by (try simp only [Ty.w, simprocAttr, g2, g3, gk, ll_duratives, lm_duratives, hd, hr, hr2, w7, bne, Bool.not_true, Bool.not_false]); try rfl) ?_ | refine a_dcallA (c1 _) (by (try simp only [Ty.w, simprocAttr, g2, g3, gk, ll_duratives, lm_duratives, hd, hr, hr2, w7, bne, Bool.not_true, Bool.not_false]); try rfl) (by simp only [Ty.w, simprocAttr, g2, g3, gk, ll_duratives, lm_duratives, hd, hr, hr2, w7, bne, Bool.not_true, Bool.not_false]; try trivial) ?_); simp (maxSteps := 2000000) only [Ty.w, simprocAttr, Option.getD_some, g2, g3, gk, ll_duratives, lm_duratives, hd, hr, hr2, w7, bne, Bool.not_true, Bool.not_false]
                                  repeat' (first | (refine a_seq (fun K hK => ?_)) | (refine a_block ?_) | ((first | refine a_regionS ?_ | refine a_drawS (by decide +kernel) ?_ | refine a_region (fun K hK => ?_) | refine a_draw (by decide +kernel) (fun K hK => ?_) | refine a_ret ?_); simp (maxSteps := 2000000) only [Ty.w, simprocAttr, g2, g3, gk, ll_duratives, lm_duratives, hd, hr, hr2, w7, bne, Bool.not_true, Bool.not_false]) | ((first | refine a_skip ?_ | refine a_exit ?_); (try simp only [pst0, simprocAttr])) | (refine a_cond _ (by (try simp (maxSteps := 2000000) only [Ty.w, simprocAttr, g2, g3, gk, ll_duratives, lm_duratives, hd, hr, hr2, w7, bne, Bool.not_true, Bool.not_false]); rfl) (fun hb => ?_) (fun hb => ?_) <;> (try simp only [hb0, decide_eq_true_eq, decide_eq_false_iff_not, simprocAttr] at hb) <;> (try (exfalso; omega))) | (with_reducible refine ite_in (fun hb => ?_) (fun hb => ?_) <;> (try simp only [Decidable.not_not] at hb) <;> (try simp only [hb, if_true, if_false, not_false_eq_true, not_true_eq_false, ↓reduceIte]) <;> (try simp only [hb0, decide_eq_true_eq, decide_eq_false_iff_not, simprocAttr] at hb) <;> (try (exfalso; omega))) | ((first | refine hK _ _ ?_ | (clear hK; refine hK _ _ ?_) | (clear hK; clear hK; refine hK _ _ ?_) | (clear hK; clear hK; clear hK; refine hK _ _ ?_)); clear hK; (try simp only [pst0, simprocAttr])) | ((first | with_reducible refine a_past _ rfl (by decide +kernel) ?_ | (with_reducible refine a_past2 (by simp only [List.forall_mem_cons, Ty.w, simprocAttr, g2, g3, gk, ll_duratives, lm_duratives, hd, hr, hr2, w7, bne, Bool.not_true, Bool.not_false]; (repeat' apply And.intro) <;> first | trivial | exact .inl (by decide +kernel)) ?_)); try simp (maxSteps := 2000000) only [Ty.w, simprocAttr, g2, g3, gk, ll_duratives, lm_duratives, hd, hr, hr2, w7, bne, Bool.not_true, Bool.not_false]) | (rw [if_pos]; rotate_left 1; omega; simp (maxSteps := 2000000) only [Ty.w, simprocAttr, g2, g3, gk, ll_duratives, lm_duratives, hd, hr, hr2, w7, bne, Bool.not_true, Bool.not_false]))
                                  (simp only [Bool.true_and] at hinv; exact ⟨duratives.length - (k + 1), by omega, hg, k + 1, by simp, by omega, rfl, hinv⟩)
                              · have hd : decide ((k : Int) < (duratives.length : Int)) = false := by simp; omega
                                rw [List.drop_eq_nil_of_le (by omega), List.drop_eq_nil_of_le (by omega)] at hinv
                                simp only [dusEq] at hinv
                                rw [hinv] at hF
                                clear hinv
                                repeat' (first | (refine a_seq (fun K hK => ?_)) | (refine a_block ?_) | ((first | refine a_regionS ?_ | refine a_region (fun K hK => ?_) | refine a_ret ?_); simp (maxSteps := 2000000) only [Ty.w, simprocAttr, g2, g3, gk, ll_duratives, hd]) | ((first | refine a_skip ?_ | refine a_exit ?_); (try simp only [pst0, simprocAttr])) | (refine a_cond _ (by (try simp (maxSteps := 2000000) only [Ty.w, simprocAttr, g2, g3, gk, ll_duratives, hd]); rfl) (fun hb => ?_) (fun hb => ?_) <;> (try simp only [hb0, decide_eq_true_eq, decide_eq_false_iff_not, simprocAttr] at hb) <;> (try (exfalso; omega))) | (with_reducible refine ite_in (fun hb => ?_) (fun hb => ?_) <;> (try simp only [Decidable.not_not] at hb) <;> (try simp only [hb, if_true, if_false, not_false_eq_true, not_true_eq_false, ↓reduceIte]) <;> (try simp only [hb0, decide_eq_true_eq, decide_eq_false_iff_not, simprocAttr] at hb) <;> (try (exfalso; omega))) | ((first | refine hK _ _ ?_ | (clear hK; refine hK _ _ ?_) | (clear hK; clear hK; refine hK _ _ ?_) | (clear hK; clear hK; clear hK; refine hK _ _ ?_)); clear hK; (try simp only [pst0, simprocAttr])) | (rw [if_pos]; rotate_left 1; omega; simp (maxSteps := 2000000) only [Ty.w, simprocAttr, g2, g3, gk, ll_duratives, hd]))
                                exact ⟨by rw [← hF, q0]; try rfl, hg⟩
end Go.Proofs.YtikhonogkpboaaaGreat
namespace Go.Proofs.YtikhonogkpboaaaGreat
open Go.AM
set_option maxHeartbeats 4000000
set_option maxRecDepth 20000
def heavyM (n : Int) : List Ch → Int
  | [] => n
  | c :: l => heavyM (IntKind.i64.wrap (n + IntKind.i64.wrap (IntKind.i64.wrap (IntKind.i64.wrap (IntKind.i64.wrap (1 + (c.params.length : Int)) + (c.args.length : Int)) + c.cond.size) + c.value.size))) l
theorem heavy_c {l : List Ch} (hl : Chs.ok l) (h : Heap) : PCall Tryz.prog 29 [.imm 15 (chRows l)] h fun r h' => r = .sc (.int .i64 (heavyM 0 l)) ∧ h' = h := by
  obtain ⟨hll, hlo⟩ := hl
  unfold bigN at hll
  have hlen := chRows_len l
  generalize hF : heavyM 0 l = F
  refine pcall_body (ow := fun _ => false) (wf := fun _ => false) Ty.mixed Tryz.func29 rfl Ty.hb_29 (by rw [Tryz.ntmps29]; simp) ?_
  rw [Tryz.ntmps29, Tryz.results29]
  repeat' (first | (refine a_seq (fun K hK => ?_)) | (refine a_block ?_) | ((first | refine a_regionS ?_ | refine a_region (fun K hK => ?_) | refine a_ret ?_); simp (maxSteps := 2000000) only [Ty.w, simprocAttr]) | ((first | refine a_skip ?_ | refine a_exit ?_); (try simp only [pst0, simprocAttr])) | (refine a_cond _ (by (try simp (maxSteps := 2000000) only [Ty.w, simprocAttr]); rfl) (fun hb => ?_) (fun hb => ?_) <;> (try simp only [hb0, decide_eq_true_eq, decide_eq_false_iff_not, simprocAttr] at hb) <;> (try (exfalso; omega))) | (with_reducible refine ite_in (fun hb => ?_) (fun hb => ?_) <;> (try simp only [Decidable.not_not] at hb) <;> (try simp only [hb, if_true, if_false, not_false_eq_true, not_true_eq_false, ↓reduceIte]) <;> (try simp only [hb0, decide_eq_true_eq, decide_eq_false_iff_not, simprocAttr] at hb) <;> (try (exfalso; omega))) | ((first | refine hK _ _ ?_ | (clear hK; refine hK _ _ ?_) | (clear hK; clear hK; refine hK _ _ ?_) | (clear hK; clear hK; clear hK; refine hK _ _ ?_)); clear hK; (try simp only [pst0, simprocAttr])) | (rw [if_pos]; rotate_left 1; omega; simp (maxSteps := 2000000) only [Ty.w, simprocAttr]))
  refine a_loop (fun c S h' => h' = h ∧ S 0 = .imm 15 (chRows l) ∧ ∃ (k : Nat) (n : Int), S 4 = .sc (.int .i64 k) ∧ S 3 = .sc (.int .i64 n) ∧ k ≤ l.length ∧ c = l.length - k ∧ F = heavyM n (l.drop k)) l.length ?_ ?_
  · simp only [Ty.w, simprocAttr]
    exact ⟨0, 0, rfl, rfl, by omega, rfl, by rw [← hF]; try rfl⟩
  · clear hF
    rintro c S h' ⟨rfl, g0, k, n, g4, g3, hk, rfl, hinv⟩
    by_cases hlt : k < l.length
    · have hd : decide ((k : Int) < (l.length : Int)) = true := by simp; omega
      have w7 : IntKind.i64.wrap ((k : Int) + 1) = k + 1 := by rw [wrap64 (by omega) (by omega)]
      obtain ⟨a, hx⟩ : ∃ a, l[k]? = some a := ⟨_, List.getElem?_eq_getElem hlt⟩
      have hr := chRows_get hx
      have ha := hlo a (List.mem_of_getElem? hx)
      rw [drop_of_get hx] at hinv
      simp only [heavyM] at hinv
      have c1 := rsize_c a.cond ha.cond
      have c2 := rsizeE_c a.value ha.value
      have hp := pmRows_len a.params
      have hs := strRows_len a.args
      clear ha
      obtain ⟨kind, params, cond, name, args, value⟩ := a
      simp only at hinv c1 c2 hp hs
      generalize cond.size = s1 at hinv c1
      generalize value.size = s2 at hinv c2
      obtain ⟨fop, fna, far, fpa, fex, fki⟩ := cond
      obtain ⟨eop, ena, en, ear, eki⟩ := value
      simp only [chRow, Fm.cells, Ex.cells, List.cons_append, List.nil_append] at hr c1 c2
      repeat' (first | (refine a_seq (fun K hK => ?_)) | (refine a_block ?_) | ((first | refine a_regionS ?_ | refine a_drawS (by decide +kernel) ?_ | refine a_region (fun K hK => ?_) | refine a_draw (by decide +kernel) (fun K hK => ?_) | refine a_ret ?_); simp (maxSteps := 2000000) only [Ty.w, simprocAttr, g0, g3, g4, hlen, hd, hr, hp, hs]) | ((first | refine a_skip ?_ | refine a_exit ?_); (try simp only [pst0, simprocAttr])) | (refine a_cond _ (by (try simp (maxSteps := 2000000) only [Ty.w, simprocAttr, g0, g3, g4, hlen, hd, hr, hp, hs]); rfl) (fun hb => ?_) (fun hb => ?_) <;> (try simp only [hb0, decide_eq_true_eq, decide_eq_false_iff_not, simprocAttr] at hb) <;> (try (exfalso; omega))) | (with_reducible refine ite_in (fun hb => ?_) (fun hb => ?_) <;> (try simp only [Decidable.not_not] at hb) <;> (try simp only [hb, if_true, if_false, not_false_eq_true, not_true_eq_false, ↓reduceIte]) <;> (try simp only [hb0, decide_eq_true_eq, decide_eq_false_iff_not, simprocAttr] at hb) <;> (try (exfalso; omega))) | ((first | refine hK _ _ ?_ | (clear hK; refine hK _ _ ?_) | (clear hK; clear hK; refine hK _ _ ?_) | (clear hK; clear hK; clear hK; refine hK _ _ ?_)); clear hK; (try simp only [pst0, simprocAttr])) | ((first | with_reducible refine a_past _ rfl (by decide +kernel) ?_ | (with_reducible refine a_past2 (by simp only [List.forall_mem_cons, Ty.w, simprocAttr, g0, g3, g4, hlen, hd, hr, hp, hs]; (repeat' apply And.intro) <;> first | trivial | exact .inl (by decide +kernel)) ?_)); try simp (maxSteps := 2000000) only [Ty.w, simprocAttr, g0, g3, g4, hlen, hd, hr, hp, hs]) | (rw [if_pos]; rotate_left 1; omega; simp (maxSteps := 2000000) only [Ty.w, simprocAttr, g0, g3, g4, hlen, hd, hr, hp, hs]))
      (first | refine a_dcall0 (c1 _) (by (try simp only [Ty.w, simprocAttr, g0, g3, g4, hlen, hr, hp, hs]); try rfl) ?_ | refine a_dcallA (c1 _) (by (try simp only [Ty.w, simprocAttr, g0, g3, g4, hlen, hr, hp, hs]); try rfl) (by simp only [Ty.w, simprocAttr, g0, g3, g4, hlen, hr, hp, hs]; try trivial) ?_); simp (maxSteps := 2000000) only [Ty.w, simprocAttr, Option.getD_some, g0, g3, g4, hlen, hr, hp, hs]
      repeat' (first | (refine a_seq (fun K hK => ?_)) | (refine a_block ?_) | ((first | refine a_regionS ?_ | refine a_drawS (by decide +kernel) ?_ | refine a_region (fun K hK => ?_) | refine a_draw (by decide +kernel) (fun K hK => ?_) | refine a_ret ?_); simp (maxSteps := 2000000) only [Ty.w, simprocAttr, g0, g3, g4, hlen, hr, hp, hs]) | ((first | refine a_skip ?_ | refine a_exit ?_); (try simp only [pst0, simprocAttr])) | (refine a_cond _ (by (try simp (maxSteps := 2000000) only [Ty.w, simprocAttr, g0, g3, g4, hlen, hr, hp, hs]); rfl) (fun hb => ?_) (fun hb => ?_) <;> (try simp only [hb0, decide_eq_true_eq, decide_eq_false_iff_not, simprocAttr] at hb) <;> (try (exfalso; omega))) | (with_reducible refine ite_in (fun hb => ?_) (fun hb => ?_) <;> (try simp only [Decidable.not_not] at hb) <;> (try simp only [hb, if_true, if_false, not_false_eq_true, not_true_eq_false, ↓reduceIte]) <;> (try simp only [hb0, decide_eq_true_eq, decide_eq_false_iff_not, simprocAttr] at hb) <;> (try (exfalso; omega))) | ((first | refine hK _ _ ?_ | (clear hK; refine hK _ _ ?_) | (clear hK; clear hK; refine hK _ _ ?_) | (clear hK; clear hK; clear hK; refine hK _ _ ?_)); clear hK; (try simp only [pst0, simprocAttr])) | ((first | with_reducible refine a_past _ rfl (by decide +kernel) ?_ | (with_reducible refine a_past2 (by simp only [List.forall_mem_cons, Ty.w, simprocAttr, g0, g3, g4, hlen, hr, hp, hs]; (repeat' apply And.intro) <;> first | trivial | exact .inl (by decide +kernel)) ?_)); try simp (maxSteps := 2000000) only [Ty.w, simprocAttr, g0, g3, g4, hlen, hr, hp, hs]) | (rw [if_pos]; rotate_left 1; omega; simp (maxSteps := 2000000) only [Ty.w, simprocAttr, g0, g3, g4, hlen, hr, hp, hs]))
      (first | refine a_dcall0 (c2 _) (by (try simp only [Ty.w, simprocAttr, g0, g3, g4, hlen, hr, hp, hs]); try rfl) ?_ | refine a_dcallA (c2 _) (by (try simp only [Ty.w, simprocAttr, g0, g3, g4, hlen, hr, hp, hs]); try rfl) (by simp only [Ty.w, simprocAttr, g0, g3, g4, hlen, hr, hp, hs]; try trivial) ?_); simp (maxSteps := 2000000) only [Ty.w, simprocAttr, Option.getD_some, g0, g3, g4, hlen, hr, hp, hs]
      repeat' (first | (refine a_seq (fun K hK => ?_)) | (refine a_block ?_) | ((first | refine a_regionS ?_ | refine a_drawS (by decide +kernel) ?_ | refine a_region (fun K hK => ?_) | refine a_draw (by decide +kernel) (fun K hK => ?_) | refine a_ret ?_); simp (maxSteps := 2000000) only [Ty.w, simprocAttr, g0, g3, g4, hlen, hr, hp, hs, w7]) | ((first | refine a_skip ?_ | refine a_exit ?_); (try simp only [pst0, simprocAttr])) | (refine a_cond _ (by (try simp (maxSteps := 2000000) only [Ty.w, simprocAttr, g0, g3, g4, hlen, hr, hp, hs, w7]); rfl) (fun hb => ?_) (fun hb => ?_) <;> (try simp only [hb0, decide_eq_true_eq, decide_eq_false_iff_not, simprocAttr] at hb) <;> (try (exfalso; omega))) | (with_reducible refine ite_in (fun hb => ?_) (fun hb => ?_) <;> (try simp only [Decidable.not_not] at hb) <;> (try simp only [hb, if_true, if_false, not_false_eq_true, not_true_eq_false, ↓reduceIte]) <;> (try simp only [hb0, decide_eq_true_eq, decide_eq_false_iff_not, simprocAttr] at hb) <;> (try (exfalso; omega))) | ((first | refine hK _ _ ?_ | (clear hK; refine hK _ _ ?_) | (clear hK; clear hK; refine hK _ _ ?_) | (clear hK; clear hK; clear hK; refine hK _ _ ?_)); clear hK; (try simp only [pst0, simprocAttr])) | ((first | with_reducible refine a_past _ rfl (by decide +kernel) ?_ | (with_reducible refine a_past2 (by simp only [List.forall_mem_cons, Ty.w, simprocAttr, g0, g3, g4, hlen, hr, hp, hs, w7]; (repeat' apply And.intro) <;> first | trivial | exact .inl (by decide +kernel)) ?_)); try simp (maxSteps := 2000000) only [Ty.w, simprocAttr, g0, g3, g4, hlen, hr, hp, hs, w7]) | (rw [if_pos]; rotate_left 1; omega; simp (maxSteps := 2000000) only [Ty.w, simprocAttr, g0, g3, g4, hlen, hr, hp, hs, w7]))
      exact ⟨l.length - (k + 1), by omega, k + 1, _, by simp, rfl, by omega, rfl, hinv⟩
    · have hd : decide ((k : Int) < (l.length : Int)) = false := by simp; omega
      rw [List.drop_eq_nil_of_le (by omega)] at hinv
      simp only [heavyM] at hinv
      repeat' (first | (refine a_seq (fun K hK => ?_)) | (refine a_block ?_) | ((first | refine a_regionS ?_ | refine a_region (fun K hK => ?_) | refine a_ret ?_); simp (maxSteps := 2000000) only [Ty.w, simprocAttr, g0, g3, g4, hlen, hd]) | ((first | refine a_skip ?_ | refine a_exit ?_); (try simp only [pst0, simprocAttr])) | (refine a_cond _ (by (try simp (maxSteps := 2000000) only [Ty.w, simprocAttr, g0, g3, g4, hlen, hd]); rfl) (fun hb => ?_) (fun hb => ?_) <;> (try simp only [hb0, decide_eq_true_eq, decide_eq_false_iff_not, simprocAttr] at hb) <;> (try (exfalso; omega))) | (with_reducible refine ite_in (fun hb => ?_) (fun hb => ?_) <;> (try simp only [Decidable.not_not] at hb) <;> (try simp only [hb, if_true, if_false, not_false_eq_true, not_true_eq_false, ↓reduceIte]) <;> (try simp only [hb0, decide_eq_true_eq, decide_eq_false_iff_not, simprocAttr] at hb) <;> (try (exfalso; omega))) | ((first | refine hK _ _ ?_ | (clear hK; refine hK _ _ ?_) | (clear hK; clear hK; refine hK _ _ ?_) | (clear hK; clear hK; clear hK; refine hK _ _ ?_)); clear hK; (try simp only [pst0, simprocAttr])) | (rw [if_pos]; rotate_left 1; omega; simp (maxSteps := 2000000) only [Ty.w, simprocAttr, g0, g3, g4, hlen, hd]))
      all_goals rw [hinv]
def actsM (n : Int) : List Ac → Int
  | [] => n
  | a :: l => actsM (IntKind.i64.wrap (n + IntKind.i64.wrap (IntKind.i64.wrap (1 + a.pre.size) + heavyM 0 a.changes))) l
def dursM (n : Int) : List Du → Int
  | [] => n
  | a :: l => dursM (IntKind.i64.wrap (n + IntKind.i64.wrap (IntKind.i64.wrap (IntKind.i64.wrap (IntKind.i64.wrap (IntKind.i64.wrap (1 + a.start.size) + a.over.size) + a.stop.size) + heavyM 0 a.atStart) + heavyM 0 a.atStop))) l
def largeD (d : Dm) : Bool := decide (dursM (actsM (IntKind.i64.wrap (IntKind.i64.wrap (IntKind.i64.wrap ((d.types.length : Int) + d.constants.length) + d.predicates.length) + d.functions.length)) d.actions) d.duratives > 3000)
theorem dlarge_c (d : Dm) (hd0 : d.ok) (h : Heap) : PCall Tryz.prog 13 [.agg d.cells] h fun r h' => r = .sc (.bool (largeD d)) ∧ h' = h := by
  obtain ⟨_, _, _, _, _, ⟨hal, hao⟩, ⟨hul, huo⟩⟩ := hd0
  obtain ⟨name, types, constants, predicates, functions, actions, duratives⟩ := d
  simp only at hal hao hul huo
  refine PCall.quiet Ty.hb_13 ?_
  unfold largeD
  simp only
  have l1 := pmRows_len types
  have l2 := pmRows_len constants
  have l3 := prRows_len predicates
  have l4 := fuRows_len functions
  have l5 := acRows_len actions
  have l6 := duRows_len duratives
  unfold bigN at hal hul
  generalize hN0 : IntKind.i64.wrap (IntKind.i64.wrap (IntKind.i64.wrap ((types.length : Int) + constants.length) + predicates.length) + functions.length) = n0
  generalize hNA : actsM n0 actions = nA
  generalize hNV : dursM nA duratives = nV
  have hC : (Dm.mk name types constants predicates functions actions duratives).cells = [sPV name, .imm 2 (pmRows types), .imm 2 (pmRows constants), .imm 2 (prRows predicates), .imm 4 (fuRows functions), .imm 10 (acRows actions), .imm 23 (duRows duratives)] := rfl
  rw [hC]
  refine pcall_body (ow := fun _ => false) (wf := fun _ => false) Ty.mixed Tryz.func13 rfl Ty.hb_13 (by rw [Tryz.ntmps13]; simp) ?_
  rw [Tryz.ntmps13, Tryz.results13]
  repeat' (first | (with_reducible refine a_hold 2 ?_) | (refine a_seq (fun K hK => ?_)) | (refine a_block ?_) | ((first | refine a_regionS ?_ | refine a_region (fun K hK => ?_) | refine a_ret ?_); simp (maxSteps := 2000000) only [Ty.w, simprocAttr, l1, l2, l3, l4, hN0]) | ((first | refine a_skip ?_ | refine a_exit ?_); (try simp only [pst0, simprocAttr])) | (refine a_cond _ (by (try simp (maxSteps := 2000000) only [Ty.w, simprocAttr, l1, l2, l3, l4, hN0]); rfl) (fun hb => ?_) (fun hb => ?_) <;> (try simp only [hb0, decide_eq_true_eq, decide_eq_false_iff_not, simprocAttr] at hb) <;> (try (exfalso; omega))) | (with_reducible refine ite_in (fun hb => ?_) (fun hb => ?_) <;> (try simp only [Decidable.not_not] at hb) <;> (try simp only [hb, if_true, if_false, not_false_eq_true, not_true_eq_false, ↓reduceIte]) <;> (try simp only [hb0, decide_eq_true_eq, decide_eq_false_iff_not, simprocAttr] at hb) <;> (try (exfalso; omega))) | ((first | refine hK _ _ ?_ | (clear hK; refine hK _ _ ?_) | (clear hK; clear hK; refine hK _ _ ?_) | (clear hK; clear hK; clear hK; refine hK _ _ ?_)); clear hK; (try simp only [pst0, simprocAttr])) | (rw [if_pos]; rotate_left 1; omega; simp (maxSteps := 2000000) only [Ty.w, simprocAttr, l1, l2, l3, l4, hN0]))
  refine ⟨?_⟩
  refine a_cut (fun S h' => h' = h ∧ S 1 = .cptr (Dm.mk name types constants predicates functions actions duratives).cells ∧ S 3 = .sc (.int .i64 nA)) ?_ ?_
  · rw [hC]
    repeat' (first | (refine a_seq (fun K hK => ?_)) | (refine a_block ?_) | ((first | refine a_regionS ?_ | refine a_region (fun K hK => ?_) | refine a_ret ?_); simp (maxSteps := 2000000) only [Ty.w, simprocAttr]) | ((first | refine a_skip ?_ | refine a_exit ?_); (try simp only [pst0, simprocAttr])) | (refine a_cond _ (by (try simp (maxSteps := 2000000) only [Ty.w, simprocAttr]); rfl) (fun hb => ?_) (fun hb => ?_) <;> (try simp only [hb0, decide_eq_true_eq, decide_eq_false_iff_not, simprocAttr] at hb) <;> (try (exfalso; omega))) | (with_reducible refine ite_in (fun hb => ?_) (fun hb => ?_) <;> (try simp only [Decidable.not_not] at hb) <;> (try simp only [hb, if_true, if_false, not_false_eq_true, not_true_eq_false, ↓reduceIte]) <;> (try simp only [hb0, decide_eq_true_eq, decide_eq_false_iff_not, simprocAttr] at hb) <;> (try (exfalso; omega))) | ((first | refine hK _ _ ?_ | (clear hK; refine hK _ _ ?_) | (clear hK; clear hK; refine hK _ _ ?_) | (clear hK; clear hK; clear hK; refine hK _ _ ?_)); clear hK; (try simp only [pst0, simprocAttr])) | (rw [if_pos]; rotate_left 1; omega; simp (maxSteps := 2000000) only [Ty.w, simprocAttr]))
    refine a_loop (fun c S h' => h' = h ∧ S 1 = .cptr (Dm.mk name types constants predicates functions actions duratives).cells ∧ ∃ (k : Nat) (n : Int), S 4 = .sc (.int .i64 k) ∧ S 3 = .sc (.int .i64 n) ∧ k ≤ actions.length ∧ c = actions.length - k ∧ nA = actsM n (actions.drop k)) actions.length ?_ ?_
    · simp only [Ty.w, simprocAttr, hC]
      exact ⟨0, n0, rfl, rfl, by omega, rfl, by rw [← hNA]; try rfl⟩
    · rintro c S h' ⟨rfl, g1, k, n, g4, g3, hk, rfl, hinv⟩
      rw [hC] at g1
      by_cases hlt : k < actions.length
      · have hd : decide ((k : Int) < (actions.length : Int)) = true := by simp; omega
        have w7 : IntKind.i64.wrap ((k : Int) + 1) = k + 1 := by rw [wrap64 (by omega) (by omega)]
        obtain ⟨a, hx⟩ : ∃ a, actions[k]? = some a := ⟨_, List.getElem?_eq_getElem hlt⟩
        have hr := acRows_get hx
        have ha := hao a (List.mem_of_getElem? hx)
        rw [drop_of_get hx] at hinv
        simp only [actsM] at hinv
        have c1 := rsize_c a.pre ha.pre
        have c2 := fun h : Heap => heavy_c ha.changes h
        clear ha
        obtain ⟨aname, aparams, acost, pre, changes⟩ := a
        simp only at hinv c1 c2
        generalize pre.size = s1 at hinv c1
        generalize heavyM 0 changes = s2 at hinv c2
        obtain ⟨fop, fna, far, fpa, fex, fki⟩ := pre
        simp only [acRow, Fm.cells, List.cons_append, List.nil_append] at hr c1
        repeat' (first | (refine a_seq (fun K hK => ?_)) | (refine a_block ?_) | ((first | refine a_regionS ?_ | refine a_drawS (by decide +kernel) ?_ | refine a_region (fun K hK => ?_) | refine a_draw (by decide +kernel) (fun K hK => ?_) | refine a_ret ?_); simp (maxSteps := 2000000) only [Ty.w, simprocAttr, g1, g3, g4, l5, hd, hr]) | ((first | refine a_skip ?_ | refine a_exit ?_); (try simp only [pst0, simprocAttr])) | (refine a_cond _ (by (try simp (maxSteps := 2000000) only [Ty.w, simprocAttr, g1, g3, g4, l5, hd, hr]); rfl) (fun hb => ?_) (fun hb => ?_) <;> (try simp only [hb0, decide_eq_true_eq, decide_eq_false_iff_not, simprocAttr] at hb) <;> (try (exfalso; omega))) | (with_reducible refine ite_in (fun hb => ?_) (fun hb => ?_) <;> (try simp only [Decidable.not_not] at hb) <;> (try simp only [hb, if_true, if_false, not_false_eq_true, not_true_eq_false, ↓reduceIte]) <;> (try simp only [hb0, decide_eq_true_eq, decide_eq_false_iff_not, simprocAttr] at hb) <;> (try (exfalso; omega))) | ((first | refine hK _ _ ?_ | (clear hK; refine hK _ _ ?_) | (clear hK; clear hK; refine hK _ _ ?_) | (clear hK; clear hK; clear hK; refine hK _ _ ?_)); clear hK; (try simp only [pst0, simprocAttr])) | ((first | with_reducible refine a_past _ rfl (by decide +kernel) ?_ | (with_reducible refine a_past2 (by simp only [List.forall_mem_cons, Ty.w, simprocAttr, g1, g3, g4, l5, hd, hr]; (repeat' apply And.intro) <;> first | trivial | exact .inl (by decide +kernel)) ?_)); try simp (maxSteps := 2000000) only [Ty.w, simprocAttr, g1, g3, g4, l5, hd, hr]) | (rw [if_pos]; rotate_left 1; omega; simp (maxSteps := 2000000) only [Ty.w, simprocAttr, g1, g3, g4, l5, hd, hr]))
        (first | refine a_dcall0 (c1 _) (by (try simp only [Ty.w, simprocAttr, g1, g3, g4, l5, hr]); try rfl) ?_ | refine a_dcallA (c1 _) (by (try simp only [Ty.w, simprocAttr, g1, g3, g4, l5, hr]); try rfl) (by simp only [Ty.w, simprocAttr, g1, g3, g4, l5, hr]; try trivial) ?_); simp (maxSteps := 2000000) only [Ty.w, simprocAttr, Option.getD_some, g1, g3, g4, l5, hr]
        repeat' (first | (refine a_seq (fun K hK => ?_)) | (refine a_block ?_) | ((first | refine a_regionS ?_ | refine a_drawS (by decide +kernel) ?_ | refine a_region (fun K hK => ?_) | refine a_draw (by decide +kernel) (fun K hK => ?_) | refine a_ret ?_); simp (maxSteps := 2000000) only [Ty.w, simprocAttr, g1, g3, g4, l5, hr]) | ((first | refine a_skip ?_ | refine a_exit ?_); (try simp only [pst0, simprocAttr])) | (refine a_cond _ (by (try simp (maxSteps := 2000000) only [Ty.w, simprocAttr, g1, g3, g4, l5, hr]); rfl) (fun hb => ?_) (fun hb => ?_) <;> (try simp only [hb0, decide_eq_true_eq, decide_eq_false_iff_not, simprocAttr] at hb) <;> (try (exfalso; omega))) | (with_reducible refine ite_in (fun hb => ?_) (fun hb => ?_) <;> (try simp only [Decidable.not_not] at hb) <;> (try simp only [hb, if_true, if_false, not_false_eq_true, not_true_eq_false, ↓reduceIte]) <;> (try simp only [hb0, decide_eq_true_eq, decide_eq_false_iff_not, simprocAttr] at hb) <;> (try (exfalso; omega))) | ((first | refine hK _ _ ?_ | (clear hK; refine hK _ _ ?_) | (clear hK; clear hK; refine hK _ _ ?_) | (clear hK; clear hK; clear hK; refine hK _ _ ?_)); clear hK; (try simp only [pst0, simprocAttr])) | ((first | with_reducible refine a_past _ rfl (by decide +kernel) ?_ | (with_reducible refine a_past2 (by simp only [List.forall_mem_cons, Ty.w, simprocAttr, g1, g3, g4, l5, hr]; (repeat' apply And.intro) <;> first | trivial | exact .inl (by decide +kernel)) ?_)); try simp (maxSteps := 2000000) only [Ty.w, simprocAttr, g1, g3, g4, l5, hr]) | (rw [if_pos]; rotate_left 1; omega; simp (maxSteps := 2000000) only [Ty.w, simprocAttr, g1, g3, g4, l5, hr]))
        (first | refine a_dcall0 (c2 _) (by (try simp only [Ty.w, simprocAttr, g1, g3, g4, l5, hr]); try rfl) ?_ | refine a_dcallA (c2 _) (by (try simp only [Ty.w, simprocAttr, g1, g3, g4, l5, hr]); try rfl) (by simp only [Ty.w, simprocAttr, g1, g3, g4, l5, hr]; try trivial) ?_); simp (maxSteps := 2000000) only [Ty.w, simprocAttr, Option.getD_some, g1, g3, g4, l5, hr]
        repeat' (first | (refine a_seq (fun K hK => ?_)) | (refine a_block ?_) | ((first | refine a_regionS ?_ | refine a_drawS (by decide +kernel) ?_ | refine a_region (fun K hK => ?_) | refine a_draw (by decide +kernel) (fun K hK => ?_) | refine a_ret ?_); simp (maxSteps := 2000000) only [Ty.w, simprocAttr, g1, g3, g4, l5, hr, w7]) | ((first | refine a_skip ?_ | refine a_exit ?_); (try simp only [pst0, simprocAttr])) | (refine a_cond _ (by (try simp (maxSteps := 2000000) only [Ty.w, simprocAttr, g1, g3, g4, l5, hr, w7]); rfl) (fun hb => ?_) (fun hb => ?_) <;> (try simp only [hb0, decide_eq_true_eq, decide_eq_false_iff_not, simprocAttr] at hb) <;> (try (exfalso; omega))) | (with_reducible refine ite_in (fun hb => ?_) (fun hb => ?_) <;> (try simp only [Decidable.not_not] at hb) <;> (try simp only [hb, if_true, if_false, not_false_eq_true, not_true_eq_false, ↓reduceIte]) <;> (try simp only [hb0, decide_eq_true_eq, decide_eq_false_iff_not, simprocAttr] at hb) <;> (try (exfalso; omega))) | ((first | refine hK _ _ ?_ | (clear hK; refine hK _ _ ?_) | (clear hK; clear hK; refine hK _ _ ?_) | (clear hK; clear hK; clear hK; refine hK _ _ ?_)); clear hK; (try simp only [pst0, simprocAttr])) | ((first | with_reducible refine a_past _ rfl (by decide +kernel) ?_ | (with_reducible refine a_past2 (by simp only [List.forall_mem_cons, Ty.w, simprocAttr, g1, g3, g4, l5, hr, w7]; (repeat' apply And.intro) <;> first | trivial | exact .inl (by decide +kernel)) ?_)); try simp (maxSteps := 2000000) only [Ty.w, simprocAttr, g1, g3, g4, l5, hr, w7]) | (rw [if_pos]; rotate_left 1; omega; simp (maxSteps := 2000000) only [Ty.w, simprocAttr, g1, g3, g4, l5, hr, w7]))
        exact ⟨actions.length - (k + 1), by omega, by rw [hC], k + 1, _, by simp, rfl, by omega, rfl, hinv⟩
      · have hd : decide ((k : Int) < (actions.length : Int)) = false := by simp; omega
        rw [List.drop_eq_nil_of_le (by omega)] at hinv
        simp only [actsM] at hinv
        repeat' (first | (refine a_seq (fun K hK => ?_)) | (refine a_block ?_) | ((first | refine a_regionS ?_ | refine a_region (fun K hK => ?_) | refine a_ret ?_); simp (maxSteps := 2000000) only [Ty.w, simprocAttr, g1, g3, g4, l5, hd]) | ((first | refine a_skip ?_ | refine a_exit ?_); (try simp only [pst0, simprocAttr])) | (refine a_cond _ (by (try simp (maxSteps := 2000000) only [Ty.w, simprocAttr, g1, g3, g4, l5, hd]); rfl) (fun hb => ?_) (fun hb => ?_) <;> (try simp only [hb0, decide_eq_true_eq, decide_eq_false_iff_not, simprocAttr] at hb) <;> (try (exfalso; omega))) | (with_reducible refine ite_in (fun hb => ?_) (fun hb => ?_) <;> (try simp only [Decidable.not_not] at hb) <;> (try simp only [hb, if_true, if_false, not_false_eq_true, not_true_eq_false, ↓reduceIte]) <;> (try simp only [hb0, decide_eq_true_eq, decide_eq_false_iff_not, simprocAttr] at hb) <;> (try (exfalso; omega))) | ((first | refine hK _ _ ?_ | (clear hK; refine hK _ _ ?_) | (clear hK; clear hK; refine hK _ _ ?_) | (clear hK; clear hK; clear hK; refine hK _ _ ?_)); clear hK; (try simp only [pst0, simprocAttr])) | (rw [if_pos]; rotate_left 1; omega; simp (maxSteps := 2000000) only [Ty.w, simprocAttr, g1, g3, g4, l5, hd]))
        simp only [Ty.w, simprocAttr, g1, g3, hinv, hC]
  · rintro S h' ⟨rfl, g1, g3⟩
    rw [hC] at g1
    clear hNA hN0
    repeat' (first | (with_reducible refine a_hold 6 ?_) | (refine a_seq (fun K hK => ?_)) | (refine a_block ?_) | ((first | refine a_regionS ?_ | refine a_region (fun K hK => ?_) | refine a_ret ?_); simp (maxSteps := 2000000) only [Ty.w, simprocAttr, g1, g3]) | ((first | refine a_skip ?_ | refine a_exit ?_); (try simp only [pst0, simprocAttr])) | (refine a_cond _ (by (try simp (maxSteps := 2000000) only [Ty.w, simprocAttr, g1, g3]); rfl) (fun hb => ?_) (fun hb => ?_) <;> (try simp only [hb0, decide_eq_true_eq, decide_eq_false_iff_not, simprocAttr] at hb) <;> (try (exfalso; omega))) | (with_reducible refine ite_in (fun hb => ?_) (fun hb => ?_) <;> (try simp only [Decidable.not_not] at hb) <;> (try simp only [hb, if_true, if_false, not_false_eq_true, not_true_eq_false, ↓reduceIte]) <;> (try simp only [hb0, decide_eq_true_eq, decide_eq_false_iff_not, simprocAttr] at hb) <;> (try (exfalso; omega))) | ((first | refine hK _ _ ?_ | (clear hK; refine hK _ _ ?_) | (clear hK; clear hK; refine hK _ _ ?_) | (clear hK; clear hK; clear hK; refine hK _ _ ?_)); clear hK; (try simp only [pst0, simprocAttr])) | (rw [if_pos]; rotate_left 1; omega; simp (maxSteps := 2000000) only [Ty.w, simprocAttr, g1, g3]))
    refine ⟨?_⟩
    refine a_cut (fun S h2 => Grow h' h2 ∧ S 3 = .sc (.int .i64 nV)) ?_ ?_
    · repeat' (first | (refine a_seq (fun K hK => ?_)) | (refine a_block ?_) | ((first | refine a_regionS ?_ | refine a_region (fun K hK => ?_) | refine a_ret ?_); simp (maxSteps := 2000000) only [Ty.w, simprocAttr, g1, g3]) | ((first | refine a_skip ?_ | refine a_exit ?_); (try simp only [pst0, simprocAttr])) | (refine a_cond _ (by (try simp (maxSteps := 2000000) only [Ty.w, simprocAttr, g1, g3]); rfl) (fun hb => ?_) (fun hb => ?_) <;> (try simp only [hb0, decide_eq_true_eq, decide_eq_false_iff_not, simprocAttr] at hb) <;> (try (exfalso; omega))) | (with_reducible refine ite_in (fun hb => ?_) (fun hb => ?_) <;> (try simp only [Decidable.not_not] at hb) <;> (try simp only [hb, if_true, if_false, not_false_eq_true, not_true_eq_false, ↓reduceIte]) <;> (try simp only [hb0, decide_eq_true_eq, decide_eq_false_iff_not, simprocAttr] at hb) <;> (try (exfalso; omega))) | ((first | refine hK _ _ ?_ | (clear hK; refine hK _ _ ?_) | (clear hK; clear hK; refine hK _ _ ?_) | (clear hK; clear hK; clear hK; refine hK _ _ ?_)); clear hK; (try simp only [pst0, simprocAttr])) | (rw [if_pos]; rotate_left 1; omega; simp (maxSteps := 2000000) only [Ty.w, simprocAttr, g1, g3]))
      refine a_loop (fun c S h2 => Grow h' h2 ∧ S 1 = .cptr (Dm.mk name types constants predicates functions actions duratives).cells ∧ ∃ (k : Nat) (n : Int), S 5 = .sc (.int .i64 k) ∧ S 3 = .sc (.int .i64 n) ∧ k ≤ duratives.length ∧ c = duratives.length - k ∧ nV = dursM n (duratives.drop k)) duratives.length ?_ ?_
      · simp only [Ty.w, simprocAttr, g1, g3, hC]
        exact ⟨Grow.refl _, 0, nA, rfl, rfl, by omega, rfl, by rw [← hNV]; try rfl⟩
      · clear g1 g3
        rintro c S h2 ⟨hg, g1, k, n, g5, g3, hk, rfl, hinv⟩
        rw [hC] at g1
        by_cases hlt : k < duratives.length
        · have hd : decide ((k : Int) < (duratives.length : Int)) = true := by simp; omega
          have w7 : IntKind.i64.wrap ((k : Int) + 1) = k + 1 := by rw [wrap64 (by omega) (by omega)]
          obtain ⟨a, hx⟩ : ∃ a, duratives[k]? = some a := ⟨_, List.getElem?_eq_getElem hlt⟩
          have hr := duRows_get hx
          have ha := huo a (List.mem_of_getElem? hx)
          rw [drop_of_get hx] at hinv
          simp only [dursM] at hinv
          have c1 := rsize_c a.start ha.start
          have c2 := rsize_c a.over ha.over
          have c3 := rsize_c a.stop ha.stop
          have c4 := fun h : Heap => heavy_c ha.atStart h
          have c5 := fun h : Heap => heavy_c ha.atStop h
          clear ha
          obtain ⟨aname, aparams, adur, start, over, stop, atStart, atStop⟩ := a
          simp only at hinv c1 c2 c3 c4 c5
          generalize start.size = s1 at hinv c1
          generalize over.size = s2 at hinv c2
          generalize stop.size = s3 at hinv c3
          generalize heavyM 0 atStart = s4 at hinv c4
          generalize heavyM 0 atStop = s5 at hinv c5
          obtain ⟨fop, fna, far, fpa, fex, fki⟩ := start
          obtain ⟨fop2, fna2, far2, fpa2, fex2, fki2⟩ := over
          obtain ⟨fop3, fna3, far3, fpa3, fex3, fki3⟩ := stop
          simp only [duRow, Fm.cells, List.cons_append, List.nil_append] at hr c1 c2 c3
          repeat' (first | (refine a_seq (fun K hK => ?_)) | (refine a_block ?_) | ((first | refine a_regionS ?_ | refine a_drawS (by decide +kernel) ?_ | refine a_region (fun K hK => ?_) | refine a_draw (by decide +kernel) (fun K hK => ?_) | refine a_ret ?_); simp (maxSteps := 2000000) only [Ty.w, simprocAttr, g1, g3, g5, l6, hd, hr]) | ((first | refine a_skip ?_ | refine a_exit ?_); (try simp only [pst0, simprocAttr])) | (refine a_cond _ (by (try simp (maxSteps := 2000000) only [Ty.w, simprocAttr, g1, g3, g5, l6, hd, hr]); rfl) (fun hb => ?_) (fun hb => ?_) <;> (try simp only [hb0, decide_eq_true_eq, decide_eq_false_iff_not, simprocAttr] at hb) <;> (try (exfalso; omega))) | (with_reducible refine ite_in (fun hb => ?_) (fun hb => ?_) <;> (try simp only [Decidable.not_not] at hb) <;> (try simp only [hb, if_true, if_false, not_false_eq_true, not_true_eq_false, ↓reduceIte]) <;> (try simp only [hb0, decide_eq_true_eq, decide_eq_false_iff_not, simprocAttr] at hb) <;> (try (exfalso; omega))) | ((first | refine hK _ _ ?_ | (clear hK; refine hK _ _ ?_) | (clear hK; clear hK; refine hK _ _ ?_) | (clear hK; clear hK; clear hK; refine hK _ _ ?_)); clear hK; (try simp only [pst0, simprocAttr])) | ((first | with_reducible refine a_past _ rfl (by decide +kernel) ?_ | (with_reducible refine a_past2 (by simp only [List.forall_mem_cons, Ty.w, simprocAttr, g1, g3, g5, l6, hd, hr]; (repeat' apply And.intro) <;> first | trivial | exact .inl (by decide +kernel)) ?_)); try simp (maxSteps := 2000000) only [Ty.w, simprocAttr, g1, g3, g5, l6, hd, hr]) | (rw [if_pos]; rotate_left 1; omega; simp (maxSteps := 2000000) only [Ty.w, simprocAttr, g1, g3, g5, l6, hd, hr]))
          (first | refine a_dcall0 (c1 _) (by (try simp only [Ty.w, simprocAttr, g1, g3, g5, l6, hr]); try rfl) ?_ | refine a_dcallA (c1 _) (by (try simp only [Ty.w, simprocAttr, g1, g3, g5, l6, hr]); try rfl) (by simp only [Ty.w, simprocAttr, g1, g3, g5, l6, hr]; try trivial) ?_); simp (maxSteps := 2000000) only [Ty.w, simprocAttr, Option.getD_some, g1, g3, g5, l6, hr]
          repeat' (first | (refine a_seq (fun K hK => ?_)) | (refine a_block ?_) | ((first | refine a_regionS ?_ | refine a_drawS (by decide +kernel) ?_ | refine a_region (fun K hK => ?_) | refine a_draw (by decide +kernel) (fun K hK => ?_) | refine a_ret ?_); simp (maxSteps := 2000000) only [Ty.w, simprocAttr, g1, g3, g5, l6, hr]) | ((first | refine a_skip ?_ | refine a_exit ?_); (try simp only [pst0, simprocAttr])) | (refine a_cond _ (by (try simp (maxSteps := 2000000) only [Ty.w, simprocAttr, g1, g3, g5, l6, hr]); rfl) (fun hb => ?_) (fun hb => ?_) <;> (try simp only [hb0, decide_eq_true_eq, decide_eq_false_iff_not, simprocAttr] at hb) <;> (try (exfalso; omega))) | (with_reducible refine ite_in (fun hb => ?_) (fun hb => ?_) <;> (try simp only [Decidable.not_not] at hb) <;> (try simp only [hb, if_true, if_false, not_false_eq_true, not_true_eq_false, ↓reduceIte]) <;> (try simp only [hb0, decide_eq_true_eq, decide_eq_false_iff_not, simprocAttr] at hb) <;> (try (exfalso; omega))) | ((first | refine hK _ _ ?_ | (clear hK; refine hK _ _ ?_) | (clear hK; clear hK; refine hK _ _ ?_) | (clear hK; clear hK; clear hK; refine hK _ _ ?_)); clear hK; (try simp only [pst0, simprocAttr])) | ((first | with_reducible refine a_past _ rfl (by decide +kernel) ?_ | (with_reducible refine a_past2 (by simp only [List.forall_mem_cons, Ty.w, simprocAttr, g1, g3, g5, l6, hr]; (repeat' apply And.intro) <;> first | trivial | exact .inl (by decide +kernel)) ?_)); try simp (maxSteps := 2000000) only [Ty.w, simprocAttr, g1, g3, g5, l6, hr]) | (rw [if_pos]; rotate_left 1; omega; simp (maxSteps := 2000000) only [Ty.w, simprocAttr, g1, g3, g5, l6, hr]))
          (first | refine a_dcall0 (c2 _) (by (try simp only [Ty.w, simprocAttr, g1, g3, g5, l6, hr]); try rfl) ?_ | refine a_dcallA (c2 _) (by (try simp only [Ty.w, simprocAttr, g1, g3, g5, l6, hr]); try rfl) (by simp only [Ty.w, simprocAttr, g1, g3, g5, l6, hr]; try trivial) ?_); simp (maxSteps := 2000000) only [Ty.w, simprocAttr, Option.getD_some, g1, g3, g5, l6, hr]
          repeat' (first | (refine a_seq (fun K hK => ?_)) | (refine a_block ?_) | ((first | refine a_regionS ?_ | refine a_drawS (by decide +kernel) ?_ | refine a_region (fun K hK => ?_) | refine a_draw (by decide +kernel) (fun K hK => ?_) | refine a_ret ?_); simp (maxSteps := 2000000) only [Ty.w, simprocAttr, g1, g3, g5, l6, hr]) | ((first | refine a_skip ?_ | refine a_exit ?_); (try simp only [pst0, simprocAttr])) | (refine a_cond _ (by (try simp (maxSteps := 2000000) only [Ty.w, simprocAttr, g1, g3, g5, l6, hr]); rfl) (fun hb => ?_) (fun hb => ?_) <;> (try simp only [hb0, decide_eq_true_eq, decide_eq_false_iff_not, simprocAttr] at hb) <;> (try (exfalso; omega))) | (with_reducible refine ite_in (fun hb => ?_) (fun hb => ?_) <;> (try simp only [Decidable.not_not] at hb) <;> (try simp only [hb, if_true, if_false, not_false_eq_true, not_true_eq_false, ↓reduceIte]) <;> (try simp only [hb0, decide_eq_true_eq, decide_eq_false_iff_not, simprocAttr] at hb) <;> (try (exfalso; omega))) | ((first | refine hK _ _ ?_ | (clear hK; refine hK _ _ ?_) | (clear hK; clear hK; refine hK _ _ ?_) | (clear hK; clear hK; clear hK; refine hK _ _ ?_)); clear hK; (try simp only [pst0, simprocAttr])) | ((first | with_reducible refine a_past _ rfl (by decide +kernel) ?_ | (with_reducible refine a_past2 (by simp only [List.forall_mem_cons, Ty.w, simprocAttr, g1, g3, g5, l6, hr]; (repeat' apply And.intro) <;> first | trivial | exact .inl (by decide +kernel)) ?_)); try simp (maxSteps := 2000000) only [Ty.w, simprocAttr, g1, g3, g5, l6, hr]) | (rw [if_pos]; rotate_left 1; omega; simp (maxSteps := 2000000) only [Ty.w, simprocAttr, g1, g3, g5, l6, hr]))
          (first | refine a_dcall0 (c3 _) (by (try simp only [Ty.w, simprocAttr, g1, g3, g5, l6, hr]); try rfl) ?_ | refine a_dcallA (c3 _) (by (try simp only [Ty.w, simprocAttr, g1, g3, g5, l6, hr]); try rfl) (by simp only [Ty.w, simprocAttr, g1, g3, g5, l6, hr]; try trivial) ?_); simp (maxSteps := 2000000) only [Ty.w, simprocAttr, Option.getD_some, g1, g3, g5, l6, hr]
          repeat' (first | (refine a_seq (fun K hK => ?_)) | (refine a_block ?_) | ((first | refine a_regionS ?_ | refine a_drawS (by decide +kernel) ?_ | refine a_region (fun K hK => ?_) | refine a_draw (by decide +kernel) (fun K hK => ?_) | refine a_ret ?_); simp (maxSteps := 2000000) only [Ty.w, simprocAttr, g1, g3, g5, l6, hr]) | ((first | refine a_skip ?_ | refine a_exit ?_); (try simp only [pst0, simprocAttr])) | (refine a_cond _ (by (try simp (maxSteps := 2000000) only [Ty.w, simprocAttr, g1, g3, g5, l6, hr]); rfl) (fun hb => ?_) (fun hb => ?_) <;> (try simp only [hb0, decide_eq_true_eq, decide_eq_false_iff_not, simprocAttr] at hb) <;> (try (exfalso; omega))) | (with_reducible refine ite_in (fun hb => ?_) (fun hb => ?_) <;> (try simp only [Decidable.not_not] at hb) <;> (try simp only [hb, if_true, if_false, not_false_eq_true, not_true_eq_false, ↓reduceIte]) <;> (try simp only [hb0, decide_eq_true_eq, decide_eq_false_iff_not, simprocAttr] at hb) <;> (try (exfalso; omega))) | ((first | refine hK _ _ ?_ | (clear hK; refine hK _ _ ?_) | (clear hK; clear hK; refine hK _ _ ?_) | (clear hK; clear hK; clear hK; refine hK _ _ ?_)); clear hK; (try simp only [pst0, simprocAttr])) | ((first | with_reducible refine a_past _ rfl (by decide +kernel) ?_ | (with_reducible refine a_past2 (by simp only [List.forall_mem_cons, Ty.w, simprocAttr, g1, g3, g5, l6, hr]; (repeat' apply And.intro) <;> first | trivial | exact .inl (by decide +kernel)) ?_)); try simp (maxSteps := 2000000) only [Ty.w, simprocAttr, g1, g3, g5, l6, hr]) | (rw [if_pos]; rotate_left 1; omega; simp (maxSteps := 2000000) only [Ty.w, simprocAttr, g1, g3, g5, l6, hr]))
          (first | refine a_dcall0 (c4 _) (by (try simp only [Ty.w, simprocAttr, g1, g3, g5, l6, hr]); try rfl) ?_ | refine a_dcallA (c4 _) (by (try simp only [Ty.w, simprocAttr, g1, g3, g5, l6, hr]); try rfl) (by simp only [Ty.w, simprocAttr, g1, g3, g5, l6, hr]; try trivial) ?_); simp (maxSteps := 2000000) only [Ty.w, simprocAttr, Option.getD_some, g1, g3, g5, l6, hr]
          repeat' (first | (refine a_seq (fun K hK => ?_)) | (refine a_block ?_) | ((first | refine a_regionS ?_ | refine a_drawS (by decide +kernel) ?_ | refine a_region (fun K hK => ?_) | refine a_draw (by decide +kernel) (fun K hK => ?_) | refine a_ret ?_); simp (maxSteps := 2000000) only [Ty.w, simprocAttr, g1, g3, g5, l6, hr]) | ((first | refine a_skip ?_ | refine a_exit ?_); (try simp only [pst0, simprocAttr])) | (refine a_cond _ (by (try simp (maxSteps := 2000000) only [Ty.w, simprocAttr, g1, g3, g5, l6, hr]); rfl) (fun hb => ?_) (fun hb => ?_) <;> (try simp only [hb0, decide_eq_true_eq, decide_eq_false_iff_not, simprocAttr] at hb) <;> (try (exfalso; omega))) | (with_reducible refine ite_in (fun hb => ?_) (fun hb => ?_) <;> (try simp only [Decidable.not_not] at hb) <;> (try simp only [hb, if_true, if_false, not_false_eq_true, not_true_eq_false, ↓reduceIte]) <;> (try simp only [hb0, decide_eq_true_eq, decide_eq_false_iff_not, simprocAttr] at hb) <;> (try (exfalso; omega))) | ((first | refine hK _ _ ?_ | (clear hK; refine hK _ _ ?_) | (clear hK; clear hK; refine hK _ _ ?_) | (clear hK; clear hK; clear hK; refine hK _ _ ?_)); clear hK; (try simp only [pst0, simprocAttr])) | ((first | with_reducible refine a_past _ rfl (by decide +kernel) ?_ | (with_reducible refine a_past2 (by simp only [List.forall_mem_cons, Ty.w, simprocAttr, g1, g3, g5, l6, hr]; (repeat' apply And.intro) <;> first | trivial | exact .inl (by decide +kernel)) ?_)); try simp (maxSteps := 2000000) only [Ty.w, simprocAttr, g1, g3, g5, l6, hr]) | (rw [if_pos]; rotate_left 1; omega; simp (maxSteps := 2000000) only [Ty.w, simprocAttr, g1, g3, g5, l6, hr]))
          (first | refine a_dcall0 (c5 _) (by (try simp only [Ty.w, simprocAttr, g1, g3, g5, l6, hr]); try rfl) ?_ | refine a_dcallA (c5 _) (by (try simp only [Ty.w, simprocAttr, g1, g3, g5, l6, hr]); try rfl) (by simp only [Ty.w, simprocAttr, g1, g3, g5, l6, hr]; try trivial) ?_); simp (maxSteps := 2000000) only [Ty.w, simprocAttr, Option.getD_some, g1, g3, g5, l6, hr]
          repeat' (first | (refine a_seq (fun K hK => ?_)) | (refine a_block ?_) | ((first | refine a_regionS ?_ | refine a_drawS (by decide +kernel) ?_ | refine a_region (fun K hK => ?_) | refine a_draw (by decide +kernel) (fun K hK => ?_) | refine a_ret ?_); simp (maxSteps := 2000000) only [Ty.w, simprocAttr, g1, g3, g5, l6, hr, w7]) | ((first | refine a_skip ?_ | refine a_exit ?_); (try simp only [pst0, simprocAttr])) | (refine a_cond _ (by (try simp (maxSteps := 2000000) only [Ty.w, simprocAttr, g1, g3, g5, l6, hr, w7]); rfl) (fun hb => ?_) (fun hb => ?_) <;> (try simp only [hb0, decide_eq_true_eq, decide_eq_false_iff_not, simprocAttr] at hb) <;> (try (exfalso; omega))) | (with_reducible refine ite_in (fun hb => ?_) (fun hb => ?_) <;> (try simp only [Decidable.not_not] at hb) <;> (try simp only [hb, if_true, if_false, not_false_eq_true, not_true_eq_false, ↓reduceIte]) <;> (try simp only [hb0, decide_eq_true_eq, decide_eq_false_iff_not, simprocAttr] at hb) <;> (try (exfalso; omega))) | ((first | refine hK _ _ ?_ | (clear hK; refine hK _ _ ?_) | (clear hK; clear hK; refine hK _ _ ?_) | (clear hK; clear hK; clear hK; refine hK _ _ ?_)); clear hK; (try simp only [pst0, simprocAttr])) | ((first | with_reducible refine a_past _ rfl (by decide +kernel) ?_ | (with_reducible refine a_past2 (by simp only [List.forall_mem_cons, Ty.w, simprocAttr, g1, g3, g5, l6, hr, w7]; (repeat' apply And.intro) <;> first | trivial | exact .inl (by decide +kernel)) ?_)); try simp (maxSteps := 2000000) only [Ty.w, simprocAttr, g1, g3, g5, l6, hr, w7]) | (rw [if_pos]; rotate_left 1; omega; simp (maxSteps := 2000000) only [Ty.w, simprocAttr, g1, g3, g5, l6, hr, w7]))
          exact ⟨duratives.length - (k + 1), by omega, (hg.new _).set hg.le _, by rw [hC], k + 1, _, by simp, rfl, by omega, rfl, hinv⟩
        · have hd : decide ((k : Int) < (duratives.length : Int)) = false := by simp; omega
          rw [List.drop_eq_nil_of_le (by omega)] at hinv
          simp only [dursM] at hinv
          repeat' (first | (refine a_seq (fun K hK => ?_)) | (refine a_block ?_) | ((first | refine a_regionS ?_ | refine a_region (fun K hK => ?_) | refine a_ret ?_); simp (maxSteps := 2000000) only [Ty.w, simprocAttr, g1, g3, g5, l6, hd]) | ((first | refine a_skip ?_ | refine a_exit ?_); (try simp only [pst0, simprocAttr])) | (refine a_cond _ (by (try simp (maxSteps := 2000000) only [Ty.w, simprocAttr, g1, g3, g5, l6, hd]); rfl) (fun hb => ?_) (fun hb => ?_) <;> (try simp only [hb0, decide_eq_true_eq, decide_eq_false_iff_not, simprocAttr] at hb) <;> (try (exfalso; omega))) | (with_reducible refine ite_in (fun hb => ?_) (fun hb => ?_) <;> (try simp only [Decidable.not_not] at hb) <;> (try simp only [hb, if_true, if_false, not_false_eq_true, not_true_eq_false, ↓reduceIte]) <;> (try simp only [hb0, decide_eq_true_eq, decide_eq_false_iff_not, simprocAttr] at hb) <;> (try (exfalso; omega))) | ((first | refine hK _ _ ?_ | (clear hK; refine hK _ _ ?_) | (clear hK; clear hK; refine hK _ _ ?_) | (clear hK; clear hK; clear hK; refine hK _ _ ?_)); clear hK; (try simp only [pst0, simprocAttr])) | (rw [if_pos]; rotate_left 1; omega; simp (maxSteps := 2000000) only [Ty.w, simprocAttr, g1, g3, g5, l6, hd]))
          simp only [Ty.w, simprocAttr, g1, g3, hinv]
          exact hg
    · clear g1 g3
      rintro S h2 ⟨hg, g3⟩
      repeat' (first | (refine a_seq (fun K hK => ?_)) | (refine a_block ?_) | ((first | refine a_regionS ?_ | refine a_region (fun K hK => ?_) | refine a_ret ?_); simp (maxSteps := 2000000) only [Ty.w, simprocAttr, g3]) | ((first | refine a_skip ?_ | refine a_exit ?_); (try simp only [pst0, simprocAttr])) | (refine a_cond _ (by (try simp (maxSteps := 2000000) only [Ty.w, simprocAttr, g3]); rfl) (fun hb => ?_) (fun hb => ?_) <;> (try simp only [hb0, decide_eq_true_eq, decide_eq_false_iff_not, simprocAttr] at hb) <;> (try (exfalso; omega))) | (with_reducible refine ite_in (fun hb => ?_) (fun hb => ?_) <;> (try simp only [Decidable.not_not] at hb) <;> (try simp only [hb, if_true, if_false, not_false_eq_true, not_true_eq_false, ↓reduceIte]) <;> (try simp only [hb0, decide_eq_true_eq, decide_eq_false_iff_not, simprocAttr] at hb) <;> (try (exfalso; omega))) | ((first | refine hK _ _ ?_ | (clear hK; refine hK _ _ ?_) | (clear hK; clear hK; refine hK _ _ ?_) | (clear hK; clear hK; clear hK; refine hK _ _ ?_)); clear hK; (try simp only [pst0, simprocAttr])) | (rw [if_pos]; rotate_left 1; omega; simp (maxSteps := 2000000) only [Ty.w, simprocAttr, g3]))
      all_goals first | exact hg | exact ⟨rfl, hg⟩
end Go.Proofs.YtikhonogkpboaaaGreat
namespace Go.AM
def mnO : Option Nat → Option Nat → Option Nat
  | none, b => b
  | some a, none => some a
  | some a, some b => if a ≤ b then some a else some b
/-- what is touched: nothing, or objects from m on alone -/
def Tch (q : Option Nat) (h h' : Heap) : Prop := match q with
  | none => h' = h
  | some m => h.next ≤ h'.next ∧ ∀ id, id < m → h'.obj id = h.obj id
theorem Tch.trans {q q' : Option Nat} {h h1 h' : Heap} (a : Tch q h h1) (b : Tch q' h1 h') : Tch (mnO q q') h h' := by
  cases q with
  | none => simp only [Tch] at a; subst a; simpa only [mnO] using b
  | some m =>
    cases q' with
    | none => simp only [Tch] at b; subst b; simpa only [mnO] using a
    | some m' =>
      simp only [Tch] at a b
      simp only [mnO]
      split <;> simp only [Tch] <;> refine ⟨by omega, fun id hid => ?_⟩
      · rw [b.2 id (by omega), a.2 id hid]
      · rw [b.2 id hid, a.2 id (by omega)]
def ptrOf : PV → Nat
  | .ptr id _ _ => id
  | _ => 0
def mapOf : PV → Nat
  | .mp id => id
  | _ => 0
def ownOf (n : Nat) : PV → Nat
  | .own id _ _ => if id ≤ n then id else n
  | _ => n
/-- the lowest object that an operation changes or makes -/
def tchO (op : Op) (ρ : Operand → PV) (h : Heap) : Nat := match op with
  | .store _ a _ => ptrOf (ρ a)
  | .mapUpdate _ x _ _ => mapOf (ρ x)
  | .call { callee := .builtin .append, args := args, .. } => (match args.toList with
    | x :: _ => ownOf h.next (ρ x)
    | [] => 0)
  | _ => h.next
theorem tch_new {h : Heap} {o : AObj} : Tch (some h.next) h (h.new o) := by
  simp only [Tch, new_next]
  exact ⟨by omega, fun id hid => by rw [new_obj, if_neg (by omega)]⟩
theorem tch_set {h : Heap} {i : Nat} {o : AObj} : Tch (some i) h (h.set i o) := by
  simp only [Tch, set_next]
  exact ⟨by omega, fun id hid => by rw [set_obj, if_neg (by omega)]⟩
theorem tch_id {h : Heap} {m : Nat} : Tch (some m) h h := ⟨Nat.le_refl _, fun _ _ => rfl⟩
theorem app_tch {z bytes : Nat} {h h' : Heap} {x y v : PV} (ha : app z bytes h x y = some (v, h')) : Tch (some (ownOf h.next x)) h h' := by
  unfold app at ha
  split at ha
  case isFalse => simp at ha
  split at ha
  case h_2 => simp at ha
  rename_i nw h1 old hv ht
  split at ha
  case isFalse => simp at ha
  simp only [Option.some.injEq, Prod.mk.injEq] at ha
  obtain ⟨_, rfl⟩ := ha
  unfold isTail at ht
  split at ht
  · simp only [Option.some.injEq, Prod.mk.injEq] at ht; obtain ⟨rfl, rfl⟩ := ht; exact tch_new
  · simp only [Option.some.injEq, Prod.mk.injEq] at ht; obtain ⟨rfl, rfl⟩ := ht; exact tch_new
  · split at ht
    case h_2 => simp at ht
    split at ht
    case isFalse => simp at ht
    simp only [Option.some.injEq, Prod.mk.injEq] at ht; obtain ⟨rfl, rfl⟩ := ht
    simp only [Tch, new_next, kill_next, ownOf]
    refine ⟨by omega, fun id hid => ?_⟩
    rw [new_obj, kill_next]
    split at hid
    · rw [if_neg (by omega), kill_obj, if_neg (by omega)]
    · rw [if_neg (by omega), kill_obj, if_neg (by omega)]
  · simp at ht
theorem wr_tch {h h' : Heap} {vc : List PV} {p : PV} (hw : wr h vc p = some h') : Tch (some (ptrOf p)) h h' := by
  cases p with
  | ptr id i f =>
    simp only [wr] at hw
    split at hw
    · split at hw
      · split at hw
        · simp at hw; subst hw; exact tch_set
        · simp at hw
      · simp at hw
    · simp at hw
  | _ => simp [wr] at hw
theorem eff_tch {P : Program} {ow : Bool} {op : Op} {ρ : Operand → PV} {h h' : Heap} {v : PV} (he : eff P ow op ρ h = some (v, h')) : Tch (some (tchO op ρ h)) h h' := by
  unfold eff at he
  split at he
  all_goals (repeat' (split at he))
  all_goals first
    | (simp [Option.bind_eq_some_iff, Option.map_eq_some_iff] at he; done)
    | (simp only [Option.some.injEq, Prod.mk.injEq] at he; obtain ⟨_, rfl⟩ := he; exact tch_id)
    | (simp only [Option.some.injEq, Prod.mk.injEq] at he; obtain ⟨_, rfl⟩ := he; exact tch_new)
    | (simp only [Option.map_eq_some_iff, Prod.mk.injEq] at he; obtain ⟨_, _, _, rfl⟩ := he; exact tch_id)
    | (simp [Option.bind_eq_some_iff, Option.map_eq_some_iff] at he; grind [tch_id, tch_new, tch_set])
    | (simp only [Option.bind_eq_some_iff] at he
       obtain ⟨_, _, he⟩ := he
       (first
         | (split at he
            · simp only [Option.some.injEq, Prod.mk.injEq] at he; obtain ⟨_, rfl⟩ := he; exact tch_new
            · simp at he)
         | (obtain ⟨_, _, he⟩ := he
            split at he
            · simp only [Option.bind_eq_some_iff] at he
              obtain ⟨_, _, he⟩ := he
              simp only [Option.some.injEq, Prod.mk.injEq] at he; obtain ⟨_, rfl⟩ := he; exact tch_new
            · simp at he)
         | (obtain ⟨_, _, _, _, _, _, he⟩ := he
            split at he
            · simp only [Option.some.injEq, Prod.mk.injEq] at he; obtain ⟨_, rfl⟩ := he; exact tch_new
            · simp at he)
         | (split at he
            · simp only [Option.map_eq_some_iff, Prod.mk.injEq] at he
              obtain ⟨_, hw, _, rfl⟩ := he
              exact wr_tch hw
            · simp at he)))
    | skip
  · rename_i hid _ _ _ _
    simp only [Option.bind_eq_some_iff] at he
    obtain ⟨_, _, he⟩ := he
    split at he
    · simp only [Option.map_eq_some_iff, Prod.mk.injEq] at he
      obtain ⟨es', _, _, rfl⟩ := he
      simp only [tchO]
      simp only [*, mapOf]
      exact tch_set
    · simp at he
  · rename_i hl htu
    simp only [Option.bind_eq_some_iff] at he
    obtain ⟨_, _, he⟩ := he
    have := app_tch he
    simp only [tchO]
    simp only [*]
mutual
def inNb (n : Nat) : PV → Bool
  | .sc _ => true
  | .ptr id _ _ => decide (id < n)
  | .cptr cs => inNLb n cs
  | .own id _ _ => decide (id < n)
  | .imm _ rows => inNRb n rows
  | .emp => true
  | .mp id => decide (id < n)
  | .agg cs => inNLb n cs
  | .tup cs => inNLb n cs
  | .fn _ a b => inNLb n a && inNLb n b
  | .ab _ _ _ _ _ => true
def inNLb (n : Nat) : List PV → Bool
  | [] => true
  | p :: ps => inNb n p && inNLb n ps
def inNRb (n : Nat) : List (List PV) → Bool
  | [] => true
  | r :: rs => inNLb n r && inNRb n rs
end
mutual
theorem inNb_ok {n : Nat} : (p : PV) → inNb n p = true → inN n p
  | .sc _, _ => by simp only [inN]
  | .ptr _ _ _, h => by simp only [inNb, decide_eq_true_eq] at h; simpa only [inN] using h
  | .cptr cs, h => by simp only [inNb] at h; simp only [inN]; exact inNLb_ok cs h
  | .own _ _ _, h => by simp only [inNb, decide_eq_true_eq] at h; simpa only [inN] using h
  | .imm _ rows, h => by simp only [inNb] at h; simp only [inN]; exact inNRb_ok rows h
  | .emp, _ => by simp only [inN]
  | .mp _, h => by simp only [inNb, decide_eq_true_eq] at h; simpa only [inN] using h
  | .agg cs, h => by simp only [inNb] at h; simp only [inN]; exact inNLb_ok cs h
  | .tup cs, h => by simp only [inNb] at h; simp only [inN]; exact inNLb_ok cs h
  | .fn _ a b, h => by simp only [inNb, Bool.and_eq_true] at h; simp only [inN]; exact ⟨inNLb_ok a h.1, inNLb_ok b h.2⟩
  | .ab _ _ _ _ _, _ => by simp only [inN]
theorem inNLb_ok {n : Nat} : (l : List PV) → inNLb n l = true → inNL n l
  | [], _ => by simp only [inNL]
  | p :: ps, h => by simp only [inNLb, Bool.and_eq_true] at h; simp only [inNL]; exact ⟨inNb_ok p h.1, inNLb_ok ps h.2⟩
theorem inNRb_ok {n : Nat} : (l : List (List PV)) → inNRb n l = true → inNR n l
  | [], _ => by simp only [inNR]
  | p :: ps, h => by simp only [inNRb, Bool.and_eq_true] at h; simp only [inNR]; exact ⟨inNLb_ok p h.1, inNRb_ok ps h.2⟩
end
mutual
def frzP (h' : Heap) (n : Nat) : Nat → PV → Option PV
  | 0, _ => none
  | k + 1, p => match p with
    | .sc v => some (.sc v)
    | .ptr id i f => if id < n then some (.ptr id i f) else match h'.obj id with
      | some (.arr _ rows) => (match rows[i]? with
        | some q => (frzL h' n k (q.drop f)).map .cptr
        | none => none)
      | _ => none
    | .own id off len => if id < n then some (.own id off len) else match h'.obj id with
      | some (.arr z rows) => if off + len ≤ rows.length then (frzR h' n k ((rows.drop off).take len)).map (.imm z) else none
      | _ => none
    | .imm z rows => if inNRb n rows = true then some (.imm z rows) else none
    | .cptr cs => if inNLb n cs = true then some (.cptr cs) else none
    | .emp => some .emp
    | .mp id => if id < n then some (.mp id) else none
    | .agg cs => (frzL h' n k cs).map .agg
    | .tup cs => (frzL h' n k cs).map .tup
    | .fn f a b => if (inNLb n a && inNLb n b) = true then some (.fn f a b) else none
    | .ab k lo hi m r => some (.ab k lo hi m r)
def frzL (h' : Heap) (n : Nat) : Nat → List PV → Option (List PV)
  | 0, _ => none
  | _ + 1, [] => some []
  | k + 1, p :: ps => match frzP h' n k p with
    | some q => (frzL h' n k ps).map (q :: ·)
    | none => none
def frzR (h' : Heap) (n : Nat) : Nat → List (List PV) → Option (List (List PV))
  | 0, _ => none
  | _ + 1, [] => some []
  | k + 1, p :: ps => match frzL h' n k p with
    | some q => (frzR h' n k ps).map (q :: ·)
    | none => none
end
mutual
theorem frzP_ok {h' : Heap} {n : Nat} : ∀ (k : Nat) (p : PV) {r : PV}, frzP h' n k p = some r → FrzTo n h' r p
  | 0, _, _, h => by simp [frzP] at h
  | k + 1, p, r, h => by
    unfold frzP at h
    split at h
    · simp at h; subst h; simp only [FrzTo]
    · split at h
      · rename_i hid; simp at h; subst h; simp only [FrzTo]; exact ⟨trivial, hid⟩
      · rename_i id i f hid
        split at h
        · rename_i z rows hob
          split at h
          · rename_i q hq
            simp only [Option.map_eq_some_iff] at h
            obtain ⟨cs, hc, rfl⟩ := h
            simp only [FrzTo]
            exact .inr ⟨id, i, f, z, rows, q, rfl, by omega, hob, hq, frzL_ok k _ hc⟩
          · simp at h
        · simp at h
    · split at h
      · rename_i hid; simp at h; subst h; simp only [FrzTo]; exact ⟨trivial, hid⟩
      · rename_i id off len hid
        split at h
        · rename_i z rows hob
          split at h
          · rename_i hle
            simp only [Option.map_eq_some_iff] at h
            obtain ⟨rs, hc, rfl⟩ := h
            simp only [FrzTo]
            exact .inr (.inr ⟨id, off, len, rows, rfl, by omega, hob, hle, frzR_ok k _ hc⟩)
          · simp at h
        · simp at h
    · split at h
      · rename_i hi; simp at h; subst h; simp only [FrzTo]; exact .inl ⟨trivial, inNRb_ok _ hi⟩
      · simp at h
    · split at h
      · rename_i hi; simp at h; subst h; simp only [FrzTo]; exact .inl ⟨trivial, inNLb_ok _ hi⟩
      · simp at h
    · simp at h; subst h; simp only [FrzTo]
    · split at h
      · rename_i hid; simp at h; subst h; simp only [FrzTo]; exact ⟨trivial, hid⟩
      · simp at h
    · simp only [Option.map_eq_some_iff] at h
      obtain ⟨cs, hc, rfl⟩ := h
      simp only [FrzTo]
      exact ⟨_, rfl, frzL_ok k _ hc⟩
    · simp only [Option.map_eq_some_iff] at h
      obtain ⟨cs, hc, rfl⟩ := h
      simp only [FrzTo]
      exact ⟨_, rfl, frzL_ok k _ hc⟩
    · split at h
      · rename_i hi
        simp only [Bool.and_eq_true] at hi
        simp at h; subst h; simp only [FrzTo]; exact ⟨trivial, inNLb_ok _ hi.1, inNLb_ok _ hi.2⟩
      · simp at h
    · simp at h; subst h; simp only [FrzTo]
theorem frzL_ok {h' : Heap} {n : Nat} : ∀ (k : Nat) (l : List PV) {r : List PV}, frzL h' n k l = some r → FrzL n h' r l
  | 0, _, _, h => by simp [frzL] at h
  | k + 1, [], r, h => by simp [frzL] at h; subst h; simp only [FrzL]
  | k + 1, p :: ps, r, h => by
    unfold frzL at h
    split at h
    · rename_i q hq
      simp only [Option.map_eq_some_iff] at h
      obtain ⟨qs, hc, rfl⟩ := h
      simp only [FrzL]
      exact ⟨frzP_ok k p hq, frzL_ok k ps hc⟩
    · simp at h
theorem frzR_ok {h' : Heap} {n : Nat} : ∀ (k : Nat) (l : List (List PV)) {r : List (List PV)}, frzR h' n k l = some r → FrzR n h' r l
  | 0, _, _, h => by simp [frzR] at h
  | k + 1, [], r, h => by simp [frzR] at h; subst h; simp only [FrzR]
  | k + 1, p :: ps, r, h => by
    unfold frzR at h
    split at h
    · rename_i q hq
      simp only [Option.map_eq_some_iff] at h
      obtain ⟨qs, hc, rfl⟩ := h
      simp only [FrzR]
      exact ⟨frzL_ok k p hq, frzR_ok k ps hc⟩
    · simp at h
end
def dropB (q : Option Nat) (n : Nat) : Bool := match q with
  | none => true
  | some t => decide (n ≤ t)
def endS : Option (Exit × Slots × Option Nat × Heap) → Option (Slots × Option Nat × Heap)
  | some (.normal, r) => some r
  | some (.ret, r) => some r
  | _ => none
theorem endS_some {x : Option (Exit × Slots × Option Nat × Heap)} {r : Slots × Option Nat × Heap} (h : endS x = some r) : ∃ e, (e = .normal ∨ e = .ret) ∧ x = some (e, r) := by
  unfold endS at h
  split at h
  · simp at h; subst h; exact ⟨_, .inl rfl, rfl⟩
  · simp at h; subst h; exact ⟨_, .inr rfl, rfl⟩
  · simp at h
abbrev CallR2 := FuncId → List PV → Heap → Option (PV × Option Nat × Heap)
section
variable (P : Program) (wf : FuncId → Bool) (own : FuncId → Nat → Bool) (ext : FuncId → List PV → Heap → Option PV)
def xop2 (call : CallR2) (ow : Nat → Bool) (o : Oper) (ρ : Operand → PV) (h : Heap) : Option (PV × Option Nat × Heap) :=
  match callee ρ o.op with
  | some (f, args) => call f args h
  | none => match eff P (o.dst.any ow) o.op ρ h with
    | some (v, h') => some (v, (if isW ow wf o = true then some (tchO o.op ρ h) else none), h')
    | none => none
/-- does an operation give v in another heap, and leave it? -/
def xagain2 (call : CallR2) (ow : Nat → Bool) (o : Oper) (ρ : Operand → PV) (h : Heap) (v : PV) : Bool :=
  match xop2 P wf call ow o ρ h with
  | some (v', q, _) => q.isNone && pvEq v' v
  | none => false
def xl2 (call : CallR2) (ow : Nat → Bool) (n : Nat) (ops : List Oper) : List Oper → Slots → Option Nat → Heap → Option (Slots × Option Nat × Heap)
  | [], s, q, h => some (s, q, h)
  | o :: rest, s, q, h => if o.dst.all (fun d => decide (d < n)) = true then
      match wantedB ops s o with
      | none => none
      | some false => xl2 call ow n ops rest (updO s o.dst (.sc undef)) q h
      | some true => match xop2 P wf call ow o (pev s) h with
        | some (v, q', h') => xl2 call ow n ops rest (updO s o.dst v) (mnO q q') h'
        | none => none
    else none
def xopR (call : CallR2) (ow : Nat → Bool) (id : Nat) (o : Oper) (ρ : Operand → PV) (h : Heap) : Option (PV × Option Nat × Heap) :=
  match o.op with
  | .alloc t => match zeroT P t with
    | some zs => if 0 < zs.length then some (.ptr id 0 0, some id, h.set id (.arr zs.length [zs.map .sc])) else none
    | none => none
  | _ => xop2 P wf call ow o ρ h
def xd2 (call : CallR2) (ow : Nat → Bool) (n : Nat) (ops : List Oper) : Nat → List Oper → List (Nat × Oper × Slots × PV) → List (Nat × Heap) → Slots → Option Nat → Heap → Option (Slots × Option Nat × Heap)
  | _, [], _, _, s, q, h => some (s, q, h)
  | k, o :: rest, past, hist, s, q, h => if o.dst.all (fun d => decide (d < n)) = true then
      match wantedB ops s o with
      | none => none
      | some false => xd2 call ow n ops (k + 1) rest past hist (updO s o.dst (.sc undef)) q h
      | some true => match xop2 P wf call ow o (pev s) h with
        | none => none
        | some (v, q', h') =>
          if isW ow wf o = true then
            (if past.all (fun x => pre ops x.1 k || xagain2 P wf call ow x.2.1 (pev x.2.2.1) h' x.2.2.2) = true then xd2 call ow n ops (k + 1) rest past ((k, h) :: hist) (updO s o.dst v) (mnO q q') h' else none)
          else if q'.isNone = true then
            (if hist.all (fun x => pre ops x.1 k || xagain2 P wf call ow o (pev s) x.2 v) = true then xd2 call ow n ops (k + 1) rest ((k, o, s, v) :: past) hist (updO s o.dst v) q h else none)
          else none
    else none
def xd3 (call : CallR2) (ow : Nat → Bool) (n : Nat) (ops : List Oper) (base : Nat) : Nat → List Oper → List (Nat × Oper × Slots × PV) → List (Nat × Heap) → Slots → Option Nat → Heap → Option (Slots × Option Nat × Heap)
  | _, [], _, _, s, q, h => some (s, q, h)
  | k, o :: rest, past, hist, s, q, h => if o.dst.all (fun d => decide (d < n)) = true then
      match wantedB ops s o with
      | none => none
      | some false => xd3 call ow n ops base (k + 1) rest past hist (updO s o.dst (.sc undef)) q h
      | some true => match xopR P wf call ow (base + k) o (pev s) h with
        | none => none
        | some (v, q', h') =>
          if isW ow wf o = true then
            (if (past.all (fun x => pre ops x.1 k || xagain2 P wf call ow x.2.1 (pev x.2.2.1) h' x.2.2.2) && ((List.range ops.length).all fun f => !(decide (k < f) && alB ops f) || (h'.obj (base + f)).isNone)) = true then xd3 call ow n ops base (k + 1) rest past ((k, h) :: hist) (updO s o.dst v) (mnO q q') h' else none)
          else if q'.isNone = true then
            (if hist.all (fun x => pre ops x.1 k || xagain2 P wf call ow o (pev s) x.2 v) = true then xd3 call ow n ops base (k + 1) rest ((k, o, s, v) :: past) hist (updO s o.dst v) q h else none)
          else none
    else none
structure Rc where
  s : Slots
  h : Heap
  v : PV
  l : Option (Nat × AObj)
  b : Bool
def unoB (ops : List Oper) (x f : Nat) : Bool := !(x == f) && !(pre ops x f) && !(pre ops f x)
def laterA (ow : Nat → Bool) (ops : List Oper) (k : Nat) : List Nat := (List.range ops.length).filter fun f => decide (k < f) && (ops[f]?).any (isA ow)
def killsAt (ow : Nat → Bool) (ops : List Oper) (base k : Nat) (ls : List (Nat × Nat)) : List Nat := (ls.filterMap fun p => if unoB ops k p.1 = true then some p.2 else none) ++ (laterA ow ops k).map (base + ·)
def x4 (call : CallR2) (ow : Nat → Bool) (ops : List Oper) (base k : Nat) (ls : List (Nat × Nat)) (o : Oper) (s : Slots) (h : Heap) : Option (PV × Option Nat × Heap × Option (Nat × AObj) × Bool) :=
  if isW ow wf o = true then
    (if isA ow o = true then (match aop P ow (base + k) o (pev s) with
      | some (v, ob) => some (v, some (base + k), h.set (base + k) ob, some (base + k, ob), false)
      | none => none)
    else match o.op with
      | .store t x y => (match pev s x with
        | .ptr id _ _ => (match eff P (o.dst.any ow) (.store t x y) (pev s) h with
          | some (v, h') => (match h'.obj id with
            | some ob => some (v, some id, h.set id ob, some (id, ob), false)
            | none => none)
          | none => none)
        | _ => none)
      | _ => (match xop2 P wf call ow o (pev s) (killL h (killsAt ow ops base k ls)) with
        | some (v, q, h') => if ((killsAt ow ops base k ls).all (fun id => (h'.obj id).isNone) && (laterA ow ops k).all (fun f => (h.obj (base + f)).isNone)) = true then some (v, q, putL h' h (killsAt ow ops base k ls), none, true) else none
        | none => none))
  else match xop2 P wf call ow o (pev s) (killL h (killsAt ow ops base k ls)) with
    | some (v, q, _) => if q.isNone = true then some (v, none, h, none, false) else none
    | none => none
def addL (k : Nat) (l : Option (Nat × AObj)) (ls : List (Nat × Nat)) : List (Nat × Nat) := match l with
  | some p => (k, p.1) :: ls
  | none => ls
def xr4 (call : CallR2) (ow : Nat → Bool) (n : Nat) (ops : List Oper) (base : Nat) : Nat → List Oper → List (Nat × Nat) → Slots → Option Nat → Heap → Option (List Rc × Slots × Option Nat × Heap)
  | _, [], _, s, q, h => some ([], s, q, h)
  | k, o :: rest, ls, s, q, h => if o.dst.all (fun d => decide (d < n)) = true then
      match wantedB ops s o with
      | none => none
      | some false => (xr4 call ow n ops base (k + 1) rest ls (updO s o.dst (.sc undef)) q h).map fun r => (⟨s, h, .emp, none, false⟩ :: r.1, r.2)
      | some true => match x4 P wf call ow ops base k ls o s h with
        | none => none
        | some (v, q', h', l, b) => (xr4 call ow n ops base (k + 1) rest (addL k l ls) (updO s o.dst v) (mnO q q') h').map fun r => (⟨s, h, v, l, b⟩ :: r.1, r.2)
    else none
def gS (rs : List Rc) (sf : Slots) (j : Nat) : Slots := match rs[j]? with | some r => r.s | none => sf
def gH (rs : List Rc) (hf : Heap) (j : Nat) : Heap := match rs[j]? with | some r => r.h | none => hf
def gV (rs : List Rc) (j : Nat) : PV := match rs[j]? with | some r => r.v | none => .emp
def gL (rs : List Rc) (j : Nat) : Option (Nat × AObj) := match rs[j]? with | some r => r.l | none => none
def gB (rs : List Rc) (j : Nat) : Bool := match rs[j]? with | some r => r.b | none => false
def rng (n : Nat) (p : Nat → Bool) : Bool := (List.range n).all p
def wwB (ow : Nat → Bool) (ops : List Oper) (lt : Nat → Option (Nat × AObj)) (br : Nat → Bool) : Bool :=
  rng ops.length fun j => !(br j || (lt j).isSome) || rng j fun i => !(br i || (lt i).isSome) || pre ops i j || (match lt i, lt j with | some p, some q => !(p.1 == q.1) | _, _ => false) || (br i && (lt j).isSome && (ops[j]?).any (isA ow)) || ((lt i).isSome && br j && (ops[i]?).any (isA ow))
def lateB (ow : Nat → Bool) (ops : List Oper) (base : Nat) (hk : Nat → Heap) (lt : Nat → Option (Nat × AObj)) (br : Nat → Bool) : Bool :=
  rng ops.length fun j => (!(br j || (lt j).isSome)) || rng ops.length fun f => !(decide (j < f) && (ops[f]?).any (isA ow)) || (if br j = true then ((hk (j + 1)).obj (base + f)).isNone else match lt j with | some p => !(base + f == p.1) | none => true)
def isSt (o : Oper) : Bool := match o.op with
  | .store _ _ _ => true
  | _ => false
def lastBr (br : Nat → Bool) (k : Nat) : Nat := lastOf br k
def cutB (ops : List Oper) (br : Nat → Bool) (x M : Nat) : Bool := (M == 0 || br (M - 1)) && rng ops.length fun b => !(br b) || (if b < M then !(pre ops x b) else !(pre ops b x))
/-- no later store may come before k -/
def noSt (ops : List Oper) (k : Nat) : Bool := rng ops.length fun f => !(decide (k < f) && (ops[f]?).any isSt && unoB ops k f)
def quietB (call : CallR2) (ow : Nat → Bool) (ops : List Oper) (sk : Nat → Slots) (hk : Nat → Heap) (vk : Nat → PV) (lt : Nat → Option (Nat × AObj)) (br : Nat → Bool) : Bool :=
  rng ops.length fun k => match ops[k]? with
    | none => true
    | some o => isW ow wf o || (match wantedB ops (sk k) o with
      | some true => rng (ops.length + 1) fun M => !(cutB ops br k M) || ((M == lastBr br k) && noSt ops k) || xagain2 P wf call ow o (pev (sk k)) (gx ops lt hk k M (kx ow ops lt k)) (vk k)
      | _ => true)
def xd4 (call : CallR2) (ow : Nat → Bool) (n : Nat) (ops : List Oper) (base : Nat) (s : Slots) (q : Option Nat) (h : Heap) : Option (Slots × Option Nat × Heap) :=
  match xr4 P wf call ow n ops base 0 ops [] s q h with
  | none => none
  | some (rs, sf, qf, hf) => if (wwB ow ops (gL rs) (gB rs) && lateB ow ops base (gH rs hf) (gL rs) (gB rs) && quietB P wf call ow ops (gS rs sf) (gH rs hf) (gV rs) (gL rs) (gB rs)) = true then some (sf, qf, hf) else none
def xc2 (call : CallR2) (ow : Nat → Bool) (n : Nat) : Nat → Code → Slots → Option Nat → Heap → Option (Exit × Slots × Option Nat × Heap)
  | 0, _, _, _, _ => none
  | k + 1, c, s, q, h => match c with
    | .skip => some (.normal, s, q, h)
    | .region _ ops true => if dOk ow wf ops.toList = true then (xd2 P wf call ow n ops.toList 0 ops.toList [] [] s q h).map (Exit.normal, ·)
        else if dOk2 ow wf ops.toList = true then (xd3 P wf call ow n ops.toList h.next 0 ops.toList [] [] s (mnO q (some h.next)) ⟨h.next + ops.toList.length, h.obj⟩).map (Exit.normal, ·)
        else if dOk3 ops.toList = true then (xd4 P wf call ow n ops.toList h.next s (mnO q (some h.next)) ⟨h.next + ops.toList.length, h.obj⟩).map (Exit.normal, ·) else none
    | .region _ ops false => (xl2 P wf call ow n ops.toList ops.toList s q h).map (Exit.normal, ·)
    | .seq a b => match xc2 call ow n k a s q h with
      | some (.normal, s', q', h') => xc2 call ow n k b s' q' h'
      | r => r
    | .cond c x y => match pev s c with
      | .sc (.bool true) => xc2 call ow n k x s q h
      | .sc (.bool false) => xc2 call ow n k y s q h
      | _ => none
    | .block id c => match xc2 call ow n k c s q h with
      | some (.exit id', s', q', h') => some (if id' = id then .normal else .exit id', s', q', h')
      | r => r
    | .loop c => match xc2 call ow n k c s q h with
      | some (.normal, s', q', h') => xc2 call ow n k (.loop c) s' q' h'
      | r => r
    | .exit id => some (.exit id, s, q, h)
    | .ret => some (.ret, s, q, h)
    | _ => none
/-- what a call gives; what is touched: none, the heap is as it was. Objects that came meanwhile are forgotten, unless keep says otherwise or an older object was changed -/
def xf2 (keep : FuncId → Bool) (m : Nat) : Nat → CallR2
  | 0, _, _, _ => none
  | k + 1, f, args, h => match ext f args h with
   | some r => some (r, none, h)
   | none => match P.funcs[f]? with
    | none => none
    | some fn => if hasBody P f = true ∧ args.length ≤ fn.ntmps then match fn.body with
        | none => none
        | some c => match endS (xc2 P wf (xf2 keep m k) (own f) fn.ntmps m c (slots0 args) none h) with
          | some (s, q, h') => match resAll P s h' fn.results.toList with
            | none => none
            | some vs => if (!(keep f) && dropB q h.next) = true then (match frzP h' h.next 1000 (resV vs) with
                | some r => some (r, none, h)
                | none => some (resV vs, q, h')) else some (resV vs, q, h')
          | none => none
      else none
end
section
variable {P : Program} {wf : FuncId → Bool} {own : FuncId → Nat → Bool}
/-- what is taken from contracts that are proved: of calls that leave the heap -/
def ExtOk2 (P : Program) (ext : FuncId → List PV → Heap → Option PV) : Prop := ∀ f args r h, ext f args h = some r → PCall P f args h (fun r' h' => r' = r ∧ h' = h)
def CallOk2 (P : Program) (call : CallR2) : Prop := ∀ f args h v q h', call f args h = some (v, q, h') → PCall P f args h (fun r h'' => r = v ∧ h'' = h') ∧ Tch q h h'
theorem xop_ok2 {call : CallR2} (hk : CallOk2 P call) {ow : Nat → Bool} {o : Oper} {ρ : Operand → PV} {h h' : Heap} {v : PV} {q : Option Nat} (hx : xop2 P wf call ow o ρ h = some (v, q, h')) : Does P ow o ρ h v h' ∧ Tch q h h' := by
  unfold xop2 at hx
  unfold Does
  split at hx
  · rename_i f args hc
    rw [hc]
    exact hk _ _ _ _ _ _ hx
  · rename_i hc
    rw [hc]
    split at hx
    · rename_i v1 h1 he
      simp only [Option.some.injEq, Prod.mk.injEq] at hx
      obtain ⟨rfl, rfl, rfl⟩ := hx
      refine ⟨he, ?_⟩
      split
      · exact eff_tch he
      · rename_i hw; exact eff_same (by simpa using hw) hc he
    · simp at hx
theorem xagain_ok2 {call : CallR2} (hk : CallOk2 P call) {ow : Nat → Bool} {o : Oper} {ρ : Operand → PV} {h : Heap} {v : PV} (hx : xagain2 P wf call ow o ρ h v = true) : Does P ow o ρ h v h := by
  unfold xagain2 at hx
  split at hx
  · rename_i v' q h' hp
    simp only [Bool.and_eq_true, Option.isNone_iff_eq_none] at hx
    obtain ⟨rfl, hx⟩ := hx
    obtain ⟨h1, h2⟩ := xop_ok2 hk hp
    simp only [Tch] at h2
    rw [h2, pvEq_eq _ _ hx] at h1
    exact h1
  · simp at hx
theorem xl_ok2 {call : CallR2} (hk : CallOk2 P call) {ow : Nat → Bool} {n : Nat} {ops : List Oper} {K : Slots → Heap → Prop} : ∀ (l : List Oper) {s s' : Slots} {q q' : Option Nat} {h h' : Heap}, xl2 P wf call ow n ops l s q h = some (s', q', h') →
    (K s' h' → lwp P ow n ops l K s h) ∧ (∀ h0, Tch q h0 h → Tch q' h0 h')
  | [], s, s', q, q', h, h', hx => by
    simp only [xl2, Option.some.injEq, Prod.mk.injEq] at hx
    obtain ⟨rfl, rfl, rfl⟩ := hx
    exact ⟨fun hK => hK, fun h0 hq => hq⟩
  | o :: rest, s, s', q, q', h, h', hx => by
    unfold xl2 at hx
    split at hx
    · rename_i hd
      unfold lwp
      split at hx
      · simp at hx
      · rename_i hw
        obtain ⟨h1, h2⟩ := xl_ok2 hk rest hx
        rw [hw]
        exact ⟨fun hK => ⟨hd, by simpa using h1 hK⟩, h2⟩
      · rename_i hw
        split at hx
        · rename_i v q1 h1 hp
          obtain ⟨d1, d2⟩ := xop_ok2 hk hp
          obtain ⟨g1, g2⟩ := xl_ok2 hk rest hx
          rw [hw]
          exact ⟨fun hK => ⟨hd, by simpa using d1.owp (g1 hK)⟩, fun h0 hq => g2 h0 (hq.trans d2)⟩
        · simp at hx
    · simp at hx
theorem xd_ok2 {call : CallR2} (hk : CallOk2 P call) {ow : Nat → Bool} {n : Nat} {ops : List Oper} {K : Slots → Heap → Prop} : ∀ (l : List Oper) (k : Nat) {past : List (Nat × Oper × Slots × PV)} {hist : List (Nat × Heap)} {s s' : Slots} {q q' : Option Nat} {h h' : Heap}, xd2 P wf call ow n ops k l past hist s q h = some (s', q', h') →
    (K s' h' → drun P ow wf n ops k l (past.map fun x => (x.1, fun h2 => Does P ow x.2.1 (pev x.2.2.1) h2 x.2.2.2 h2)) hist K s h) ∧ (∀ h0, Tch q h0 h → Tch q' h0 h')
  | [], k, past, hist, s, s', q, q', h, h', hx => by
    simp only [xd2, Option.some.injEq, Prod.mk.injEq] at hx
    obtain ⟨rfl, rfl, rfl⟩ := hx
    exact ⟨fun hK => hK, fun h0 hq => hq⟩
  | o :: rest, k, past, hist, s, s', q, q', h, h', hx => by
    unfold xd2 at hx
    split at hx
    · rename_i hd
      unfold drun
      split at hx
      · simp at hx
      · rename_i hw
        obtain ⟨h1, h2⟩ := xd_ok2 hk rest (k + 1) hx
        rw [hw]
        exact ⟨fun hK => ⟨hd, by simpa using h1 hK⟩, h2⟩
      · rename_i hw
        split at hx
        · simp at hx
        · rename_i v q1 h1 hp
          obtain ⟨d1, d2⟩ := xop_ok2 hk hp
          rw [hw]
          split at hx
          · rename_i hiw
            split at hx
            · rename_i hpast
              obtain ⟨g1, g2⟩ := xd_ok2 hk rest (k + 1) hx
              refine ⟨fun hK => ⟨hd, ?_⟩, fun h0 hq => g2 h0 (hq.trans d2)⟩
              · simp only [hiw, if_true]
                refine ⟨v, h1, d1, ?_, g1 hK⟩
                intro x hx1
                obtain ⟨y, hy, rfl⟩ := List.mem_map.1 hx1
                have := List.all_eq_true.1 hpast y hy
                simp only [Bool.or_eq_true] at this
                exact this.imp id (fun t => xagain_ok2 hk t)
            · simp at hx
          · rename_i hiw
            split at hx
            · rename_i hq1
              split at hx
              · rename_i hhist
                obtain ⟨g1, g2⟩ := xd_ok2 hk rest (k + 1) hx
                refine ⟨fun hK => ⟨hd, ?_⟩, g2⟩
                simp only [hiw, if_true, Bool.false_eq_true, if_false]
                have e1 : h1 = h := by rw [Option.isNone_iff_eq_none] at hq1; subst hq1; exact d2
                subst e1
                refine ⟨v, d1, ?_, g1 hK⟩
                intro x hx1
                have := List.all_eq_true.1 hhist x hx1
                simp only [Bool.or_eq_true] at this
                exact this.imp id (fun t => xagain_ok2 hk t)
              · simp at hx
            · simp at hx
    · simp at hx
theorem xopR_ok {call : CallR2} (hk : CallOk2 P call) {ow : Nat → Bool} {id : Nat} {o : Oper} {ρ : Operand → PV} {h h' : Heap} {v : PV} {q : Option Nat} (hx : xopR P wf call ow id o ρ h = some (v, q, h')) : DoesR P ow id o ρ h v h' ∧ Tch q h h' := by
  unfold xopR at hx
  unfold DoesR
  split at hx
  · rename_i t hop
    simp only [hop]
    split at hx
    · rename_i zs hz
      split at hx
      · rename_i hpos
        simp only [Option.some.injEq, Prod.mk.injEq] at hx
        obtain ⟨rfl, rfl, rfl⟩ := hx
        exact ⟨⟨zs, hz, hpos, rfl, rfl⟩, tch_set⟩
      · simp at hx
    · simp at hx
  · rename_i hop
    obtain ⟨d1, d2⟩ := xop_ok2 hk hx
    refine ⟨?_, d2⟩
    split
    · rename_i t he; exact (hop t he).elim
    · exact d1
theorem xd_ok3 {call : CallR2} (hk : CallOk2 P call) {ow : Nat → Bool} {n base : Nat} {ops : List Oper} {K : Slots → Heap → Prop} : ∀ (l : List Oper) (k : Nat) {past : List (Nat × Oper × Slots × PV)} {hist : List (Nat × Heap)} {s s' : Slots} {q q' : Option Nat} {h h' : Heap}, xd3 P wf call ow n ops base k l past hist s q h = some (s', q', h') →
    (K s' h' → drun2 P ow wf n ops base k l (past.map fun x => (x.1, fun h2 => Does P ow x.2.1 (pev x.2.2.1) h2 x.2.2.2 h2)) hist K s h) ∧ (∀ h0, Tch q h0 h → Tch q' h0 h')
  | [], k, past, hist, s, s', q, q', h, h', hx => by
    simp only [xd3, Option.some.injEq, Prod.mk.injEq] at hx
    obtain ⟨rfl, rfl, rfl⟩ := hx
    exact ⟨fun hK => hK, fun h0 hq => hq⟩
  | o :: rest, k, past, hist, s, s', q, q', h, h', hx => by
    unfold xd3 at hx
    split at hx
    · rename_i hd
      unfold drun2
      split at hx
      · simp at hx
      · rename_i hw
        obtain ⟨h1, h2⟩ := xd_ok3 hk rest (k + 1) hx
        rw [hw]
        exact ⟨fun hK => ⟨hd, by simpa using h1 hK⟩, h2⟩
      · rename_i hw
        split at hx
        · simp at hx
        · rename_i v q1 h1 hp
          obtain ⟨d1, d2⟩ := xopR_ok hk hp
          rw [hw]
          split at hx
          · rename_i hiw
            split at hx
            · rename_i hpn
              simp only [Bool.and_eq_true] at hpn
              obtain ⟨hpast, hnone⟩ := hpn
              obtain ⟨g1, g2⟩ := xd_ok3 hk rest (k + 1) hx
              refine ⟨fun hK => ⟨hd, ?_⟩, fun h0 hq => g2 h0 (hq.trans d2)⟩
              · simp only [hiw, if_true]
                refine ⟨v, h1, d1, fun f hf ha => ?_, ?_, g1 hK⟩
                · have hfl : f < ops.length := by
                    unfold alB at ha
                    split at ha
                    · rename_i hq; exact (List.getElem?_eq_some_iff.1 hq).1
                    · simp at ha
                  have := List.all_eq_true.1 hnone f (List.mem_range.2 hfl)
                  simpa [hf, ha] using this
                intro x hx1
                obtain ⟨y, hy, rfl⟩ := List.mem_map.1 hx1
                have := List.all_eq_true.1 hpast y hy
                simp only [Bool.or_eq_true] at this
                exact this.imp id (fun t => xagain_ok2 hk t)
            · simp at hx
          · rename_i hiw
            split at hx
            · rename_i hq1
              split at hx
              · rename_i hhist
                obtain ⟨g1, g2⟩ := xd_ok3 hk rest (k + 1) hx
                refine ⟨fun hK => ⟨hd, ?_⟩, g2⟩
                simp only [hiw, if_true, Bool.false_eq_true, if_false]
                have e1 : h1 = h := by rw [Option.isNone_iff_eq_none] at hq1; subst hq1; exact d2
                subst e1
                refine ⟨v, (doesR_of (by simpa using hiw)).1 d1, ?_, g1 hK⟩
                intro x hx1
                have := List.all_eq_true.1 hhist x hx1
                simp only [Bool.or_eq_true] at this
                exact this.imp id (fun t => xagain_ok2 hk t)
              · simp at hx
            · simp at hx
    · simp at hx
theorem rng_iff {n : Nat} {p : Nat → Bool} : rng n p = true ↔ ∀ i, i < n → p i = true := by simp [rng]
/-- what the run notes of an operation -/
structure S4 (P : Program) (ow : Nat → Bool) (wf : FuncId → Bool) (n : Nat) (ops : List Oper) (base : Nat) (k : Nat) (o : Oper) (s s' : Slots) (h h' : Heap) (v : PV) (l : Option (Nat × AObj)) (b : Bool) (ls : List (Nat × Nat)) : Prop where
  dst : o.dst.all (fun d => decide (d < n)) = true
  ok : ∃ w, wantedB ops s o = some w ∧ (w = false → s' = updO s o.dst (.sc undef) ∧ h' = h ∧ l = none ∧ b = false) ∧
    (w = true → s' = updO s o.dst v ∧
      (isW ow wf o = false → h' = h ∧ l = none ∧ b = false ∧ Does P ow o (pev s) (killL h (killsAt ow ops base k ls)) v (killL h (killsAt ow ops base k ls))) ∧
      (isW ow wf o = true →
        (b = true ∧ l = none ∧ ∃ H', Does P ow o (pev s) (killL h (killsAt ow ops base k ls)) v H' ∧ (∀ id ∈ killsAt ow ops base k ls, H'.obj id = none) ∧ h' = putL H' h (killsAt ow ops base k ls) ∧ ∀ f ∈ laterA ow ops k, h.obj (base + f) = none) ∨
        (b = false ∧ isA ow o = true ∧ ∃ ob, l = some (base + k, ob) ∧ aop P ow (base + k) o (pev s) = some (v, ob) ∧ h' = h.set (base + k) ob) ∨
        (b = false ∧ ∃ t x y id r f ob, o.op = .store t x y ∧ pev s x = .ptr id r f ∧ l = some (id, ob) ∧ h' = h.set id ob ∧ eff P (o.dst.any ow) o.op (pev s) h = some (v, h'))))
theorem store_set {t : TypeId} {x y : Operand} {b : Bool} {ρ : Operand → PV} {H H' : Heap} {id r f : Nat} {ob : AObj} {v : PV} (hx : ρ x = .ptr id r f) (he : eff P b (.store t x y) ρ H = some (v, H')) (ho : H'.obj id = some ob) : H' = H.set id ob := by
  simp only [eff, Option.bind_eq_some_iff] at he
  obtain ⟨m, _, he⟩ := he
  split at he
  · simp only [Option.map_eq_some_iff, Prod.mk.injEq, hx, wr] at he
    obtain ⟨h2, hw, _, rfl⟩ := he
    split at hw
    · split at hw
      · split at hw
        · simp at hw
          subst hw
          simp [Heap.set] at ho
          rw [ho]
        · simp at hw
      · simp at hw
    · simp at hw
  · simp at he
theorem tch_put {q : Option Nat} {h H' : Heap} {l : List Nat} (hn : ∀ id ∈ l, H'.obj id = none) (ht : Tch q (killL h l) H') : Tch q h (putL H' h l) := by
  cases q with
  | none =>
    simp only [Tch] at ht ⊢
    subst ht
    exact putL_killL
  | some m =>
    simp only [Tch] at ht ⊢
    refine ⟨ht.1, fun id hid => ?_⟩
    have h2 := ht.2 id hid
    simp only [killL] at h2
    simp only [putL]
    by_cases hc : id ∈ l
    · have hc' : l.contains id = true := by simpa using hc
      cases ho : h.obj id with
      | none => simp [hn id hc]
      | some o => simp [hc]
    · have hc' : l.contains id = false := by simpa using hc
      rw [if_neg (by simp [hc])]
      rw [hc'] at h2
      simpa using h2
theorem x4_ok {call : CallR2} (hk : CallOk2 P call) {ow : Nat → Bool} {n : Nat} {ops : List Oper} {base k : Nat} {ls : List (Nat × Nat)} {o : Oper} {s : Slots} {h h' : Heap} {v : PV} {q : Option Nat} {l : Option (Nat × AObj)} {b : Bool} (hd : o.dst.all (fun d => decide (d < n)) = true) (hw : wantedB ops s o = some true) (hx : x4 P wf call ow ops base k ls o s h = some (v, q, h', l, b)) :
    S4 P ow wf n ops base k o s (updO s o.dst v) h h' v l b ls ∧ Tch q h h' := by
  unfold x4 at hx
  split at hx
  · rename_i hiw
    split at hx
    · rename_i hA
      split at hx
      · rename_i v1 ob ha
        simp only [Option.some.injEq, Prod.mk.injEq] at hx
        obtain ⟨rfl, rfl, rfl, rfl, rfl⟩ := hx
        exact ⟨⟨hd, true, hw, (fun hc => by cases hc), fun _ => ⟨rfl, (fun hc => by rw [hiw] at hc; cases hc), fun _ => .inr (.inl ⟨rfl, hA, ob, rfl, ha, rfl⟩)⟩⟩, tch_set⟩
      · simp at hx
    · split at hx
      · rename_i t x y hop
        split at hx
        · rename_i id r f hp
          split at hx
          · rename_i v1 h1 he
            split at hx
            · rename_i ob hob
              simp only [Option.some.injEq, Prod.mk.injEq] at hx
              obtain ⟨rfl, rfl, rfl, rfl, rfl⟩ := hx
              have hs := store_set hp he hob
              refine ⟨⟨hd, true, hw, (fun hc => by cases hc), fun _ => ⟨rfl, (fun hc => by rw [hiw] at hc; cases hc), fun _ => .inr (.inr ⟨rfl, t, x, y, id, r, f, ob, hop, hp, rfl, rfl, ?_⟩)⟩⟩, tch_set⟩
              rw [hop, he, hs]
            · simp at hx
          · simp at hx
        · simp at hx
      · split at hx
        · rename_i v1 q1 h1 hp
          split at hx
          · rename_i hno
            simp only [Bool.and_eq_true, List.all_eq_true, Option.isNone_iff_eq_none] at hno
            simp only [Option.some.injEq, Prod.mk.injEq] at hx
            obtain ⟨rfl, rfl, rfl, rfl, rfl⟩ := hx
            obtain ⟨d1, d2⟩ := xop_ok2 hk hp
            exact ⟨⟨hd, true, hw, (fun hc => by cases hc), fun _ => ⟨rfl, (fun hc => by rw [hiw] at hc; cases hc), fun _ => .inl ⟨rfl, rfl, h1, d1, hno.1, rfl, hno.2⟩⟩⟩, tch_put hno.1 d2⟩
          · simp at hx
        · simp at hx
  · rename_i hiw
    split at hx
    · rename_i v1 q1 h1 hp
      split at hx
      · rename_i hq
        simp only [Option.some.injEq, Prod.mk.injEq] at hx
        obtain ⟨rfl, rfl, rfl, rfl, rfl⟩ := hx
        obtain ⟨d1, d2⟩ := xop_ok2 hk hp
        rw [Option.isNone_iff_eq_none] at hq
        subst hq
        simp only [Tch] at d2
        subst d2
        exact ⟨⟨hd, true, hw, (fun hc => by cases hc), fun _ => ⟨rfl, fun _ => ⟨rfl, rfl, rfl, d1⟩, fun hc => by rw [hc] at hiw; simp at hiw⟩⟩, rfl⟩
      · simp at hx
    · simp at hx
/-- the changes noted before operation k + i -/
def lsAt (rs : List Rc) : Nat → List (Nat × Nat) → Nat → List (Nat × Nat)
  | _, ls, 0 => ls
  | k, ls, i + 1 => match rs with
    | r :: rs => lsAt rs (k + 1) (addL k r.l ls) i
    | [] => ls
theorem lsAt_mem : ∀ (rs : List Rc) (k : Nat) (ls : List (Nat × Nat)) (i f : Nat) (q : Nat × AObj), i ≤ rs.length → f < i → gL rs f = some q → (k + f, q.1) ∈ lsAt rs k ls i := by
  have keep : ∀ (rs : List Rc) (k : Nat) (ls : List (Nat × Nat)) (i : Nat) (x : Nat × Nat), x ∈ ls → x ∈ lsAt rs k ls i := by
    intro rs
    induction rs with
    | nil => intro k ls i x hx; cases i <;> simpa only [lsAt] using hx
    | cons r rs ih =>
      intro k ls i x hx
      cases i with
      | zero => simpa only [lsAt] using hx
      | succ i =>
        simp only [lsAt]
        refine ih _ _ _ _ ?_
        unfold addL
        split
        · simp [hx]
        · exact hx
  intro rs
  induction rs with
  | nil => intro k ls i f q h1 h2 _; simp at h1; omega
  | cons r rs ih =>
    intro k ls i f q h1 h2 h3
    cases i with
    | zero => omega
    | succ i =>
      simp only [lsAt]
      cases f with
      | zero =>
        refine keep _ _ _ _ _ ?_
        simp only [gL, List.getElem?_cons_zero] at h3
        unfold addL
        rw [h3]
        simp
      | succ f =>
        have := ih (k + 1) (addL k r.l ls) i f q (by simp at h1; omega) (by omega) (by simpa only [gL, List.getElem?_cons_succ] using h3)
        rw [show k + (f + 1) = k + 1 + f by omega]
        exact this
theorem lsAt_inv : ∀ (rs : List Rc) (k : Nat) (ls : List (Nat × Nat)) (i : Nat) (x : Nat × Nat), x ∈ lsAt rs k ls i → x ∈ ls ∨ ∃ f q, f < i ∧ gL rs f = some q ∧ x = (k + f, q.1)
  | rs, k, ls, 0, x, h => by
    unfold lsAt at h
    exact .inl h
  | [], k, ls, i + 1, x, h => by
    simp only [lsAt] at h
    exact .inl h
  | r :: rs, k, ls, i + 1, x, h => by
    simp only [lsAt] at h
    rcases lsAt_inv rs (k + 1) _ i x h with h1 | ⟨f, q, h1, h2, h3⟩
    · unfold addL at h1
      cases hl : r.l with
      | none => rw [hl] at h1; exact .inl h1
      | some p =>
        rw [hl] at h1
        simp only [List.mem_cons] at h1
        rcases h1 with h1 | h1
        · exact .inr ⟨0, p, by omega, by simp only [gL, List.getElem?_cons_zero]; exact hl, h1⟩
        · exact .inl h1
    · exact .inr ⟨f + 1, q, by omega, by simpa only [gL, List.getElem?_cons_succ] using h2, by rw [h3]; congr 1; omega⟩
theorem xr4_ok {call : CallR2} (hk : CallOk2 P call) {ow : Nat → Bool} {n : Nat} {ops : List Oper} {base : Nat} : ∀ (l : List Oper) (k : Nat) {ls : List (Nat × Nat)} {s sf : Slots} {q qf : Option Nat} {h hf : Heap} {rs : List Rc}, xr4 P wf call ow n ops base k l ls s q h = some (rs, sf, qf, hf) →
    rs.length = l.length ∧ gS rs sf 0 = s ∧ gH rs hf 0 = h ∧ (∀ h0, Tch q h0 h → Tch qf h0 hf) ∧
      ∀ i o, l[i]? = some o → S4 P ow wf n ops base (k + i) o (gS rs sf i) (gS rs sf (i + 1)) (gH rs hf i) (gH rs hf (i + 1)) (gV rs i) (gL rs i) (gB rs i) (lsAt rs k ls i)
  | [], k, ls, s, sf, q, qf, h, hf, rs, hx => by
    simp only [xr4, Option.some.injEq, Prod.mk.injEq] at hx
    obtain ⟨rfl, rfl, rfl, rfl⟩ := hx
    exact ⟨rfl, rfl, rfl, fun _ hq => hq, fun i o ho => by simp at ho⟩
  | o :: rest, k, ls, s, sf, q, qf, h, hf, rs, hx => by
    unfold xr4 at hx
    split at hx
    case isFalse => simp at hx
    rename_i hd
    have fin : ∀ (v : PV) (q' : Option Nat) (h' : Heap) (l : Option (Nat × AObj)) (b : Bool) (s' : Slots) (rs' : List Rc), rs = ⟨s, h, v, l, b⟩ :: rs' → xr4 P wf call ow n ops base (k + 1) rest (addL k l ls) s' (mnO q q') h' = some (rs', sf, qf, hf) → S4 P ow wf n ops base k o s s' h h' v l b ls → Tch q' h h' →
        rs.length = (o :: rest).length ∧ gS rs sf 0 = s ∧ gH rs hf 0 = h ∧ (∀ h0, Tch q h0 h → Tch qf h0 hf) ∧
          ∀ i o', (o :: rest)[i]? = some o' → S4 P ow wf n ops base (k + i) o' (gS rs sf i) (gS rs sf (i + 1)) (gH rs hf i) (gH rs hf (i + 1)) (gV rs i) (gL rs i) (gB rs i) (lsAt rs k ls i) := by
      intro v q' h' l b s' rs' hrs hrec hS ht
      obtain ⟨g1, g2, g3, g4, g5⟩ := xr4_ok hk rest (k + 1) hrec
      subst hrs
      refine ⟨by simp [g1], rfl, rfl, fun h0 hq => g4 h0 (hq.trans ht), fun i o' ho' => ?_⟩
      cases i with
      | zero =>
        simp at ho'
        subst ho'
        have e1 : gS (⟨s, h, v, l, b⟩ :: rs') sf (0 + 1) = s' := g2
        have e2 : gH (⟨s, h, v, l, b⟩ :: rs') hf (0 + 1) = h' := g3
        rw [e1, e2]
        exact hS
      | succ i =>
        have := g5 i o' (by simpa using ho')
        rw [show k + (i + 1) = k + 1 + i by omega]
        exact this
    split at hx
    · simp at hx
    · rename_i hw
      simp only [Option.map_eq_some_iff] at hx
      obtain ⟨⟨rs', sf', qf', hf'⟩, hrec, he⟩ := hx
      simp only [Prod.mk.injEq] at he
      obtain ⟨h1, rfl, rfl, rfl⟩ := he
      refine fin .emp none h none false _ rs' h1.symm (by
        have : mnO q none = q := by cases q <;> rfl
        rw [this]; exact hrec) ⟨hd, false, hw, (fun _ => ⟨rfl, rfl, rfl, rfl⟩), fun hc => by cases hc⟩ rfl
    · rename_i hw
      split at hx
      · simp at hx
      · rename_i v q' h' l b hx4
        simp only [Option.map_eq_some_iff] at hx
        obtain ⟨⟨rs', sf', qf', hf'⟩, hrec, he⟩ := hx
        simp only [Prod.mk.injEq] at he
        obtain ⟨h1, rfl, rfl, rfl⟩ := he
        obtain ⟨t1, t2⟩ := x4_ok hk hd hw hx4
        exact fin v q' h' l b _ rs' h1.symm hrec t1 t2
theorem xd4_ok {call : CallR2} (hk : CallOk2 P call) {ow : Nat → Bool} {n : Nat} {ops : List Oper} {s sf : Slots} {q qf : Option Nat} {h hf : Heap} (hpre : ∀ i j, j < ops.length → pre ops i j = true → i < j) (hx : xd4 P wf call ow n ops h.next s q ⟨h.next + ops.length, h.obj⟩ = some (sf, qf, hf)) :
    (∀ K : Slots → Heap → Prop, K sf hf → ∃ sk hk vk lt br, sk 0 = s ∧ hk 0 = ⟨h.next + ops.length, h.obj⟩ ∧ K (sk ops.length) (hk ops.length) ∧ Facts P ow wf n ops h.next sk hk vk lt br) ∧ (∀ h0, Tch q h0 ⟨h.next + ops.length, h.obj⟩ → Tch qf h0 hf) := by
  unfold xd4 at hx
  split at hx
  · simp at hx
  rename_i rs sf' qf' hf' hr
  split at hx
  case isFalse => simp at hx
  rename_i hc
  simp only [Option.some.injEq, Prod.mk.injEq] at hx
  obtain ⟨rfl, rfl, rfl⟩ := hx
  simp only [Bool.and_eq_true] at hc
  obtain ⟨⟨hww, hlate⟩, hquiet⟩ := hc
  obtain ⟨hlen, g2, g3, g4, g5⟩ := xr4_ok hk ops 0 hr
  refine ⟨fun K hK => ⟨gS rs sf', gH rs hf', gV rs, gL rs, gB rs, g2, g3, ?_, ?_⟩, g4⟩
  · have e1 : gS rs sf' ops.length = sf' := by unfold gS; rw [List.getElem?_eq_none (by omega)]
    have e2 : gH rs hf' ops.length = hf' := by unfold gH; rw [List.getElem?_eq_none (by omega)]
    rw [e1, e2]; exact hK
  · have late : ∀ j f o, j < ops.length → (gB rs j || (gL rs j).isSome) = true → j < f → ops[f]? = some o → isA ow o = true → (if gB rs j = true then ((gH rs hf' (j + 1)).obj (h.next + f)).isNone else match gL rs j with | some p => !(h.next + f == p.1) | none => true) = true := by
      intro j f o hj hb hjf ho ha
      have h1 := rng_iff.1 hlate j hj
      rw [hb] at h1
      simp only [Bool.not_true, Bool.false_or] at h1
      have h2 := rng_iff.1 h1 f (List.getElem?_eq_some_iff.1 ho).1
      have h3 : (decide (j < f) && (ops[f]?).any (isA ow)) = true := by rw [ho]; simp [hjf, ha]
      rw [h3] at h2
      simpa using h2
    have segA : ∀ (M d : Nat), M + d ≤ ops.length → (∀ j, M ≤ j → j < M + d → gB rs j = false) → gH rs hf' (M + d) = lob (gL rs) (fun f => decide (M ≤ f)) (gH rs hf' M) (M + d) := by
      intro M d
      induction d with
      | zero =>
        intro _ _
        have := lob_hi (lt := gL rs) (p := fun f => decide (M ≤ f)) (H := gH rs hf' M) (m := 0) M (fun f _ hf _ => by simp; omega)
        rw [Nat.zero_add] at this
        rw [Nat.add_zero, this]; try rfl
      | succ d ih =>
        intro h1 h2
        have ih := ih (by omega) (fun j a b => h2 j a (by omega))
        have hS := g5 (M + d) ops[M + d] (List.getElem?_eq_getElem (by omega))
        have hb := h2 (M + d) (by omega) (by omega)
        obtain ⟨w, _, k1, k2⟩ := hS.ok
        rw [show M + (d + 1) = M + d + 1 by omega, lob_succ]
        have key : gH rs hf' (M + d + 1) = match gL rs (M + d) with | some q => (gH rs hf' (M + d)).set q.1 q.2 | none => gH rs hf' (M + d) := by
          cases w with
          | false => rw [(k1 rfl).2.2.1]; exact (k1 rfl).2.1
          | true =>
            cases hiw : isW ow wf ops[M + d] with
            | false => rw [((k2 rfl).2.1 hiw).2.1]; exact ((k2 rfl).2.1 hiw).1
            | true =>
              rcases (k2 rfl).2.2 hiw with k3 | k3 | k3
              · rw [k3.1] at hb; simp at hb
              · obtain ⟨_, _, ob, k4, _, k5⟩ := k3
                rw [k4]; simpa using k5
              · obtain ⟨_, _, _, _, _, _, _, ob, _, _, k4, k5, _⟩ := k3
                rw [k4]; exact k5
        rw [key]
        cases hl : gL rs (M + d) with
        | none => simp only; exact ih
        | some q => simp only [show decide (M ≤ M + d) = true by simp, if_true]; rw [ih]
    have wwP : ∀ i j, i < j → j < ops.length → (gB rs i = true ∨ (gL rs i).isSome = true) → (gB rs j = true ∨ (gL rs j).isSome = true) →
        pre ops i j = true ∨ (∃ p q, gL rs i = some p ∧ gL rs j = some q ∧ p.1 ≠ q.1) ∨ (gB rs i = true ∧ (gL rs j).isSome = true ∧ ∃ o, ops[j]? = some o ∧ isA ow o = true) ∨ ((gL rs i).isSome = true ∧ gB rs j = true ∧ ∃ o, ops[i]? = some o ∧ isA ow o = true) := by
      intro i j hij hj hi hj2
      have h1 := rng_iff.1 hww j hj
      have hj3 : (gB rs j || (gL rs j).isSome) = true := by simpa using hj2
      have hi3 : (gB rs i || (gL rs i).isSome) = true := by simpa using hi
      rw [hj3] at h1
      simp only [Bool.not_true, Bool.false_or] at h1
      have h2 := rng_iff.1 h1 i hij
      rw [hi3] at h2
      simp only [Bool.not_true, Bool.false_or, Bool.or_eq_true] at h2
      rcases h2 with ((h2 | h2) | h2) | h2
      · exact .inl h2
      · right; left
        split at h2
        · rename_i p q e1 e2
          exact ⟨p, q, e1, e2, by simpa using h2⟩
        · simp at h2
      · simp only [Bool.and_eq_true] at h2
        refine .inr (.inr (.inl ⟨h2.1.1, h2.1.2, ops[j], List.getElem?_eq_getElem hj, ?_⟩))
        have := h2.2
        rw [List.getElem?_eq_getElem hj] at this
        simpa using this
      · simp only [Bool.and_eq_true] at h2
        refine .inr (.inr (.inr ⟨h2.1.1, h2.1.2, ops[i], List.getElem?_eq_getElem (by omega), ?_⟩))
        have := h2.2
        rw [List.getElem?_eq_getElem (by omega)] at this
        simpa using this
    have kxL : ∀ j, j < ops.length → (∀ f p, j < f → (hf : f < ops.length) → gL rs f = some p → isA ow ops[f] = false → pre ops j f = true) → ∀ id ∈ kx ow ops (gL rs) j, id ∈ killsAt ow ops h.next j (lsAt rs 0 [] j) := by
      intro j hjl hst id hid
      obtain ⟨f, p, m1, m2, m3, m4, m5, m6⟩ := kx_mem hid
      unfold killsAt
      rw [List.mem_append]
      rcases Nat.lt_trichotomy f j with m7 | m7 | m7
      · left
        rw [List.mem_filterMap]
        have := lsAt_mem rs 0 [] j f p (by omega) m7 m5
        rw [Nat.zero_add] at this
        have hjf : pre ops j f = false := by
          cases hpp : pre ops j f with
          | false => rfl
          | true => have := hpre j f m1 hpp; omega
        exact ⟨_, this, by simp [unoB, m2, m3, hjf, m6]⟩
      · exact (m2 m7.symm).elim
      · right
        have hSf := g5 f ops[f] (List.getElem?_eq_getElem m1)
        rw [Nat.zero_add] at hSf
        have fA : isA ow ops[f] = true := by
          cases hA : isA ow ops[f] with
          | true => rfl
          | false =>
            rcases m4 with m4 | m4
            · rw [hst f p m7 m1 m5 hA] at m4; simp at m4
            · rw [hA] at m4; simp at m4
        obtain ⟨wf', _, f1, f2⟩ := hSf.ok
        cases wf' with
        | false => rw [(f1 rfl).2.2.1] at m5; simp at m5
        | true =>
          cases hiwf : isW ow wf ops[f] with
          | false => rw [((f2 rfl).2.1 hiwf).2.1] at m5; simp at m5
          | true =>
            rcases (f2 rfl).2.2 hiwf with f3 | f3 | f3
            · rw [f3.2.1] at m5; simp at m5
            · obtain ⟨_, _, ob, f4, _⟩ := f3
              rw [f4] at m5
              simp at m5
              rw [List.mem_map]
              refine ⟨f, ?_, by rw [← m6, ← m5]⟩
              unfold laterA
              rw [List.mem_filter]
              exact ⟨List.mem_range.2 m1, by rw [List.getElem?_eq_getElem m1]; simp [m7, fA]⟩
            · obtain ⟨_, _, _, _, _, _, _, _, f4, _⟩ := f3
              unfold isA at fA; rw [f4] at fA; simp at fA
    refine ⟨fun j o ho => ?_, fun i j hij hj hi hj2 => ?_⟩
    · have hS := g5 j o ho
      rw [Nat.zero_add] at hS
      have hjl : j < ops.length := (List.getElem?_eq_some_iff.1 ho).1
      obtain ⟨w, k0, k1, k2⟩ := hS.ok
      refine ⟨hS.dst, w, k0, k1, fun hw => ?_⟩
      obtain ⟨k3, k4, k5⟩ := k2 hw
      refine ⟨k3, fun hiw => ?_, fun hiw => ?_⟩
      · obtain ⟨t1, t2, t3, t4⟩ := k4 hiw
        refine ⟨t1, t2, t3, fun M hM => ?_⟩
        have hq := rng_iff.1 hquiet j hjl
        rw [ho] at hq
        simp only [hiw, Bool.false_or] at hq
        rw [hw] at k0
        rw [k0] at hq
        simp only at hq
        have hq2 := rng_iff.1 hq M (by have := hM.1; omega)
        have hcut : cutB ops (gB rs) j M = true := by
          unfold cutB
          simp only [Bool.and_eq_true, Bool.or_eq_true, beq_iff_eq]
          refine ⟨hM.2.2.2, rng_iff.2 fun b hb => ?_⟩
          cases hbb : gB rs b with
          | false => rfl
          | true =>
            simp only [Bool.not_true, Bool.false_or]
            split
            · rename_i hbm; rw [hM.2.1 b hbm hbb]; try rfl
            · rename_i hbm; rw [hM.2.2.1 b (by omega) hbb]; try rfl
        rw [hcut] at hq2
        simp only [Bool.not_true, Bool.false_or, Bool.or_eq_true] at hq2
        rcases hq2 with hq2 | hq2
        · simp only [Bool.and_eq_true, beq_iff_eq] at hq2
          obtain ⟨hMl, hns⟩ := hq2
          refine ⟨killsAt ow ops h.next j (lsAt rs 0 [] j), kxL j hjl (fun f p m1 m2 m3 m4 => ?_), ?_⟩
          · have hSf := g5 f ops[f] (List.getElem?_eq_getElem m2)
            obtain ⟨wf', _, f1, f2⟩ := hSf.ok
            cases wf' with
            | false => rw [(f1 rfl).2.2.1] at m3; simp at m3
            | true =>
              cases hiwf : isW ow wf ops[f] with
              | false => rw [((f2 rfl).2.1 hiwf).2.1] at m3; simp at m3
              | true =>
                rcases (f2 rfl).2.2 hiwf with f3 | f3 | f3
                · rw [f3.2.1] at m3; simp at m3
                · obtain ⟨_, fA, _⟩ := f3
                  rw [fA] at m4; simp at m4
                · obtain ⟨_, _, _, _, _, _, _, _, f4, _⟩ := f3
                  have := rng_iff.1 hns f m2
                  rw [List.getElem?_eq_getElem m2] at this
                  simp [m1, isSt, f4, unoB, show ¬ j = f by omega] at this
                  cases hpp : pre ops f j with
                  | true => have := hpre f j hjl hpp; omega
                  | false => exact this.resolve_right (by rw [hpp]; simp)
          · -- the heap at k, with what stands apart hidden
            have hMj : M ≤ j := by rw [hMl]; exact (lastOf_spec _ _).1
            have hnb : ∀ b, M ≤ b → b < M + (j - M) → gB rs b = false := by
              intro b b1 b2
              have := (lastOf_spec (gB rs) j).2.2 b (by rw [hMl] at b1; exact b1) (by omega)
              simpa using this
            have hseg := segA M (j - M) (by omega) hnb
            rw [show M + (j - M) = j by omega] at hseg
            have hgx : gx ops (gL rs) (gH rs hf') j M (killsAt ow ops h.next j (lsAt rs 0 [] j)) = killL (gH rs hf' j) (killsAt ow ops h.next j (lsAt rs 0 [] j)) := by
              unfold gx
              obtain ⟨d, hdd⟩ : ∃ d, ops.length = j + d := ⟨ops.length - j, by omega⟩
              have h2 : gH rs hf' j = lob (gL rs) (fun f => decide (M ≤ f) && decide (f < j)) (gH rs hf' M) ops.length := by
                rw [hseg, hdd, lob_hi d (fun f a _ _ => by simp; omega)]
                exact lob_congr _ fun f hf _ => by simp [hf]
              rw [h2]
              refine lob_kill _ fun f p hf hl => ?_
              by_cases hMf : M ≤ f
              · simp only [hMf, decide_true, Bool.true_and]
                cases hp : pre ops f j with
                | true =>
                  rcases Nat.lt_or_ge f j with m7 | m7
                  · left; simp [m7]
                  · right
                    -- it stands behind and before: looked at as apart only when it is; else nothing is noted
                    exact absurd hp (by
                      have := hpre f j hjl hp
                      omega)
                | false =>
                  rcases Nat.lt_or_ge f j with m7 | m7
                  · right
                    unfold killsAt
                    rw [List.mem_append]
                    left
                    rw [List.mem_filterMap]
                    have hm := lsAt_mem rs 0 [] j f p (by omega) m7 hl
                    rw [Nat.zero_add] at hm
                    have hjf : pre ops j f = false := by
                      cases hpp : pre ops j f with
                      | false => rfl
                      | true => have := hpre j f hf hpp; omega
                    exact ⟨_, hm, by simp [unoB, hp, hjf, show ¬ j = f by omega]⟩
                  · left; simp; omega
              · left; simp [hMf]
            rw [hgx]
            exact t4
        · exact ⟨kx ow ops (gL rs) j, fun id hid => hid, xagain_ok2 hk hq2⟩
      · rcases k5 hiw with ⟨t1, t2, H', t3, t4, t5, t6⟩ | ⟨t1, t2, t3⟩ | ⟨t1, t, x, y, id, r, f, ob, u1, u2, u3, u4, u5⟩
        · have hkL : ∀ id ∈ kx ow ops (gL rs) j, id ∈ killsAt ow ops h.next j (lsAt rs 0 [] j) := kxL j hjl (fun f p m1 m2 m3 m4 => by
            rcases wwP j f m1 m2 (.inl t1) (.inr (by rw [m3]; try rfl)) with h5 | ⟨_, _, h5, _⟩ | ⟨_, _, o2, h5, h6⟩ | ⟨h5, _⟩
            · exact h5
            · rw [t2] at h5; simp at h5
            · rw [List.getElem?_eq_getElem m2] at h5; simp at h5; rw [h5, h6] at m4; simp at m4
            · rw [t2] at h5; simp at h5)
          have hLk : ∀ id ∈ killsAt ow ops h.next j (lsAt rs 0 [] j), id ∈ kx ow ops (gL rs) j ∨ (gH rs hf' j).obj id = none := fun id hid => by
            unfold killsAt at hid
            rw [List.mem_append] at hid
            rcases hid with hid | hid
            · rw [List.mem_filterMap] at hid
              obtain ⟨x, m1, m2⟩ := hid
              rcases lsAt_inv _ _ _ _ _ m1 with m3 | ⟨f, p, m3, m4, rfl⟩
              · simp at m3
              · left
                split at m2
                · rename_i hu
                  simp at m2
                  simp [unoB] at hu
                  rw [← m2]
                  exact mem_kx (show f < ops.length by omega) hu.1.1 hu.2 (.inl hu.1.2) m4
                · simp at m2
            · rw [List.mem_map] at hid
              obtain ⟨f, m1, rfl⟩ := hid
              exact .inr (t6 f m1)
          have eK : killL (gH rs hf' j) (kx ow ops (gL rs) j) = killL (gH rs hf' j) (killsAt ow ops h.next j (lsAt rs 0 [] j)) := heap_ext rfl fun id => by
            simp only [killL]
            by_cases m1 : id ∈ kx ow ops (gL rs) j
            · simp [m1, hkL id m1]
            · by_cases m2 : id ∈ killsAt ow ops h.next j (lsAt rs 0 [] j)
              · have := (hLk id m2).resolve_left m1
                simp [m1, m2, this]
              · simp [m1, m2]
          have eP : putL H' (gH rs hf' j) (kx ow ops (gL rs) j) = putL H' (gH rs hf' j) (killsAt ow ops h.next j (lsAt rs 0 [] j)) := heap_ext rfl fun id => by
            simp only [putL]
            by_cases m1 : id ∈ kx ow ops (gL rs) j
            · simp [m1, hkL id m1]
            · by_cases m2 : id ∈ killsAt ow ops h.next j (lsAt rs 0 [] j)
              · have := (hLk id m2).resolve_left m1
                simp [m1, m2, this]
              · simp [m1, m2]
          refine .inl ⟨t1, t2, ⟨H', by rw [eK]; exact t3, fun id hid => t4 id (hkL id hid), by rw [eP]; exact t5⟩, fun f q hjf hq ha => ?_⟩
          have := late j f q hjl (by simp [t1]) hjf hq ha
          rw [if_pos t1] at this
          simpa using this
        · exact .inr (.inl ⟨t1, t2, t3⟩)
        · refine .inr (.inr ⟨t1, t, x, y, id, r, f, ob, u1, u2, u3, u4, fun f' q hjf hq ha => ?_, u5⟩)
          have := late j f' q hjl (by simp [u3]) hjf hq ha
          rw [if_neg (by simp [t1]), u3] at this
          simpa using this
    · exact wwP i j hij hj hi hj2
theorem xc_ok2 {call : CallR2} (hk : CallOk2 P call) {ow : Nat → Bool} {n : Nat} : ∀ (m : Nat) (c : Code) {s s' : Slots} {q q' : Option Nat} {h h' : Heap} {e : Exit}, xc2 P wf call ow n m c s q h = some (e, s', q', h') →
    (∀ Q : Post, Q e s' h' → awp P ow wf n c Q s h) ∧ (∀ h0, Tch q h0 h → Tch q' h0 h')
  | 0, c, s, s', q, q', h, h', e, hx => by simp [xc2] at hx
  | m + 1, c, s, s', q, q', h, h', e, hx => by
    unfold xc2 at hx
    split at hx
    · simp only [Option.some.injEq, Prod.mk.injEq] at hx
      obtain ⟨rfl, rfl, rfl, rfl⟩ := hx
      exact ⟨fun Q hQ => by simpa only [awp] using hQ, fun h0 hq => hq⟩
    · rename_i id ops
      split at hx
      · rename_i hdo
        simp only [Option.map_eq_some_iff, Prod.mk.injEq] at hx
        obtain ⟨⟨s1, q1, h1⟩, hx, rfl, rfl, rfl, rfl⟩ := hx
        have := fun (Q : Post) => xd_ok2 (K := Q .normal) hk _ _ hx
        exact ⟨fun Q hQ => by simp only [awp, if_true]; exact .inl ⟨hdo, (this Q).1 hQ⟩, (this (fun _ _ _ => True)).2⟩
      · split at hx
        · rename_i hdo
          simp only [Option.map_eq_some_iff, Prod.mk.injEq] at hx
          obtain ⟨⟨s1, q1, h1⟩, hx, rfl, rfl, rfl, rfl⟩ := hx
          have := fun (Q : Post) => xd_ok3 (K := Q .normal) hk _ _ hx
          refine ⟨fun Q hQ => by simp only [awp, if_true]; exact .inr (.inl ⟨hdo, (this Q).1 hQ⟩), fun h0 hq => (this (fun _ _ _ => True)).2 h0 (hq.trans ?_)⟩
          exact ⟨Nat.le_add_right _ _, fun _ _ => rfl⟩
        · split at hx
          · rename_i hdo
            simp only [Option.map_eq_some_iff, Prod.mk.injEq] at hx
            obtain ⟨⟨s1, q1, h1⟩, hx, rfl, rfl, rfl, rfl⟩ := hx
            obtain ⟨t1, t2⟩ := xd4_ok hk (fun i j hj hp => pre_lt3 (DOk3.of hdo) j i hj hp) hx
            refine ⟨fun Q hQ => by simp only [awp, if_true]; exact .inr (.inr ⟨hdo, t1 (Q .normal) hQ⟩), fun h0 hq => t2 h0 (hq.trans ?_)⟩
            exact ⟨Nat.le_add_right _ _, fun _ _ => rfl⟩
          · simp at hx
    · rename_i id ops
      simp only [Option.map_eq_some_iff, Prod.mk.injEq] at hx
      obtain ⟨⟨s1, q1, h1⟩, hx, rfl, rfl, rfl, rfl⟩ := hx
      have := fun (Q : Post) => xl_ok2 (K := Q .normal) hk _ hx
      exact ⟨fun Q hQ => by simp only [awp, Bool.false_eq_true, if_false]; exact (this Q).1 hQ, (this (fun _ _ _ => True)).2⟩
    · rename_i a b
      split at hx
      · rename_i s1 q1 h1 ha
        obtain ⟨a1, a2⟩ := xc_ok2 hk m a ha
        obtain ⟨b1, b2⟩ := xc_ok2 hk m b hx
        exact ⟨fun Q hQ => by simp only [awp]; exact a1 _ (b1 Q hQ), fun h0 hq => b2 h0 (a2 h0 hq)⟩
      · rename_i hne
        obtain ⟨a1, a2⟩ := xc_ok2 hk m a hx
        refine ⟨fun Q hQ => ?_, a2⟩
        simp only [awp]
        refine a1 _ ?_
        cases e <;> simp only [Post.seq] <;> first | exact hQ | exact (hne _ _ _ hx).elim
    · rename_i c x y
      split at hx
      · rename_i hc
        obtain ⟨a1, a2⟩ := xc_ok2 hk m x hx
        exact ⟨fun Q hQ => by simp only [awp, hc, if_true]; exact a1 Q hQ, a2⟩
      · rename_i hc
        obtain ⟨a1, a2⟩ := xc_ok2 hk m y hx
        exact ⟨fun Q hQ => by simp only [awp, hc, Bool.false_eq_true, if_false]; exact a1 Q hQ, a2⟩
      · simp at hx
    · rename_i id c
      split at hx
      · rename_i id' s1 q1 h1 ha
        obtain ⟨a1, a2⟩ := xc_ok2 hk m c ha
        simp only [Option.some.injEq, Prod.mk.injEq] at hx
        obtain ⟨rfl, rfl, rfl, rfl⟩ := hx
        refine ⟨fun Q hQ => ?_, a2⟩
        simp only [awp]
        refine a1 _ ?_
        simp only [Post.block]
        split <;> rename_i hid <;> simpa only [hid, if_true, if_false] using hQ
      · rename_i hne
        obtain ⟨a1, a2⟩ := xc_ok2 hk m c hx
        refine ⟨fun Q hQ => ?_, a2⟩
        simp only [awp]
        refine a1 _ ?_
        cases e <;> simp only [Post.block] <;> first | exact hQ | exact (hne _ _ _ _ hx).elim
    · rename_i c
      split at hx
      · rename_i s1 q1 h1 ha
        obtain ⟨a1, a2⟩ := xc_ok2 hk m c ha
        obtain ⟨b1, b2⟩ := xc_ok2 hk m (.loop c) hx
        refine ⟨fun Q hQ => ?_, fun h0 hq => b2 h0 (a2 h0 hq)⟩
        have := b1 Q hQ
        simp only [awp] at this ⊢
        obtain ⟨j, hj⟩ := this
        exact ⟨j + 1, a1 _ hj⟩
      · rename_i hne
        obtain ⟨a1, a2⟩ := xc_ok2 hk m c hx
        refine ⟨fun Q hQ => ?_, a2⟩
        simp only [awp]
        refine ⟨1, a1 _ ?_⟩
        cases e <;> simp only [Post.seq] <;> first | exact hQ | exact (hne _ _ _ hx).elim
    · simp only [Option.some.injEq, Prod.mk.injEq] at hx
      obtain ⟨rfl, rfl, rfl, rfl⟩ := hx
      exact ⟨fun Q hQ => by simpa only [awp] using hQ, fun h0 hq => hq⟩
    · simp only [Option.some.injEq, Prod.mk.injEq] at hx
      obtain ⟨rfl, rfl, rfl, rfl⟩ := hx
      exact ⟨fun Q hQ => by simpa only [awp] using hQ, fun h0 hq => hq⟩
    · simp at hx
theorem xf_ok2 (hm : P.follows .mixedOrders = true) {ext : FuncId → List PV → Heap → Option PV} (hext : ExtOk2 P ext) {keep : FuncId → Bool} {m : Nat} : ∀ k, CallOk2 P (xf2 P wf own ext keep m k)
  | 0, f, args, h, v, q, h', hx => by simp [xf2] at hx
  | k + 1, f, args, h, v, q, h', hx => by
    unfold xf2 at hx
    split at hx
    · rename_i r hr
      simp only [Option.some.injEq, Prod.mk.injEq] at hx
      obtain ⟨rfl, rfl, rfl⟩ := hx
      exact ⟨hext _ _ _ _ hr, rfl⟩
    split at hx
    · simp at hx
    · rename_i fn hf
      split at hx
      case isFalse => simp at hx
      rename_i hh
      split at hx
      · simp at hx
      · rename_i c hb
        split at hx
        case h_2 => simp at hx
        rename_i s q1 h1 hc
        split at hx
        · simp at hx
        · rename_i vs hr
          have main : PCall P f args h (fun r h2 => r = resV vs ∧ h2 = h1) ∧ Tch q1 h h1 := by
            obtain ⟨e, he, hc⟩ := endS_some hc
            obtain ⟨a1, a2⟩ := xc_ok2 (xf_ok2 hm hext k) m c hc
            refine ⟨pcall_body hm hf hb hh.1 hh.2 (a1 _ ?_), a2 h rfl⟩
            rcases he with rfl | rfl <;> simp only [retPost, hr] <;> exact ⟨trivial, trivial⟩
          split at hx
          · rename_i hkp
            simp only [Bool.and_eq_true] at hkp
            split at hx
            · rename_i r hfr
              simp only [Option.some.injEq, Prod.mk.injEq] at hx
              obtain ⟨rfl, rfl, rfl⟩ := hx
              refine ⟨pcall_wf hh.1 fun hwf => PCall.drop (main.1.mono ?_), rfl⟩
              rintro r' h' ⟨rfl, rfl⟩
              have hold : ∀ id, id < h.next → h'.obj id = h.obj id := by
                intro id hid
                have ht := main.2
                cases q1 with
                | none => simp only [Tch] at ht; rw [ht]
                | some t =>
                  simp only [Tch] at ht
                  have := hkp.2
                  simp [dropB] at this
                  exact ht.2 id (by omega)
              refine ⟨r, h, ⟨rfl, rfl⟩, frzP_ok _ _ hfr, Nat.le_refl _, fun id o ho => ?_⟩
              have hid := hwf id (by rw [ho]; try rfl)
              exact ⟨by rw [hold id hid]; exact ho, hid, .inl ho⟩
            · simp only [Option.some.injEq, Prod.mk.injEq] at hx
              obtain ⟨rfl, rfl, rfl⟩ := hx
              exact main
          · simp only [Option.some.injEq, Prod.mk.injEq] at hx
            obtain ⟨rfl, rfl, rfl⟩ := hx
            exact main
/-- what is to be computed: a result, whatever the heap -/
def xgives2 (r : Option (PV × Option Nat × Heap)) (v : PV) : Bool := match r with
  | some (u, _, _) => pvEq u v
  | none => false
theorem pcall_run2 (hm : P.follows .mixedOrders = true) {ext : FuncId → List PV → Heap → Option PV} (hext : ExtOk2 P ext) {keep : FuncId → Bool} {m k : Nat} {f : FuncId} {args : List PV} {h : Heap} {v : PV} (hx : xgives2 (xf2 P wf own ext keep m k f args h) v = true) : PCall P f args h (fun r _ => r = v) := by
  unfold xgives2 at hx
  split at hx
  · rename_i u q h' hr
    refine ((xf_ok2 hm hext k _ _ _ _ _ _ hr).1).mono (fun r h'' hr => ?_)
    rw [hr.1, pvEq_eq _ _ hx]
  · simp at hx
end
end Go.AM
namespace Go.Proofs.YtikhonogkpboaaaGreat
open Go.AM
set_option maxHeartbeats 2000000
set_option maxRecDepth 100000
def dmOwn (f t : Nat) : Bool := ([(146, 5), (163, 2), (164, 2), (197, 10), (204, 13), (23, 18), (23, 27), (23, 51), (23, 72), (242, 5), (30, 7), (77, 15), (80, 11), (81, 11), (98, 13)] : List (Nat × Nat)).contains (f, t)
def dmWf (f : Nat) : Bool := ([76, 78, 134, 204, 159, 98, 80, 81, 132, 77, 107] : List Nat).contains f
def dmExt (f : FuncId) (args : List PV) (_ : Heap) : Option PV := ext f args
theorem dmExt_ok : ExtOk2 Tryz.prog dmExt := fun f args r h hr => ext_ok f args r h hr
theorem dmAwake_c : PCall Tryz.prog 14 [] Heap.nil fun r h' => r = .sc (.bool true) ∧ h' = Heap.nil := by
  have h1 : PCall Tryz.prog 14 [] Heap.nil fun r _ => r = .sc (.bool true) := pcall_run2 (wf := dmWf) (own := dmOwn) (keep := fun _ => false) Ty.mixed dmExt_ok (m := 2000) (k := 60) (by kernel_rfl)
  refine PCall.drop (h1.mono ?_)
  rintro r h' rfl
  refine ⟨.sc (.bool true), Heap.nil, ⟨rfl, rfl⟩, ?_, Nat.le_refl _, fun id o ho => by simp [Heap.nil] at ho⟩
  simp only [FrzTo]
end Go.Proofs.YtikhonogkpboaaaGreat
namespace Go.Proofs.YtikhonogkpboaaaGreat
open Go.AM
set_option maxHeartbeats 4000000
set_option maxRecDepth 20000
theorem domainSame_c {a b : Dm} (ha : a.ok) (hb : b.ok) : PCall Tryz.prog 3 [.agg a.cells, .agg b.cells] Heap.nil fun r _ => r = .sc (.bool true) := by
  have cl := dlarge_c a ha
  have cl2 := dlarge_c b hb
  have c1 := rdsame_c a b ha hb
  have c2 := dsame_c a b ha hb
  have c3 := dsame_c b a hb ha
  have c4 := dsame_c a a ha ha
  rw [dm_refl] at c4
  rw [dm_symm b a] at c3
  generalize a.same b = e at c1 c2 c3
  generalize largeD a = n at cl
  generalize largeD b = n2 at cl2
  clear ha hb
  obtain ⟨aname, atypes, aconstants, apredicates, afunctions, aactions, aduratives⟩ := a
  obtain ⟨bname, btypes, bconstants, bpredicates, bfunctions, bactions, bduratives⟩ := b
  simp only [Dm.cells] at cl cl2 c1 c2 c3 c4 ⊢
  refine pcall_body (ow := fun _ => false) (wf := fun _ => false) Ty.mixed Tryz.func3 rfl Ty.hb_3 (by rw [Tryz.ntmps3]; simp) ?_
  rw [Tryz.ntmps3, Tryz.results3]
  cases n with
  | true =>
    repeat' (first | (refine a_seq (fun K hK => ?_)) | (refine a_block ?_) | ((first | refine a_regionS ?_ | refine a_region (fun K hK => ?_) | refine a_ret ?_); simp (maxSteps := 2000000) only [Ty.w, simprocAttr]) | ((first | refine a_skip ?_ | refine a_exit ?_); (try simp only [pst0, simprocAttr])) | (refine a_cond _ (by (try simp (maxSteps := 2000000) only [Ty.w, simprocAttr]); rfl) (fun hb => ?_) (fun hb => ?_) <;> (try simp only [hb0, decide_eq_true_eq, decide_eq_false_iff_not, simprocAttr] at hb) <;> (try (exfalso; omega))) | (with_reducible refine ite_in (fun hb => ?_) (fun hb => ?_) <;> (try simp only [Decidable.not_not] at hb) <;> (try simp only [hb, if_true, if_false, not_false_eq_true, not_true_eq_false, ↓reduceIte]) <;> (try simp only [hb0, decide_eq_true_eq, decide_eq_false_iff_not, simprocAttr] at hb) <;> (try (exfalso; omega))) | ((first | refine hK _ _ ?_ | (clear hK; refine hK _ _ ?_) | (clear hK; clear hK; refine hK _ _ ?_) | (clear hK; clear hK; clear hK; refine hK _ _ ?_)); clear hK; (try simp only [pst0, simprocAttr])) | (rw [if_pos]; rotate_left 1; omega; simp (maxSteps := 2000000) only [Ty.w, simprocAttr]))
    refine owp_useQ (cl _) (by (try simp only [Ty.w, simprocAttr, ]); try rfl) ?_; simp (maxSteps := 2000000) only [Ty.w, simprocAttr, ]
    repeat' (first | (refine a_seq (fun K hK => ?_)) | (refine a_block ?_) | ((first | refine a_regionS ?_ | refine a_region (fun K hK => ?_) | refine a_ret ?_); simp (maxSteps := 2000000) only [Ty.w, simprocAttr]) | ((first | refine a_skip ?_ | refine a_exit ?_); (try simp only [pst0, simprocAttr])) | (refine a_cond _ (by (try simp (maxSteps := 2000000) only [Ty.w, simprocAttr]); rfl) (fun hb => ?_) (fun hb => ?_) <;> (try simp only [hb0, decide_eq_true_eq, decide_eq_false_iff_not, simprocAttr] at hb) <;> (try (exfalso; omega))) | (with_reducible refine ite_in (fun hb => ?_) (fun hb => ?_) <;> (try simp only [Decidable.not_not] at hb) <;> (try simp only [hb, if_true, if_false, not_false_eq_true, not_true_eq_false, ↓reduceIte]) <;> (try simp only [hb0, decide_eq_true_eq, decide_eq_false_iff_not, simprocAttr] at hb) <;> (try (exfalso; omega))) | ((first | refine hK _ _ ?_ | (clear hK; refine hK _ _ ?_) | (clear hK; clear hK; refine hK _ _ ?_) | (clear hK; clear hK; clear hK; refine hK _ _ ?_)); clear hK; (try simp only [pst0, simprocAttr])) | (rw [if_pos]; rotate_left 1; omega; simp (maxSteps := 2000000) only [Ty.w, simprocAttr]))
    refine owp_useQ (dmAwake_c) (by (try simp only [Ty.w, simprocAttr, ]); try rfl) ?_; simp (maxSteps := 2000000) only [Ty.w, simprocAttr, ]
    repeat' (first | (refine a_seq (fun K hK => ?_)) | (refine a_block ?_) | ((first | refine a_regionS ?_ | refine a_region (fun K hK => ?_) | refine a_ret ?_); simp (maxSteps := 2000000) only [Ty.w, simprocAttr]) | ((first | refine a_skip ?_ | refine a_exit ?_); (try simp only [pst0, simprocAttr])) | (refine a_cond _ (by (try simp (maxSteps := 2000000) only [Ty.w, simprocAttr]); rfl) (fun hb => ?_) (fun hb => ?_) <;> (try simp only [hb0, decide_eq_true_eq, decide_eq_false_iff_not, simprocAttr] at hb) <;> (try (exfalso; omega))) | (with_reducible refine ite_in (fun hb => ?_) (fun hb => ?_) <;> (try simp only [Decidable.not_not] at hb) <;> (try simp only [hb, if_true, if_false, not_false_eq_true, not_true_eq_false, ↓reduceIte]) <;> (try simp only [hb0, decide_eq_true_eq, decide_eq_false_iff_not, simprocAttr] at hb) <;> (try (exfalso; omega))) | ((first | refine hK _ _ ?_ | (clear hK; refine hK _ _ ?_) | (clear hK; clear hK; refine hK _ _ ?_) | (clear hK; clear hK; clear hK; refine hK _ _ ?_)); clear hK; (try simp only [pst0, simprocAttr])) | (rw [if_pos]; rotate_left 1; omega; simp (maxSteps := 2000000) only [Ty.w, simprocAttr]))
  | false =>
    cases n2 with
    | true =>
      repeat' (first | (refine a_seq (fun K hK => ?_)) | (refine a_block ?_) | ((first | refine a_regionS ?_ | refine a_region (fun K hK => ?_) | refine a_ret ?_); simp (maxSteps := 2000000) only [Ty.w, simprocAttr]) | ((first | refine a_skip ?_ | refine a_exit ?_); (try simp only [pst0, simprocAttr])) | (refine a_cond _ (by (try simp (maxSteps := 2000000) only [Ty.w, simprocAttr]); rfl) (fun hb => ?_) (fun hb => ?_) <;> (try simp only [hb0, decide_eq_true_eq, decide_eq_false_iff_not, simprocAttr] at hb) <;> (try (exfalso; omega))) | (with_reducible refine ite_in (fun hb => ?_) (fun hb => ?_) <;> (try simp only [Decidable.not_not] at hb) <;> (try simp only [hb, if_true, if_false, not_false_eq_true, not_true_eq_false, ↓reduceIte]) <;> (try simp only [hb0, decide_eq_true_eq, decide_eq_false_iff_not, simprocAttr] at hb) <;> (try (exfalso; omega))) | ((first | refine hK _ _ ?_ | (clear hK; refine hK _ _ ?_) | (clear hK; clear hK; refine hK _ _ ?_) | (clear hK; clear hK; clear hK; refine hK _ _ ?_)); clear hK; (try simp only [pst0, simprocAttr])) | (rw [if_pos]; rotate_left 1; omega; simp (maxSteps := 2000000) only [Ty.w, simprocAttr]))
      refine owp_useQ (cl _) (by (try simp only [Ty.w, simprocAttr, ]); try rfl) ?_; simp (maxSteps := 2000000) only [Ty.w, simprocAttr, ]
      repeat' (first | (refine a_seq (fun K hK => ?_)) | (refine a_block ?_) | ((first | refine a_regionS ?_ | refine a_region (fun K hK => ?_) | refine a_ret ?_); simp (maxSteps := 2000000) only [Ty.w, simprocAttr]) | ((first | refine a_skip ?_ | refine a_exit ?_); (try simp only [pst0, simprocAttr])) | (refine a_cond _ (by (try simp (maxSteps := 2000000) only [Ty.w, simprocAttr]); rfl) (fun hb => ?_) (fun hb => ?_) <;> (try simp only [hb0, decide_eq_true_eq, decide_eq_false_iff_not, simprocAttr] at hb) <;> (try (exfalso; omega))) | (with_reducible refine ite_in (fun hb => ?_) (fun hb => ?_) <;> (try simp only [Decidable.not_not] at hb) <;> (try simp only [hb, if_true, if_false, not_false_eq_true, not_true_eq_false, ↓reduceIte]) <;> (try simp only [hb0, decide_eq_true_eq, decide_eq_false_iff_not, simprocAttr] at hb) <;> (try (exfalso; omega))) | ((first | refine hK _ _ ?_ | (clear hK; refine hK _ _ ?_) | (clear hK; clear hK; refine hK _ _ ?_) | (clear hK; clear hK; clear hK; refine hK _ _ ?_)); clear hK; (try simp only [pst0, simprocAttr])) | (rw [if_pos]; rotate_left 1; omega; simp (maxSteps := 2000000) only [Ty.w, simprocAttr]))
      refine owp_useQ (cl2 _) (by (try simp only [Ty.w, simprocAttr, ]); try rfl) ?_; simp (maxSteps := 2000000) only [Ty.w, simprocAttr, ]
      repeat' (first | (refine a_seq (fun K hK => ?_)) | (refine a_block ?_) | ((first | refine a_regionS ?_ | refine a_region (fun K hK => ?_) | refine a_ret ?_); simp (maxSteps := 2000000) only [Ty.w, simprocAttr]) | ((first | refine a_skip ?_ | refine a_exit ?_); (try simp only [pst0, simprocAttr])) | (refine a_cond _ (by (try simp (maxSteps := 2000000) only [Ty.w, simprocAttr]); rfl) (fun hb => ?_) (fun hb => ?_) <;> (try simp only [hb0, decide_eq_true_eq, decide_eq_false_iff_not, simprocAttr] at hb) <;> (try (exfalso; omega))) | (with_reducible refine ite_in (fun hb => ?_) (fun hb => ?_) <;> (try simp only [Decidable.not_not] at hb) <;> (try simp only [hb, if_true, if_false, not_false_eq_true, not_true_eq_false, ↓reduceIte]) <;> (try simp only [hb0, decide_eq_true_eq, decide_eq_false_iff_not, simprocAttr] at hb) <;> (try (exfalso; omega))) | ((first | refine hK _ _ ?_ | (clear hK; refine hK _ _ ?_) | (clear hK; clear hK; refine hK _ _ ?_) | (clear hK; clear hK; clear hK; refine hK _ _ ?_)); clear hK; (try simp only [pst0, simprocAttr])) | (rw [if_pos]; rotate_left 1; omega; simp (maxSteps := 2000000) only [Ty.w, simprocAttr]))
      refine owp_useQ (dmAwake_c) (by (try simp only [Ty.w, simprocAttr, ]); try rfl) ?_; simp (maxSteps := 2000000) only [Ty.w, simprocAttr, ]
      repeat' (first | (refine a_seq (fun K hK => ?_)) | (refine a_block ?_) | ((first | refine a_regionS ?_ | refine a_region (fun K hK => ?_) | refine a_ret ?_); simp (maxSteps := 2000000) only [Ty.w, simprocAttr]) | ((first | refine a_skip ?_ | refine a_exit ?_); (try simp only [pst0, simprocAttr])) | (refine a_cond _ (by (try simp (maxSteps := 2000000) only [Ty.w, simprocAttr]); rfl) (fun hb => ?_) (fun hb => ?_) <;> (try simp only [hb0, decide_eq_true_eq, decide_eq_false_iff_not, simprocAttr] at hb) <;> (try (exfalso; omega))) | (with_reducible refine ite_in (fun hb => ?_) (fun hb => ?_) <;> (try simp only [Decidable.not_not] at hb) <;> (try simp only [hb, if_true, if_false, not_false_eq_true, not_true_eq_false, ↓reduceIte]) <;> (try simp only [hb0, decide_eq_true_eq, decide_eq_false_iff_not, simprocAttr] at hb) <;> (try (exfalso; omega))) | ((first | refine hK _ _ ?_ | (clear hK; refine hK _ _ ?_) | (clear hK; clear hK; refine hK _ _ ?_) | (clear hK; clear hK; clear hK; refine hK _ _ ?_)); clear hK; (try simp only [pst0, simprocAttr])) | (rw [if_pos]; rotate_left 1; omega; simp (maxSteps := 2000000) only [Ty.w, simprocAttr]))
    | false =>
      repeat' (first | (refine a_seq (fun K hK => ?_)) | (refine a_block ?_) | ((first | refine a_regionS ?_ | refine a_region (fun K hK => ?_) | refine a_ret ?_); simp (maxSteps := 2000000) only [Ty.w, simprocAttr]) | ((first | refine a_skip ?_ | refine a_exit ?_); (try simp only [pst0, simprocAttr])) | (refine a_cond _ (by (try simp (maxSteps := 2000000) only [Ty.w, simprocAttr]); rfl) (fun hb => ?_) (fun hb => ?_) <;> (try simp only [hb0, decide_eq_true_eq, decide_eq_false_iff_not, simprocAttr] at hb) <;> (try (exfalso; omega))) | (with_reducible refine ite_in (fun hb => ?_) (fun hb => ?_) <;> (try simp only [Decidable.not_not] at hb) <;> (try simp only [hb, if_true, if_false, not_false_eq_true, not_true_eq_false, ↓reduceIte]) <;> (try simp only [hb0, decide_eq_true_eq, decide_eq_false_iff_not, simprocAttr] at hb) <;> (try (exfalso; omega))) | ((first | refine hK _ _ ?_ | (clear hK; refine hK _ _ ?_) | (clear hK; clear hK; refine hK _ _ ?_) | (clear hK; clear hK; clear hK; refine hK _ _ ?_)); clear hK; (try simp only [pst0, simprocAttr])) | (rw [if_pos]; rotate_left 1; omega; simp (maxSteps := 2000000) only [Ty.w, simprocAttr]))
      refine owp_useQ (cl _) (by (try simp only [Ty.w, simprocAttr, ]); try rfl) ?_; simp (maxSteps := 2000000) only [Ty.w, simprocAttr, ]
      repeat' (first | (refine a_seq (fun K hK => ?_)) | (refine a_block ?_) | ((first | refine a_regionS ?_ | refine a_region (fun K hK => ?_) | refine a_ret ?_); simp (maxSteps := 2000000) only [Ty.w, simprocAttr]) | ((first | refine a_skip ?_ | refine a_exit ?_); (try simp only [pst0, simprocAttr])) | (refine a_cond _ (by (try simp (maxSteps := 2000000) only [Ty.w, simprocAttr]); rfl) (fun hb => ?_) (fun hb => ?_) <;> (try simp only [hb0, decide_eq_true_eq, decide_eq_false_iff_not, simprocAttr] at hb) <;> (try (exfalso; omega))) | (with_reducible refine ite_in (fun hb => ?_) (fun hb => ?_) <;> (try simp only [Decidable.not_not] at hb) <;> (try simp only [hb, if_true, if_false, not_false_eq_true, not_true_eq_false, ↓reduceIte]) <;> (try simp only [hb0, decide_eq_true_eq, decide_eq_false_iff_not, simprocAttr] at hb) <;> (try (exfalso; omega))) | ((first | refine hK _ _ ?_ | (clear hK; refine hK _ _ ?_) | (clear hK; clear hK; refine hK _ _ ?_) | (clear hK; clear hK; clear hK; refine hK _ _ ?_)); clear hK; (try simp only [pst0, simprocAttr])) | (rw [if_pos]; rotate_left 1; omega; simp (maxSteps := 2000000) only [Ty.w, simprocAttr]))
      refine owp_useQ (cl2 _) (by (try simp only [Ty.w, simprocAttr, ]); try rfl) ?_; simp (maxSteps := 2000000) only [Ty.w, simprocAttr, ]
      repeat' (first | (refine a_seq (fun K hK => ?_)) | (refine a_block ?_) | ((first | refine a_regionS ?_ | refine a_region (fun K hK => ?_) | refine a_ret ?_); simp (maxSteps := 2000000) only [Ty.w, simprocAttr]) | ((first | refine a_skip ?_ | refine a_exit ?_); (try simp only [pst0, simprocAttr])) | (refine a_cond _ (by (try simp (maxSteps := 2000000) only [Ty.w, simprocAttr]); rfl) (fun hb => ?_) (fun hb => ?_) <;> (try simp only [hb0, decide_eq_true_eq, decide_eq_false_iff_not, simprocAttr] at hb) <;> (try (exfalso; omega))) | (with_reducible refine ite_in (fun hb => ?_) (fun hb => ?_) <;> (try simp only [Decidable.not_not] at hb) <;> (try simp only [hb, if_true, if_false, not_false_eq_true, not_true_eq_false, ↓reduceIte]) <;> (try simp only [hb0, decide_eq_true_eq, decide_eq_false_iff_not, simprocAttr] at hb) <;> (try (exfalso; omega))) | ((first | refine hK _ _ ?_ | (clear hK; refine hK _ _ ?_) | (clear hK; clear hK; refine hK _ _ ?_) | (clear hK; clear hK; clear hK; refine hK _ _ ?_)); clear hK; (try simp only [pst0, simprocAttr])) | (rw [if_pos]; rotate_left 1; omega; simp (maxSteps := 2000000) only [Ty.w, simprocAttr]))
      refine owp_useQ (dmAwake_c) (by (try simp only [Ty.w, simprocAttr, ]); try rfl) ?_; simp (maxSteps := 2000000) only [Ty.w, simprocAttr, ]
      repeat' (first | (refine a_seq (fun K hK => ?_)) | (refine a_block ?_) | ((first | refine a_regionS ?_ | refine a_region (fun K hK => ?_) | refine a_ret ?_); simp (maxSteps := 2000000) only [Ty.w, simprocAttr, Bool.not_true]) | ((first | refine a_skip ?_ | refine a_exit ?_); (try simp only [pst0, simprocAttr])) | (refine a_cond _ (by (try simp (maxSteps := 2000000) only [Ty.w, simprocAttr, Bool.not_true]); rfl) (fun hb => ?_) (fun hb => ?_) <;> (try simp only [hb0, decide_eq_true_eq, decide_eq_false_iff_not, simprocAttr] at hb) <;> (try (exfalso; omega))) | (with_reducible refine ite_in (fun hb => ?_) (fun hb => ?_) <;> (try simp only [Decidable.not_not] at hb) <;> (try simp only [hb, if_true, if_false, not_false_eq_true, not_true_eq_false, ↓reduceIte]) <;> (try simp only [hb0, decide_eq_true_eq, decide_eq_false_iff_not, simprocAttr] at hb) <;> (try (exfalso; omega))) | ((first | refine hK _ _ ?_ | (clear hK; refine hK _ _ ?_) | (clear hK; clear hK; refine hK _ _ ?_) | (clear hK; clear hK; clear hK; refine hK _ _ ?_)); clear hK; (try simp only [pst0, simprocAttr])) | (rw [if_pos]; rotate_left 1; omega; simp (maxSteps := 2000000) only [Ty.w, simprocAttr, Bool.not_true]))
      refine owp_useQ (c1 _) (by (try simp only [Ty.w, simprocAttr, ]); try rfl) ?_; simp (maxSteps := 2000000) only [Ty.w, simprocAttr, ]
      repeat' (first | (refine a_seq (fun K hK => ?_)) | (refine a_block ?_) | ((first | refine a_regionS ?_ | refine a_region (fun K hK => ?_) | refine a_ret ?_); simp (maxSteps := 2000000) only [Ty.w, simprocAttr]) | ((first | refine a_skip ?_ | refine a_exit ?_); (try simp only [pst0, simprocAttr])) | (refine a_cond _ (by (try simp (maxSteps := 2000000) only [Ty.w, simprocAttr]); rfl) (fun hb => ?_) (fun hb => ?_) <;> (try simp only [hb0, decide_eq_true_eq, decide_eq_false_iff_not, simprocAttr] at hb) <;> (try (exfalso; omega))) | (with_reducible refine ite_in (fun hb => ?_) (fun hb => ?_) <;> (try simp only [Decidable.not_not] at hb) <;> (try simp only [hb, if_true, if_false, not_false_eq_true, not_true_eq_false, ↓reduceIte]) <;> (try simp only [hb0, decide_eq_true_eq, decide_eq_false_iff_not, simprocAttr] at hb) <;> (try (exfalso; omega))) | ((first | refine hK _ _ ?_ | (clear hK; refine hK _ _ ?_) | (clear hK; clear hK; refine hK _ _ ?_) | (clear hK; clear hK; clear hK; refine hK _ _ ?_)); clear hK; (try simp only [pst0, simprocAttr])) | (rw [if_pos]; rotate_left 1; omega; simp (maxSteps := 2000000) only [Ty.w, simprocAttr]))
      refine owp_useQ (c2 _) (by (try simp only [Ty.w, simprocAttr, ]); try rfl) ?_; simp (maxSteps := 2000000) only [Ty.w, simprocAttr, ]
      repeat' (first | (refine a_seq (fun K hK => ?_)) | (refine a_block ?_) | ((first | refine a_regionS ?_ | refine a_region (fun K hK => ?_) | refine a_ret ?_); simp (maxSteps := 2000000) only [Ty.w, simprocAttr]) | ((first | refine a_skip ?_ | refine a_exit ?_); (try simp only [pst0, simprocAttr])) | (refine a_cond _ (by (try simp (maxSteps := 2000000) only [Ty.w, simprocAttr]); rfl) (fun hb => ?_) (fun hb => ?_) <;> (try simp only [hb0, decide_eq_true_eq, decide_eq_false_iff_not, simprocAttr] at hb) <;> (try (exfalso; omega))) | (with_reducible refine ite_in (fun hb => ?_) (fun hb => ?_) <;> (try simp only [Decidable.not_not] at hb) <;> (try simp only [hb, if_true, if_false, not_false_eq_true, not_true_eq_false, ↓reduceIte]) <;> (try simp only [hb0, decide_eq_true_eq, decide_eq_false_iff_not, simprocAttr] at hb) <;> (try (exfalso; omega))) | ((first | refine hK _ _ ?_ | (clear hK; refine hK _ _ ?_) | (clear hK; clear hK; refine hK _ _ ?_) | (clear hK; clear hK; clear hK; refine hK _ _ ?_)); clear hK; (try simp only [pst0, simprocAttr])) | (rw [if_pos]; rotate_left 1; omega; simp (maxSteps := 2000000) only [Ty.w, simprocAttr]))
      refine owp_useQ (c3 _) (by (try simp only [Ty.w, simprocAttr, ]); try rfl) ?_; simp (maxSteps := 2000000) only [Ty.w, simprocAttr, ]
      repeat' (first | (refine a_seq (fun K hK => ?_)) | (refine a_block ?_) | ((first | refine a_regionS ?_ | refine a_region (fun K hK => ?_) | refine a_ret ?_); simp (maxSteps := 2000000) only [Ty.w, simprocAttr]) | ((first | refine a_skip ?_ | refine a_exit ?_); (try simp only [pst0, simprocAttr])) | (refine a_cond _ (by (try simp (maxSteps := 2000000) only [Ty.w, simprocAttr]); rfl) (fun hb => ?_) (fun hb => ?_) <;> (try simp only [hb0, decide_eq_true_eq, decide_eq_false_iff_not, simprocAttr] at hb) <;> (try (exfalso; omega))) | (with_reducible refine ite_in (fun hb => ?_) (fun hb => ?_) <;> (try simp only [Decidable.not_not] at hb) <;> (try simp only [hb, if_true, if_false, not_false_eq_true, not_true_eq_false, ↓reduceIte]) <;> (try simp only [hb0, decide_eq_true_eq, decide_eq_false_iff_not, simprocAttr] at hb) <;> (try (exfalso; omega))) | ((first | refine hK _ _ ?_ | (clear hK; refine hK _ _ ?_) | (clear hK; clear hK; refine hK _ _ ?_) | (clear hK; clear hK; clear hK; refine hK _ _ ?_)); clear hK; (try simp only [pst0, simprocAttr])) | (rw [if_pos]; rotate_left 1; omega; simp (maxSteps := 2000000) only [Ty.w, simprocAttr]))
      refine owp_useQ (c4 _) (by (try simp only [Ty.w, simprocAttr, ]); try rfl) ?_; simp (maxSteps := 2000000) only [Ty.w, simprocAttr, ]
      repeat' (first | (refine a_seq (fun K hK => ?_)) | (refine a_block ?_) | ((first | refine a_regionS ?_ | refine a_region (fun K hK => ?_) | refine a_ret ?_); simp (maxSteps := 2000000) only [Ty.w, simprocAttr]) | ((first | refine a_skip ?_ | refine a_exit ?_); (try simp only [pst0, simprocAttr])) | (refine a_cond _ (by (try simp (maxSteps := 2000000) only [Ty.w, simprocAttr]); rfl) (fun hb => ?_) (fun hb => ?_) <;> (try simp only [hb0, decide_eq_true_eq, decide_eq_false_iff_not, simprocAttr] at hb) <;> (try (exfalso; omega))) | (with_reducible refine ite_in (fun hb => ?_) (fun hb => ?_) <;> (try simp only [Decidable.not_not] at hb) <;> (try simp only [hb, if_true, if_false, not_false_eq_true, not_true_eq_false, ↓reduceIte]) <;> (try simp only [hb0, decide_eq_true_eq, decide_eq_false_iff_not, simprocAttr] at hb) <;> (try (exfalso; omega))) | ((first | refine hK _ _ ?_ | (clear hK; refine hK _ _ ?_) | (clear hK; clear hK; refine hK _ _ ?_) | (clear hK; clear hK; clear hK; refine hK _ _ ?_)); clear hK; (try simp only [pst0, simprocAttr])) | (rw [if_pos]; rotate_left 1; omega; simp (maxSteps := 2000000) only [Ty.w, simprocAttr]))
end Go.Proofs.YtikhonogkpboaaaGreat
namespace Go.Proofs.YtikhonogkpboaaaGreat
open Go.AM
set_option maxHeartbeats 1000000
set_option maxRecDepth 20000
def dmTs : List TypeId := recTs ++ [28, 87, 58, 90, 23, 92, 24, 79, 25, 81, 26]
theorem coChs : Tryz.prog.cellsOf 58 = 1 := by kernel_rfl
theorem partsCh : partsT Tryz.prog 87 = [(0, 3), (1, 22), (2, 39), (8, 9), (9, 35), (10, 85)] := by kernel_rfl
theorem coCh : Tryz.prog.cellsOf 87 = 15 := by kernel_rfl
theorem byCh : 0 < Tryz.prog.bytesOf 87 := by rw [show Tryz.prog.bytesOf 87 = 288 by kernel_rfl]; omega
theorem arg_ch {c : Nat} {ps : List PV} (h : Arg Tryz.prog c 87 ps) : ∃ a : Ch, a.ok ∧ ps = chRow a := by
  cases c with
  | zero => simp [Arg] at h
  | succ c =>
    obtain ⟨h1, h2⟩ := Arg_struct Tryz.underlying87 h
    rw [coCh] at h1
    rw [partsCh] at h2
    match ps, h1, h2 with
    | [p0, p1, p2, p3, p4, p5, p6, p7, p8, p9, p10, p11, p12, p13, p14], _, h2 =>
      have a0 := h2 (0, 3) (by simp)
      have a1 := h2 (1, 22) (by simp)
      have a2 := h2 (2, 39) (by simp)
      have a3 := h2 (8, 9) (by simp)
      have a4 := h2 (9, 35) (by simp)
      have a5 := h2 (10, 85) (by simp)
      simp only [co24, co25, co29, co3, co57, co9, List.drop_zero, List.drop_succ_cons, List.take_succ_cons, List.take_zero] at a0 a1 a2 a3 a4 a5
      obtain ⟨kind, hkind, e0⟩ := arg_i64 a0
      obtain ⟨params, hparams, e1⟩ := arg_pms a1
      obtain ⟨cond, hcond, e2⟩ := arg_fm _ a2
      obtain ⟨name, hname, e3⟩ := arg_str a3
      obtain ⟨args, hargs, e4⟩ := arg_strs a4
      obtain ⟨value, hvalue, e5⟩ := arg_ex _ a5
      simp at e0 e1 e3 e4
      refine ⟨⟨kind, params, cond, name, args, value⟩, ⟨hparams, hcond, hargs, hvalue, hname, hkind⟩, ?_⟩
      simp only [chRow, e0, e1, e3, e4, ← e2, ← e5, List.cons_append, List.nil_append]
theorem arg_chs {c : Nat} {ps : List PV} (h : Arg Tryz.prog c 58 ps) : ∃ l : List Ch, Chs.ok l ∧ ps = [.imm 15 (chRows l)] := by
  cases c with
  | zero => simp [Arg] at h
  | succ c =>
    obtain ⟨rows, rfl, h1, _, h2⟩ := Arg_slice Tryz.underlying58 h
    obtain ⟨xs, rfl, h3⟩ := rows_map (Q := Ch.ok) (f := chRow) rows (fun r hr => arg_ch (h2 r hr).2)
    refine ⟨xs, ⟨len_le (by simpa using h1) byCh, h3⟩, ?_⟩
    rw [coCh]; try rfl
theorem partsPr : partsT Tryz.prog 90 = [(0, 9), (1, 22)] := by kernel_rfl
theorem coPr : Tryz.prog.cellsOf 90 = 2 := by kernel_rfl
theorem byPr : 0 < Tryz.prog.bytesOf 90 := by rw [show Tryz.prog.bytesOf 90 = 40 by kernel_rfl]; omega
theorem coPrs : Tryz.prog.cellsOf 23 = 1 := by kernel_rfl
theorem arg_pr {c : Nat} {ps : List PV} (h : Arg Tryz.prog c 90 ps) : ∃ a : Pr, a.ok ∧ ps = prRow a := by
  cases c with
  | zero => simp [Arg] at h
  | succ c =>
    obtain ⟨h1, h2⟩ := Arg_struct Tryz.underlying90 h
    rw [coPr] at h1
    rw [partsPr] at h2
    match ps, h1, h2 with
    | [p0, p1], _, h2 =>
      have a0 := h2 (0, 9) (by simp)
      have a1 := h2 (1, 22) (by simp)
      simp only [co25, co9, List.drop_zero, List.drop_succ_cons, List.take_succ_cons, List.take_zero] at a0 a1
      obtain ⟨name, hname, e0⟩ := arg_str a0
      obtain ⟨params, hparams, e1⟩ := arg_pms a1
      simp at e0 e1
      refine ⟨⟨name, params⟩, ⟨hname, hparams⟩, ?_⟩
      simp only [prRow, e0, e1, List.cons_append, List.nil_append]
theorem arg_prs {c : Nat} {ps : List PV} (h : Arg Tryz.prog c 23 ps) : ∃ l : List Pr, (l.length ≤ bigN ∧ ∀ a ∈ l, a.ok) ∧ ps = [.imm 2 (prRows l)] := by
  cases c with
  | zero => simp [Arg] at h
  | succ c =>
    obtain ⟨rows, rfl, h1, _, h2⟩ := Arg_slice Tryz.underlying23 h
    obtain ⟨xs, rfl, h3⟩ := rows_map (Q := Pr.ok) (f := prRow) rows (fun r hr => arg_pr (h2 r hr).2)
    refine ⟨xs, ⟨len_le (by simpa using h1) byPr, h3⟩, ?_⟩
    rw [coPr]; try rfl
theorem partsFu : partsT Tryz.prog 92 = [(0, 9), (1, 22), (2, 3), (3, 3)] := by kernel_rfl
theorem coFu : Tryz.prog.cellsOf 92 = 4 := by kernel_rfl
theorem byFu : 0 < Tryz.prog.bytesOf 92 := by rw [show Tryz.prog.bytesOf 92 = 56 by kernel_rfl]; omega
theorem coFus : Tryz.prog.cellsOf 24 = 1 := by kernel_rfl
theorem arg_fu {c : Nat} {ps : List PV} (h : Arg Tryz.prog c 92 ps) : ∃ a : Fu, a.ok ∧ ps = fuRow a := by
  cases c with
  | zero => simp [Arg] at h
  | succ c =>
    obtain ⟨h1, h2⟩ := Arg_struct Tryz.underlying92 h
    rw [coFu] at h1
    rw [partsFu] at h2
    match ps, h1, h2 with
    | [p0, p1, p2, p3], _, h2 =>
      have a0 := h2 (0, 9) (by simp)
      have a1 := h2 (1, 22) (by simp)
      have a2 := h2 (2, 3) (by simp)
      have a3 := h2 (3, 3) (by simp)
      simp only [co25, co3, co9, List.drop_zero, List.drop_succ_cons, List.take_succ_cons, List.take_zero] at a0 a1 a2 a3
      obtain ⟨name, hname, e0⟩ := arg_str a0
      obtain ⟨params, hparams, e1⟩ := arg_pms a1
      obtain ⟨lo, hlo, e2⟩ := arg_i64 a2
      obtain ⟨hi, hhi, e3⟩ := arg_i64 a3
      simp at e0 e1 e2 e3
      refine ⟨⟨name, params, lo, hi⟩, ⟨hname, hparams, hlo, hhi⟩, ?_⟩
      simp only [fuRow, e0, e1, e2, e3, List.cons_append, List.nil_append]
theorem arg_fus {c : Nat} {ps : List PV} (h : Arg Tryz.prog c 24 ps) : ∃ l : List Fu, (l.length ≤ bigN ∧ ∀ a ∈ l, a.ok) ∧ ps = [.imm 4 (fuRows l)] := by
  cases c with
  | zero => simp [Arg] at h
  | succ c =>
    obtain ⟨rows, rfl, h1, _, h2⟩ := Arg_slice Tryz.underlying24 h
    obtain ⟨xs, rfl, h3⟩ := rows_map (Q := Fu.ok) (f := fuRow) rows (fun r hr => arg_fu (h2 r hr).2)
    refine ⟨xs, ⟨len_le (by simpa using h1) byFu, h3⟩, ?_⟩
    rw [coFu]; try rfl
theorem partsAc : partsT Tryz.prog 79 = [(0, 9), (1, 22), (2, 3), (3, 39), (9, 58)] := by kernel_rfl
theorem coAc : Tryz.prog.cellsOf 79 = 10 := by kernel_rfl
theorem byAc : 0 < Tryz.prog.bytesOf 79 := by rw [show Tryz.prog.bytesOf 79 = 200 by kernel_rfl]; omega
theorem coAcs : Tryz.prog.cellsOf 25 = 1 := by kernel_rfl
theorem arg_ac {c : Nat} {ps : List PV} (h : Arg Tryz.prog c 79 ps) : ∃ a : Ac, a.ok ∧ ps = acRow a := by
  cases c with
  | zero => simp [Arg] at h
  | succ c =>
    obtain ⟨h1, h2⟩ := Arg_struct Tryz.underlying79 h
    rw [coAc] at h1
    rw [partsAc] at h2
    match ps, h1, h2 with
    | [p0, p1, p2, p3, p4, p5, p6, p7, p8, p9], _, h2 =>
      have a0 := h2 (0, 9) (by simp)
      have a1 := h2 (1, 22) (by simp)
      have a2 := h2 (2, 3) (by simp)
      have a3 := h2 (3, 39) (by simp)
      have a4 := h2 (9, 58) (by simp)
      simp only [co25, co29, co3, co9, coChs, List.drop_zero, List.drop_succ_cons, List.take_succ_cons, List.take_zero] at a0 a1 a2 a3 a4
      obtain ⟨name, hname, e0⟩ := arg_str a0
      obtain ⟨params, hparams, e1⟩ := arg_pms a1
      obtain ⟨cost, hcost, e2⟩ := arg_i64 a2
      obtain ⟨pre, hpre, e3⟩ := arg_fm _ a3
      obtain ⟨changes, hchanges, e4⟩ := arg_chs a4
      simp at e0 e1 e2 e4
      refine ⟨⟨name, params, cost, pre, changes⟩, ⟨hname, hparams, hcost, hpre, hchanges⟩, ?_⟩
      simp only [acRow, e0, e1, e2, e4, ← e3, List.cons_append, List.nil_append]
theorem arg_acs {c : Nat} {ps : List PV} (h : Arg Tryz.prog c 25 ps) : ∃ l : List Ac, (l.length ≤ bigN ∧ ∀ a ∈ l, a.ok) ∧ ps = [.imm 10 (acRows l)] := by
  cases c with
  | zero => simp [Arg] at h
  | succ c =>
    obtain ⟨rows, rfl, h1, _, h2⟩ := Arg_slice Tryz.underlying25 h
    obtain ⟨xs, rfl, h3⟩ := rows_map (Q := Ac.ok) (f := acRow) rows (fun r hr => arg_ac (h2 r hr).2)
    refine ⟨xs, ⟨len_le (by simpa using h1) byAc, h3⟩, ?_⟩
    rw [coAc]; try rfl
theorem partsDu : partsT Tryz.prog 81 = [(0, 9), (1, 22), (2, 3), (3, 39), (9, 39), (15, 39), (21, 58), (22, 58)] := by kernel_rfl
theorem coDu : Tryz.prog.cellsOf 81 = 23 := by kernel_rfl
theorem byDu : 0 < Tryz.prog.bytesOf 81 := by rw [show Tryz.prog.bytesOf 81 = 480 by kernel_rfl]; omega
theorem coDus : Tryz.prog.cellsOf 26 = 1 := by kernel_rfl
theorem arg_du {c : Nat} {ps : List PV} (h : Arg Tryz.prog c 81 ps) : ∃ a : Du, a.ok ∧ ps = duRow a := by
  cases c with
  | zero => simp [Arg] at h
  | succ c =>
    obtain ⟨h1, h2⟩ := Arg_struct Tryz.underlying81 h
    rw [coDu] at h1
    rw [partsDu] at h2
    match ps, h1, h2 with
    | [p0, p1, p2, p3, p4, p5, p6, p7, p8, p9, p10, p11, p12, p13, p14, p15, p16, p17, p18, p19, p20, p21, p22], _, h2 =>
      have a0 := h2 (0, 9) (by simp)
      have a1 := h2 (1, 22) (by simp)
      have a2 := h2 (2, 3) (by simp)
      have a3 := h2 (3, 39) (by simp)
      have a4 := h2 (9, 39) (by simp)
      have a5 := h2 (15, 39) (by simp)
      have a6 := h2 (21, 58) (by simp)
      have a7 := h2 (22, 58) (by simp)
      simp only [co25, co29, co3, co9, coChs, List.drop_zero, List.drop_succ_cons, List.take_succ_cons, List.take_zero] at a0 a1 a2 a3 a4 a5 a6 a7
      obtain ⟨name, hname, e0⟩ := arg_str a0
      obtain ⟨params, hparams, e1⟩ := arg_pms a1
      obtain ⟨duration, hduration, e2⟩ := arg_i64 a2
      obtain ⟨start, hstart, e3⟩ := arg_fm _ a3
      obtain ⟨over, hover, e4⟩ := arg_fm _ a4
      obtain ⟨stop, hstop, e5⟩ := arg_fm _ a5
      obtain ⟨atStart, hatStart, e6⟩ := arg_chs a6
      obtain ⟨atStop, hatStop, e7⟩ := arg_chs a7
      simp at e0 e1 e2 e6 e7
      refine ⟨⟨name, params, duration, start, over, stop, atStart, atStop⟩, ⟨hname, hparams, hduration, hstart, hover, hstop, hatStart, hatStop⟩, ?_⟩
      simp only [duRow, e0, e1, e2, e6, e7, ← e3, ← e4, ← e5, List.cons_append, List.nil_append]
theorem arg_dus {c : Nat} {ps : List PV} (h : Arg Tryz.prog c 26 ps) : ∃ l : List Du, (l.length ≤ bigN ∧ ∀ a ∈ l, a.ok) ∧ ps = [.imm 23 (duRows l)] := by
  cases c with
  | zero => simp [Arg] at h
  | succ c =>
    obtain ⟨rows, rfl, h1, _, h2⟩ := Arg_slice Tryz.underlying26 h
    obtain ⟨xs, rfl, h3⟩ := rows_map (Q := Du.ok) (f := duRow) rows (fun r hr => arg_du (h2 r hr).2)
    refine ⟨xs, ⟨len_le (by simpa using h1) byDu, h3⟩, ?_⟩
    rw [coDu]; try rfl
theorem partsDm : partsT Tryz.prog 28 = [(0, 9), (1, 22), (2, 22), (3, 23), (4, 24), (5, 25), (6, 26)] := by kernel_rfl
theorem coDm : Tryz.prog.cellsOf 28 = 7 := by kernel_rfl
theorem arg_dm (c : Nat) {ps : List PV} (h : Arg Tryz.prog c 28 ps) : ∃ d : Dm, d.ok ∧ ps = d.cells := by
  cases c with
  | zero => simp [Arg] at h
  | succ c =>
    obtain ⟨h1, h2⟩ := Arg_struct Tryz.underlying28 h
    rw [coDm] at h1
    rw [partsDm] at h2
    match ps, h1, h2 with
    | [p0, p1, p2, p3, p4, p5, p6], _, h2 =>
      have a0 := h2 (0, 9) (by simp)
      have a1 := h2 (1, 22) (by simp)
      have a2 := h2 (2, 22) (by simp)
      have a3 := h2 (3, 23) (by simp)
      have a4 := h2 (4, 24) (by simp)
      have a5 := h2 (5, 25) (by simp)
      have a6 := h2 (6, 26) (by simp)
      simp only [co9, co25, coPrs, coFus, coAcs, coDus, List.drop_zero, List.drop_succ_cons, List.take_succ_cons, List.take_zero] at a0 a1 a2 a3 a4 a5 a6
      obtain ⟨name, hname, e0⟩ := arg_str a0
      obtain ⟨types, htypes, e1⟩ := arg_pms a1
      obtain ⟨constants, hconstants, e2⟩ := arg_pms a2
      obtain ⟨predicates, hpredicates, e3⟩ := arg_prs a3
      obtain ⟨functions, hfunctions, e4⟩ := arg_fus a4
      obtain ⟨actions, hactions, e5⟩ := arg_acs a5
      obtain ⟨duratives, hduratives, e6⟩ := arg_dus a6
      simp at e0 e1 e2 e3 e4 e5 e6
      exact ⟨⟨name, types, constants, predicates, functions, actions, duratives⟩, ⟨hname, htypes, hconstants, hpredicates, hfunctions, hactions, hduratives⟩, by simp only [Dm.cells, e0, e1, e2, e3, e4, e5, e6]⟩
end Go.Proofs.YtikhonogkpboaaaGreat
