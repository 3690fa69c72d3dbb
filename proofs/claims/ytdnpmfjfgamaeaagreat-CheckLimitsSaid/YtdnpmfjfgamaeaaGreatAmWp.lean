/- The abstract machine's weakest preconditions are the model's. -/
import Derived.Test.YtdnpmfjfgamaeaaGreatAmEff6
set_option linter.unusedVariables false
set_option linter.unusedSimpArgs false
set_option linter.unusedSectionVars false
namespace Go.AM
section
variable {P : Program} {ow : Nat → Bool} {wf : FuncId → Bool} {β : Env} {h : Heap} {w : World} {s : Slots} {a : Act} {n : Nat}

/-- the whole state: heap and slots -/
structure St (n : Nat) (β : Env) (s : Slots) (h : Heap) (a : Act) (w : World) : Prop where
  sim : Sim β h w
  rep : ∀ t, RepH β h w (s t) (a.tmps.getD t undef)
  size : a.tmps.size = n
  defers : a.defers = []

/-- where a step leads -/
def To (n : Nat) (β : Env) (h : Heap) (w : World) (K : Slots → Heap → Prop) (a' : Act) (w' : World) : Prop :=
  ∃ s' h' β', K s' h' ∧ St n β' s' h' a' w' ∧ Ext β h w β' h' w'
theorem To.mono {β' : Env} {h' : Heap} {w' : World} {K K' : Slots → Heap → Prop} (e : Ext β h w β' h' w') (hk : ∀ s h, K s h → K' s h) {a'' : Act} {w'' : World} (t : To n β' h' w' K a'' w'') : To n β h w K' a'' w'' := by
  obtain ⟨s, h2, β2, k, st, e2⟩ := t
  exact ⟨s, h2, β2, hk _ _ k, st, e.trans e2⟩

theorem St.put {β' : Env} {h' : Heap} {w' : World} (st : St n β s h a w) (sm : Sim β' h' w') (e : Ext β h w β' h' w') {d : Option Nat} (hd : d.all (fun d => decide (d < n)) = true) {r : PV} {v : Value} (hr : RepH β' h' w' r v) :
    St n β' (updO s d r) h' (a.put d v) w' := by
  refine ⟨sm, fun t => ?_, ?_, ?_⟩
  · cases d with
    | none => simp only [updO, Act.put]; exact e.rep (st.rep t)
    | some d =>
      simp at hd
      simp only [updO, upd, Act.put]
      by_cases ht : t = d
      · subst ht
        rw [if_pos rfl]
        have : t < a.tmps.size := by rw [st.size]; exact hd
        simpa [Array.getD_eq_getD_getElem?, this] using hr
      · rw [if_neg ht]
        have := e.rep (st.rep t)
        simpa [Array.getD_eq_getD_getElem?, Array.getElem?_setIfInBounds_ne (Ne.symm ht)] using this
  · cases d with
    | none => exact st.size
    | some d => simp [Act.put, st.size]
  · cases d with
    | none => exact st.defers
    | some d => simp [Act.put, st.defers]

theorem Ran.wp (st : St n β s h a w) {o : Oper} {r : PV} {h' : Heap} (hd : o.dst.all (fun d => decide (d < n)) = true) (hr : Ran P a o β h w r h') {K : Act → World → Prop} {Q : Exit → Act → World → Prop}
    (hk : ∀ a' w', To n β h w (fun s' h2 => s' = updO s o.dst r ∧ h2 = h') a' w' → K a' w') : o.wp P a w K Q := by
  obtain ⟨nx, v, w', β', h1, h2, sm, e, hv⟩ := hr
  unfold Oper.wp
  rw [h1]
  have st' := st.put sm e hd hv
  rcases h2 with rfl | ⟨rfl, rfl⟩
  · exact hk _ _ ⟨_, _, β', ⟨rfl, rfl⟩, st', e⟩
  · exact hk _ _ ⟨_, _, β', ⟨rfl, rfl⟩, st', e⟩

theorem callee_run {ρ : Operand → PV} {op : Op} {f : FuncId} {args : List PV} (hc : callee ρ op = some (f, args)) :
    ∃ fo as ts, op = .call { callee := .value fo, args := as, argTypes := ts } ∧ ((args = as.toList.map ρ ∧ ρ fo = .sc (.func (.func f) #[] #[])) ∨ ∃ first caps, ρ fo = .fn f first caps ∧ args = first ++ (as.toList.map ρ ++ caps)) := by
  unfold callee at hc
  split at hc
  · rename_i fo as ts
    split at hc
    · rename_i g first captured hf
      split at hc
      · rename_i hfc
        simp only [Option.some.injEq, Prod.mk.injEq] at hc
        obtain ⟨rfl, rfl⟩ := hc
        obtain ⟨rfl, rfl⟩ := hfc
        exact ⟨fo, as, ts, rfl, .inl ⟨rfl, hf⟩⟩
      · simp at hc
    · rename_i g first caps hf
      simp only [Option.some.injEq, Prod.mk.injEq] at hc
      obtain ⟨rfl, rfl⟩ := hc
      exact ⟨fo, as, ts, rfl, .inr ⟨first, caps, hf, rfl⟩⟩
    · simp at hc
  · simp at hc
/-- what a call's operands are, and what it is called with -/
theorem callee_vals (st : St n β s h a w) {op : Op} {f : FuncId} {args : List PV} (hc : callee (pev s) op = some (f, args)) :
    ∃ fo as ts, ∃ xs ys : List Value, op = .call { callee := .value fo, args := as, argTypes := ts } ∧ a.eval fo = .func (.func f) xs.toArray ys.toArray ∧ RepL β h.next (Fz β h w) w args (xs ++ (as.toList.map a.eval ++ ys)) := by
  obtain ⟨fo, as, ts, hop, hh⟩ := callee_run hc
  have hl : ∀ l : List Operand, RepL β h.next (Fz β h w) w (l.map (pev s)) (l.map a.eval) := fun l => by
    rw [RepL_iff]
    refine ⟨by simp, fun j p v hp hv => ?_⟩
    rw [List.getElem?_map] at hp hv
    cases hj : l[j]? with
    | none => simp [hj] at hp
    | some x =>
      simp [hj] at hp hv
      subst hp; subst hv
      exact pev_rep st.rep x
  have app : ∀ (l : List PV) (l' : List Value) (m : List PV) (m' : List Value), RepL β h.next (Fz β h w) w l l' → RepL β h.next (Fz β h w) w m m' → RepL β h.next (Fz β h w) w (l ++ m) (l' ++ m') := by
    intro l
    induction l with
    | nil => intro l' m m' h1 h2; cases l' with | nil => exact h2 | cons => simp [RepL] at h1
    | cons p l ih =>
      intro l' m m' h1 h2
      cases l' with
      | nil => simp [RepL] at h1
      | cons q l' =>
        simp only [RepL] at h1
        simp only [List.cons_append, RepL]
        exact ⟨h1.1, ih l' m m' h1.2 h2⟩
  have h1 := pev_rep st.rep fo
  rcases hh with ⟨rfl, hf⟩ | ⟨first, caps, hf, rfl⟩
  · rw [hf] at h1
    simp only [RepH, Rep] at h1
    exact ⟨fo, as, ts, [], [], hop, h1, by simpa using hl as.toList⟩
  · rw [hf] at h1
    simp only [RepH, Rep] at h1
    obtain ⟨xs, ys, g1, g2, g3⟩ := h1
    exact ⟨fo, as, ts, xs, ys, hop, g1, app _ _ _ _ g2 (app _ _ _ _ (hl as.toList) g3)⟩

theorem PCall.wp {o : Oper} {f : FuncId} {args : List PV} (st : St n β s h a w) (hd : o.dst.all (fun d => decide (d < n)) = true) (hc : callee (pev s) o.op = some (f, args)) {K' : PV → Heap → Prop}
    (hp : PCall P f args h K') {K : Act → World → Prop} {Q : Exit → Act → World → Prop}
    (hk : ∀ a' w', To n β h w (fun s' h2 => ∃ r, K' r h2 ∧ s' = updO s o.dst r) a' w' → K a' w') : o.wp P a w K Q := by
  obtain ⟨fo, as, ts, xs, ys, hop, h1, hrep⟩ := callee_vals st hc
  rcases hp β w _ st.sim hrep with ⟨hb, hcl⟩ | ⟨v, w', hrun, r, h', β', v', hv, hK, sm, hr, e⟩
  case inr =>
    simp only [Ending.returned.injEq] at hv
    subst hv
    refine Ran.wp st hd ⟨.value v, v, w', β', ?_, .inl rfl, sm, e, hr⟩ (fun a' w2 ht => hk _ _ (ht.mono Ext.refl ?_))
    · simp only [execOp, hop, resolve, h1, Deferred.ofValue, Sem.run_bind, Sem.run_pure, Result.andThen_ok, invoke]
      obtain ⟨as⟩ := as
      simpa [List.append_assoc] using hrun
    · rintro s' h2 ⟨rfl, rfl⟩
      exact ⟨r, hK, rfl⟩
  unfold hasBody at hb
  cases hfn : P.funcs[f]? with
  | none => simp [hfn] at hb
  | some fn =>
    simp [hfn] at hb
    have hbody : fn.body.isNone = false := by cases hbb : fn.body <;> simp [hbb] at hb ⊢
    have hrun : (execOp a.eval o).run P w = .ok (.enter f (xs ++ (as.toList.map a.eval ++ ys)).toArray) w := by
      simp only [execOp, hop, resolve, h1, Deferred.ofValue, Sem.run_bind, Sem.run_pure, Result.andThen_ok, invoke, callFunc, run_program, hfn]
      obtain ⟨as⟩ := as
      simp [hbody, hb.1]
    unfold Oper.wp
    rw [hrun]
    simp only [Oper.upon]
    refine Calls.mono hcl (fun e w' hq => ?_)
    obtain ⟨r, h', β', v, rfl, hK, sm, hr, e⟩ := hq
    exact hk _ _ ⟨_, h', β', ⟨r, hK, rfl⟩, st.put sm e hd hr, e⟩

theorem owp_sound {o : Oper} {K' : Slots → Heap → Prop} (st : St n β s h a w) (hd : o.dst.all (fun d => decide (d < n)) = true) (ho : owp P ow o K' s h) {K : Act → World → Prop} {Q : Exit → Act → World → Prop}
    (hk : ∀ a' w', To n β h w K' a' w' → K a' w') : o.wp P a w K Q := by
  unfold owp at ho
  split at ho
  · rename_i f args hc
    refine PCall.wp st hd hc ho (fun a' w' ht => hk a' w' (ht.mono Ext.refl ?_))
    rintro s' h' ⟨r, hr, rfl⟩
    exact hr
  · split at ho
    · rename_i r h' he
      refine Ran.wp st hd (eff_sound st.sim st.rep o he) (fun a' w' ht => hk a' w' (ht.mono Ext.refl ?_))
      rintro s' h2 ⟨rfl, rfl⟩
      exact ho
    · exact ho.elim

theorem slot_get (st : St n β s h a w) {t : Nat} {v : Value} (hv : s t = .sc v) (hne : v ≠ undef) : a.tmps[t]? = some v := by
  have h1 := st.rep t
  rw [hv] at h1
  simp only [RepH, Rep] at h1
  cases ht : a.tmps[t]? with
  | none => rw [Array.getD_eq_getD_getElem?, ht] at h1; simp at h1; exact absurd h1.symm hne
  | some u => rw [Array.getD_eq_getD_getElem?, ht] at h1; simp at h1; rw [h1]

theorem wanted_sound (st : St n β s h a w) {ops : List Oper} {o : Oper} {b : Bool} (hw : wantedB ops s o = some b) : Region.wanted o (yielded ops.toArray a.tmps) = b := by
  unfold wantedB at hw
  unfold Region.wanted
  cases hg : o.guard with
  | none => simp [hg] at hw; simp [hw]
  | some gw =>
    obtain ⟨g, want⟩ := gw
    simp only [hg] at hw
    cases ht : (ops[g]?).bind (·.dst) with
    | none => simp [ht] at hw
    | some t =>
      simp only [ht] at hw
      have hy : yielded ops.toArray a.tmps g = match a.tmps[t]? with | some (.bool b) => some b | _ => none := by
        simp only [yielded, List.getElem?_toArray, ht, Option.bind_some]
        rfl
      simp only [hy]
      split at hw
      · rename_i b' hs
        simp at hw
        rw [slot_get st hs (by simp [undef])]
        subst hw
        cases b' <;> cases want <;> rfl
      · rename_i vs hs
        simp at hw
        subst hw
        have h1 := st.rep t
        rw [hs] at h1
        simp only [RepH, Rep] at h1
        cases hte : a.tmps[t]? with
        | none => rfl
        | some u => rw [Array.getD_eq_getD_getElem?, hte] at h1; simp at h1; subst h1; rfl
      · simp at hw

theorem St.undef (st : St n β s h a w) {d : Option Nat} (hd : d.all (fun d => decide (d < n)) = true) : St n β (updO s d (.sc Go.undef)) h (a.put d Go.undef) w :=
  st.put st.sim Ext.refl hd (by simp only [RepH, Rep])

theorem lwp_sound {ops : List Oper} {Q : Exit → Act → World → Prop} : ∀ (l : List Oper) {K' : Slots → Heap → Prop} {β : Env} {s : Slots} {h : Heap} {a : Act} {w : World}, St n β s h a w → lwp P ow n ops l K' s h →
    (∀ a' w', To n β h w K' a' w' → Q .normal a' w') → wpList P ops.toArray Q l a w
  | [], K', β, s, h, a, w, st, hl, hk => hk a w ⟨s, h, β, hl, st, Ext.refl⟩
  | o :: rest, K', β, s, h, a, w, st, hl, hk => by
    simp only [lwp] at hl
    obtain ⟨hd, hl⟩ := hl
    split at hl
    · exact hl.elim
    · rename_i b hb
      have hwd := wanted_sound st hb
      unfold wpList
      rw [hwd]
      cases b with
      | true =>
        simp only [if_true] at hl ⊢
        refine .inl (owp_sound st hd hl (fun a' w' ht => ?_))
        obtain ⟨s', h', β', hk', st', e⟩ := ht
        exact lwp_sound rest st' hk' (fun a'' w'' ht' => hk a'' w'' (ht'.mono e (fun _ _ x => x)))
      | false =>
        simp only [Bool.false_eq_true, if_false] at hl ⊢
        exact lwp_sound rest (st.undef hd) hl hk
end
end Go.AM
