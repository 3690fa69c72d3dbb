/- Code, bodies and calls: the abstract machine's weakest preconditions give the model's. -/
import Derived.Test.YtdnpmfjfgamaeaaGreatAmLt3
set_option linter.unusedVariables false
set_option linter.unusedSimpArgs false
set_option linter.unusedSectionVars false
namespace Go.AM
section
variable {P : Program} {ow : Nat → Bool} {wf : FuncId → Bool} {n : Nat}

def ToE (n : Nat) (β : Env) (h : Heap) (w : World) (K : Post) (e : Exit) (a' : Act) (w' : World) : Prop :=
  ∃ s' h' β', K e s' h' ∧ St n β' s' h' a' w' ∧ Ext β h w β' h' w'

/-- k rounds of a loop -/
def LoopW (P : Program) (c : Code) (Q : Exit → Act → World → Prop) : Nat → Act → World → Prop
  | 0, _, _ => False
  | k + 1, a, w => c.wp P (Exit.then (LoopW P c Q k) Q) a w
theorem wp_loopW {c : Code} {Q : Exit → Act → World → Prop} {k : Nat} {a : Act} {w : World} (hl : LoopW P c Q k a w) : (Code.loop c).wp P Q a w := by
  have key : ∀ (m : Nat) (a : Act) (w : World), LoopW P c Q m a w → ∀ (b : Frame) (k : List Item) (cs : List Frame),
      ∃ e a' w', Q e a' w' ∧ Arrives P (lone (b.at a (.code c :: .inLoop c :: k)) cs w) b k cs e a' w' := by
    intro m
    induction m with
    | zero => intro a w h; exact h.elim
    | succ m ih =>
      intro a w h b k cs
      obtain ⟨e, a₁, w₁, hq, harr⟩ := h b (.inLoop c :: k) cs
      cases e with
      | normal =>
        obtain ⟨e₂, a₂, w₂, hq₂, harr₂⟩ := ih a₁ w₁ hq b k cs
        exact ⟨e₂, a₂, w₂, hq₂, .of_steps (Steps.trans harr (.one step_inLoop)) harr₂⟩
      | exit id => exact ⟨_, a₁, w₁, hq, .pass (x := .inLoop c) rfl (fun _ _ => .inl (by simp)) harr⟩
      | goto l => exact ⟨_, a₁, w₁, hq, .pass (x := .inLoop c) rfl (fun _ _ => .inl (by simp)) harr⟩
      | ret => exact ⟨_, a₁, w₁, hq, .pass (x := .inLoop c) rfl (fun _ _ => .inl (by simp)) harr⟩
      | panic ch => exact ⟨_, a₁, w₁, hq, .pass (x := .inLoop c) rfl (fun _ _ => .inl (by simp)) harr⟩
      | outgrown => exact ⟨_, a₁, w₁, hq, .pass (x := .inLoop c) rfl (fun _ _ => .inl (by simp)) harr⟩
  intro b k cs
  obtain ⟨e, a', w', hq, harr⟩ := key _ a w hl b k cs
  exact ⟨e, a', w', hq, .of_steps (.one step_loop) harr⟩

theorem awp_sound (hm : P.follows .mixedOrders = true) : ∀ (c : Code) (Q' : Post) (β : Env) (s : Slots) (h : Heap) (a : Act) (w : World) (Q : Exit → Act → World → Prop),
    awp P ow wf n c Q' s h → St n β s h a w → (∀ e a' w', ToE n β h w Q' e a' w' → Q e a' w') → c.wp P Q a w
  | .skip, Q', β, s, h, a, w, Q, hw, st, hk => wp_skip (hk _ _ _ ⟨s, h, β, hw, st, Ext.refl⟩)
  | .region id ops true, Q', β, s, h, a, w, Q, hw, st, hk => by
    simp only [awp, if_true] at hw
    rcases hw with hw | hw | hw
    · have := dwp_sound (id := id) hm st hw (Q := Q) (fun a' w' ht => hk _ _ _ ht)
      simpa using this
    · have := dwp2_sound (id := id) hm st hw (Q := Q) (fun a' w' ht => hk _ _ _ ht)
      simpa using this
    · have := dwp3_sound (id := id) hm st hw (Q := Q) (fun a' w' ht => hk _ _ _ ht)
      simpa using this
  | .region id ops false, Q', β, s, h, a, w, Q, hw, st, hk => by
    simp only [awp, Bool.false_eq_true, if_false] at hw
    refine wp_region_list ?_
    have := lwp_sound (Q := Q) ops.toList st hw (fun a' w' ht => hk _ _ _ ht)
    simpa using this
  | .seq x y, Q', β, s, h, a, w, Q, hw, st, hk => by
    simp only [awp] at hw
    refine wp_seq (awp_sound hm x _ β s h a w _ hw st (fun e a' w' ht => ?_))
    obtain ⟨s', h', β', hq, st', ex⟩ := ht
    cases e <;> simp only [Post.seq] at hq <;> simp only [Exit.then]
    · exact awp_sound hm y _ β' s' h' a' w' Q hq st' (fun e a'' w'' ⟨s2, h2, β2, q2, st2, ex2⟩ => hk _ _ _ ⟨s2, h2, β2, q2, st2, ex.trans ex2⟩)
    all_goals exact hk _ _ _ ⟨s', h', β', hq, st', ex⟩
  | .cond c x y, Q', β, s, h, a, w, Q, hw, st, hk => by
    simp only [awp] at hw
    split at hw
    · rename_i b hb
      have he := pev_rep st.rep c
      rw [hb] at he
      simp only [RepH, Rep] at he
      cases b with
      | true => exact wp_cond_true he (awp_sound hm x _ β s h a w Q (by simpa using hw) st hk)
      | false => exact wp_cond_false he (awp_sound hm y _ β s h a w Q (by simpa using hw) st hk)
    · exact hw.elim
  | .block id c, Q', β, s, h, a, w, Q, hw, st, hk => by
    simp only [awp] at hw
    refine wp_block (awp_sound hm c _ β s h a w _ hw st (fun e a' w' ht => ?_))
    obtain ⟨s', h', β', hq, st', ex⟩ := ht
    cases e <;> simp only [Post.block] at hq <;> simp only [Exit.inBlock]
    case exit id' =>
      by_cases hid : id' = id
      · rw [if_pos hid] at hq ⊢; exact hk _ _ _ ⟨s', h', β', hq, st', ex⟩
      · rw [if_neg hid] at hq ⊢; exact hk _ _ _ ⟨s', h', β', hq, st', ex⟩
    all_goals exact hk _ _ _ ⟨s', h', β', hq, st', ex⟩
  | .loop c, Q', β, s, h, a, w, Q, hw, st, hk => by
    simp only [awp] at hw
    obtain ⟨k, hw⟩ := hw
    refine wp_loopW (k := k) ?_
    have key : ∀ (k : Nat) (β : Env) (s : Slots) (h : Heap) (a : Act) (w : World), loopN (awp P ow wf n c) Q' k s h → St n β s h a w → (∀ e a' w', ToE n β h w Q' e a' w' → Q e a' w') → LoopW P c Q k a w := by
      intro k
      induction k with
      | zero => intro β s h a w hl; exact hl.elim
      | succ k ih =>
        intro β s h a w hl st hk
        simp only [loopN] at hl
        simp only [LoopW]
        refine awp_sound hm c _ β s h a w _ hl st (fun e a' w' ht => ?_)
        obtain ⟨s', h', β', hq, st', ex⟩ := ht
        cases e <;> simp only [Post.seq] at hq <;> simp only [Exit.then]
        · exact ih β' s' h' a' w' hq st' (fun e a'' w'' ⟨s2, h2, β2, q2, st2, ex2⟩ => hk _ _ _ ⟨s2, h2, β2, q2, st2, ex.trans ex2⟩)
        all_goals exact hk _ _ _ ⟨s', h', β', hq, st', ex⟩
    exact key k β s h a w hw st hk
  | .exit id, Q', β, s, h, a, w, Q, hw, st, hk => wp_exit (hk _ _ _ ⟨s, h, β, hw, st, Ext.refl⟩)
  | .ret, Q', β, s, h, a, w, Q, hw, st, hk => wp_ret (hk _ _ _ ⟨s, h, β, hw, st, Ext.refl⟩)
  | .rangeFunc _ _ _ _, _, _, _, _, _, _, _, hw, _, _ => hw.elim
  | .scope _, _, _, _, _, _, _, _, hw, _, _ => hw.elim
  | .label _, _, _, _, _, _, _, _, hw, _, _ => hw.elim
  | .goto _, _, _, _, _, _, _, _, hw, _, _ => hw.elim
  | .refuse _, _, _, _, _, _, _, _, hw, _, _ => hw.elim

theorem resP_sound {β : Env} {s : Slots} {h : Heap} {a : Act} {w : World} (st : St n β s h a w) {r : ResultVar} {p : PV} (hr : resP P s h r = some p) :
    ∃ v, (match r with | .tmp t => pure (a.tmps.getD t undef) | .cell x t => do loadVar t (← asAddr (a.tmps.getD x undef)) : Sem Value).run P w = .ok v w ∧ RepH β h w p v := by
  cases r with
  | tmp t =>
    simp only [resP, Option.some.injEq] at hr
    subst hr
    exact ⟨_, rfl, st.rep t⟩
  | cell x t =>
    simp only [resP] at hr
    cases hz : szT P t with
    | none => simp [hz] at hr
    | some m =>
      cases hc : rd h (s x) with
      | none => simp [hz, hc] at hr
      | some cs =>
        simp only [hz, hc, Option.bind_some] at hr
        obtain ⟨b, o, g1, g2⟩ := rd_sound st.sim hc (st.rep x)
        obtain ⟨xv, g3, g4⟩ := loadVar_sound (P := P) hz hr g2
        refine ⟨xv, ?_, g4⟩
        simp only [g1, asAddr, pure_bind]
        exact g3
theorem resAll_sound {β : Env} {s : Slots} {h : Heap} {a : Act} {w : World} (st : St n β s h a w) : ∀ (rs : List ResultVar) (ps : List PV), resAll P s h rs = some ps →
    ∃ vs : List Value, (rs.mapM (fun | .tmp t => pure (a.tmps.getD t undef) | .cell x t => do loadVar t (← asAddr (a.tmps.getD x undef)) : ResultVar → Sem Value)).run P w = .ok vs w ∧ RepL β h.next (Fz β h w) w ps vs
  | [], ps, hr => by simp [resAll] at hr; subst hr; exact ⟨[], by simp, by simp [RepL]⟩
  | r :: rs, ps, hr => by
    simp only [resAll] at hr
    cases h1 : resP P s h r with
    | none => simp [h1] at hr
    | some p =>
      cases h2 : resAll P s h rs with
      | none => simp [h1, h2] at hr
      | some ps' =>
        simp [h1, h2] at hr
        subst hr
        obtain ⟨v, g1, g2⟩ := resP_sound st h1
        obtain ⟨vs, g3, g4⟩ := resAll_sound st rs ps' h2
        refine ⟨v :: vs, ?_, by simp only [RepL]; exact ⟨g2, g4⟩⟩
        simp only [List.mapM_cons, Sem.run_bind, g1, Result.andThen_ok, g3, Sem.run_pure]

theorem pcall_body (hm : P.follows .mixedOrders = true) {f : FuncId} {fn : Func} {c : Code} {args : List PV} {h : Heap} {K : PV → Heap → Prop} (hf : P.funcs[f]? = some fn) (hb : fn.body = some c) (hh : hasBody P f = true) (hn : args.length ≤ fn.ntmps)
    (hw : awp P ow wf fn.ntmps c (retPost P fn.results.toList K) (slots0 args) h) : PCall P f args h K := by
  refine fun β w vals sm hr => .inl ⟨hh, ?_⟩
  have hl := hr.len
  refine calls_of_wp hf hb ?_
  have st : St fn.ntmps β (slots0 args) h { tmps := vals.toArray ++ Array.replicate (fn.ntmps - vals.toArray.size) undef, defers := [] } w := by
    refine ⟨sm, fun t => ?_, ?_, rfl⟩
    · simp only [slots0]
      by_cases ht : t < args.length
      · have h1 : args[t]? = some args[t] := List.getElem?_eq_getElem ht
        obtain ⟨v, hv, hvr⟩ := hr.get h1
        rw [List.getD_eq_getElem?_getD, h1]
        have : (vals.toArray ++ Array.replicate (fn.ntmps - vals.toArray.size) undef)[t]? = some v := by
          rw [Array.getElem?_append_left (by simp; omega)]; simpa using hv
        rw [Array.getD_eq_getD_getElem?, this]
        exact hvr
      · rw [List.getD_eq_getElem?_getD, List.getElem?_eq_none (by omega)]
        have : (vals.toArray ++ Array.replicate (fn.ntmps - vals.toArray.size) undef).getD t undef = undef := by
          rw [Array.getD_eq_getD_getElem?, Array.getElem?_append_right (by simp; omega), Array.getElem?_replicate]
          split <;> rfl
        rw [this]
        simp only [RepH, Option.getD_none, Rep]
    · simp; omega
  refine awp_sound hm c _ β _ h _ w _ hw st (fun e a' w' ht => ?_)
  obtain ⟨s', h', β', hq, st', ex⟩ := ht
  have fin : (match resAll P s' h' fn.results.toList with | some vs => K (resV vs) h' | none => False) → a'.defers = [] ∧ ∃ v, (results fn a'.tmps).run P w' = .ok v w' ∧ (∃ r h'' β'' u, Ending.returned v = .returned u ∧ K r h'' ∧ Sim β'' h'' w' ∧ RepH β'' h'' w' r u ∧ Ext β h w β'' h'' w') := by
    intro hq
    split at hq
    · rename_i ps hps
      obtain ⟨vs, g1, g2⟩ := resAll_sound st' _ ps hps
      refine ⟨st'.defers, (if hx : vs.toArray.size = 1 then vs.toArray[0] else .tuple vs.toArray), ?_, resV ps, h', β', _, rfl, hq, st'.sim, ?_, ex⟩
      · simp only [results, Array.mapM_eq_mapM_toList, Sem.run_bind, Sem.run_map]
        exact congrArg (fun r : Result (List Value) => (r.andThen fun a w' => Result.ok a.toArray w').andThen fun a w' => (Pure.pure (if h : a.size = 1 then a[0] else Value.tuple a) : Sem Value).run P w') g1
      · have hl2 := g2.len
        match ps, vs, hl2, g2 with
        | [p], [v], _, g2 => simp only [RepL] at g2; simpa [resV] using g2.1
        | [], [], _, g2 => simp only [resV, RepH, Rep]; exact ⟨[], by simp, g2⟩
        | p :: q :: ps, v :: u :: vs, _, g2 => simp only [resV, RepH, Rep]; exact ⟨v :: u :: vs, by simp, g2⟩
        | [], v :: vs, hl2, _ => simp at hl2
        | p :: ps, [], hl2, _ => simp at hl2
        | [p], v :: u :: vs, hl2, _ => simp at hl2
        | p :: q :: ps, [v], hl2, _ => simp at hl2
    · exact hq.elim
  cases e <;> simp only [retPost] at hq
  · exact fin hq
  · exact fin hq

theorem Goes.body {f : FuncId} {vals : Array Value} {w : World} {Q : Ending → World → Prop} (hb : hasBody P f = true) (h : Goes P f vals w Q) : Calls P f vals w Q := by
  rcases h with ⟨_, h⟩ | ⟨v, w', h, _⟩
  · exact h
  · unfold hasBody at hb
    cases hfn : P.funcs[f]? with
    | none => simp [hfn] at hb
    | some fn =>
      simp [hfn] at hb
      have hbody : fn.body.isNone = false := by cases hbb : fn.body <;> simp [hbb] at hb ⊢
      have hne : fn.body ≠ none := by intro e; rw [e] at hb; simp at hb
      simp [callFunc, hfn, hb.1, hne] at h
/-- a law: called on an empty heap -/
theorem law_calls {f : FuncId} {pargs : List PV} {w : World} {vals : List Value} (hb : hasBody P f = true) (hc : PCall P f pargs Heap.nil (fun r _ => r = .sc (.bool true))) (hr : RepL ⟨fun _ => ⟨none, 0, 0, 0⟩, fun _ => False⟩ 0 (fun b => b < w.heap.size) w pargs vals) :
    Calls P f vals.toArray w fun e w' => e = .returned (.bool true) ∧ RowKit.Below w.heap.size w w' := by
  have sm : Sim ⟨fun _ => ⟨none, 0, 0, 0⟩, fun _ => False⟩ Heap.nil w := ⟨fun id h => by simp [Heap.nil] at h, fun id o h => by simp [Heap.nil] at h, fun i j h => by simp [Heap.nil] at h, fun b h => h.elim, fun id h => by simp [Heap.nil] at h⟩
  have fz0 : ∀ b, b < w.heap.size → Fz ⟨fun _ => ⟨none, 0, 0, 0⟩, fun _ => False⟩ Heap.nil w b := fun b hb => ⟨hb, fun id h => by simp [Heap.nil] at h, fun h => h⟩
  have hr' : RepL ⟨fun _ => ⟨none, 0, 0, 0⟩, fun _ => False⟩ Heap.nil.next (Fz ⟨fun _ => ⟨none, 0, 0, 0⟩, fun _ => False⟩ Heap.nil w) w pargs vals :=
    RepL.mv ⟨Nat.le_refl _, fun _ _ _ => rfl, fun b hb => ⟨fz0 b hb, rfl⟩⟩ _ _ hr
  refine (Goes.body hb (hc _ w vals sm hr')).mono ?_
  rintro e w' ⟨r, h', β', v, rfl, rfl, sm', hrep, ex⟩
  simp only [RepH, Rep] at hrep
  subst hrep
  exact ⟨rfl, ⟨ex.os, ex.tape, ex.output, ex.size, fun k hk => (ex.fz k (fz0 k hk)).2⟩⟩
/-- a heap that holds one package variable, an int between lo and hi -/
def heapG (g : Nat) (lo hi : Int) : Heap := ⟨g + 1, fun i => if i = g then some (.glb g lo hi) else none⟩
theorem law_callsG {f : FuncId} {pargs : List PV} {w : World} {vals : List Value} {g : Nat} {i lo hi : Int} (hg : w.cell? ⟨g, 0, none⟩ = some (.int .i64 i)) (hlo : lo ≤ i) (hhi : i ≤ hi) (hb : hasBody P f = true) (hc : PCall P f pargs (heapG g lo hi) (fun r _ => r = .sc (.bool true)))
    (hr : RepL ⟨fun _ => ⟨none, 0, 0, 0⟩, fun _ => False⟩ 0 (fun b => b < w.heap.size) w pargs vals) :
    Calls P f vals.toArray w fun e w' => e = .returned (.bool true) ∧ RowKit.Below w.heap.size w w' := by
  have hlt : g < w.heap.size := by
    unfold World.cell? at hg
    split at hg
    · rename_i hh; exact (Array.getElem?_eq_some_iff.1 hh).1
    · simp at hg
  have fz0 : ∀ b, b < w.heap.size → Fz ⟨fun _ => ⟨none, 0, 0, 0⟩, fun _ => False⟩ (heapG g lo hi) w b := fun b hb => ⟨hb, fun id h => by simp, fun h => h⟩
  have obj : ∀ id o, (heapG g lo hi).obj id = some o → id = g ∧ o = .glb g lo hi := by
    intro id o ho
    simp only [heapG] at ho
    split at ho
    · rename_i he; simp at ho; exact ⟨he, ho.symm⟩
    · simp at ho
  have objS : ∀ id, ((heapG g lo hi).obj id).isSome = true → id = g := fun id hs => (obj id _ (Option.eq_some_of_isSome hs)).1
  have sm : Sim ⟨fun _ => ⟨none, 0, 0, 0⟩, fun _ => False⟩ (heapG g lo hi) w := by
    refine ⟨fun id h => ?_, fun id o h => ?_, fun i j h1 h2 => ?_, fun b h => h.elim, fun id h b hb => by simp at hb⟩
    · rw [objS id h]; simp [heapG]
    · obtain ⟨rfl, rfl⟩ := obj id o h
      simp only [ObjOk]
      exact ⟨trivial, fz0 _ hlt, i, hlo, hhi, hg⟩
    · intro b hb; simp at hb
  have hr' : RepL ⟨fun _ => ⟨none, 0, 0, 0⟩, fun _ => False⟩ (heapG g lo hi).next (Fz ⟨fun _ => ⟨none, 0, 0, 0⟩, fun _ => False⟩ (heapG g lo hi) w) w pargs vals :=
    RepL.mv ⟨Nat.zero_le _, fun _ _ _ => rfl, fun b hb => ⟨fz0 b hb, rfl⟩⟩ _ _ hr
  refine (Goes.body hb (hc _ w vals sm hr')).mono ?_
  rintro e w' ⟨r, h', β', v, rfl, rfl, sm', hrep, ex⟩
  simp only [RepH, Rep] at hrep
  subst hrep
  exact ⟨rfl, ⟨ex.os, ex.tape, ex.output, ex.size, fun k hk => (ex.fz k (fz0 k hk)).2⟩⟩
theorem PCall.mono {f : FuncId} {args : List PV} {h : Heap} {K K' : PV → Heap → Prop} (hc : PCall P f args h K) (hk : ∀ r h', K r h' → K' r h') : PCall P f args h K' :=
  fun β w vals sm hr => (hc β w vals sm hr).mono fun _ _ ⟨r, h', β', v, h1, h2, h3⟩ => ⟨r, h', β', v, h1, hk _ _ h2, h3⟩
end
end Go.AM
