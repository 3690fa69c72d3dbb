/- Regions that draw their order, variables under numbers of their own: the model's weakest precondition. -/
import Derived.Test.YtdnpmfjfgamaeaaGreatAmFl3
set_option linter.unusedVariables false
set_option linter.unusedSimpArgs false
set_option linter.unusedSectionVars false
namespace Go.AM
section
variable {P : Program} {ow : Nat → Bool} {wf : FuncId → Bool} {n : Nat} {ops : List Oper} {base : Nat} {sk : Nat → Slots} {hk : Nat → Heap} {vk : Nat → PV}
theorem pS_cut {S : Nat → Bool} {j : Nat} {H : Heap} {ob : Nat → AObj} : ovl H base ob (pS ow wf ops sk S j) = ovl H base ob (fun f => decide (f < ops.length) && pS ow wf ops sk S j f) := ovl_congr fun f => by
  by_cases hf : f < ops.length
  · simp [hf]
  · have : wfl ow wf ops sk f = false := by
      cases hx : wfl ow wf ops sk f with
      | false => rfl
      | true => exact (hf (wfl_lt hx)).elim
    simp [pS, this]
theorem any_sound2 (hd : DOk2 ow wf ops) (tr : Tr2 P ow wf n ops base 0 sk hk vk) (h0 : ∀ f, alB ops f = true → (hk 0).obj (base + f) = none) {K : Slots → Heap → Prop} (hK : K (sk ops.length) (hk ops.length)) {β0 : Env} {hb : Heap} {w0 : World} (hbn : hb.next ≤ base) {Q : Exit → Act → World → Prop}
    (hk' : ∀ a' w', To n β0 hb w0 K a' w' → Q .normal a' w') :
    ∀ (fuel : Nat) (listed : Array Bool) (β : Env) (a : Act) (w : World), listed.size = ops.length → Closed ops (fun j => listed.getD j false) → miss (fun j => listed.getD j false) ops.length ≤ fuel →
      St n β (valS ops sk fun j => listed.getD j false) (heapR P ow wf ops base sk hk fun j => listed.getD j false) a w →
      Ext β0 hb w0 β (heapR P ow wf ops base sk hk fun j => listed.getD j false) w →
      base + ops.length ≤ (heapR P ow wf ops base sk hk fun j => listed.getD j false).next →
      (∀ f, f < ops.length → listed.getD f false = false → (β (base + f)).b = none) → wpAny P .any ops.toArray Q fuel listed a w := by
  have fin : ∀ (listed : Array Bool) (β : Env) (a : Act) (w : World), (∀ j, j < ops.length → listed.getD j false = true) →
      St n β (valS ops sk fun j => listed.getD j false) (heapR P ow wf ops base sk hk fun j => listed.getD j false) a w →
      Ext β0 hb w0 β (heapR P ow wf ops base sk hk fun j => listed.getD j false) w → Q .normal a w := by
    intro listed β a w hall st ex
    have e1 : valS ops sk (fun j => listed.getD j false) = sk ops.length := by
      funext t
      obtain ⟨h1, h2, h3⟩ := lastOf_spec (fun j => listed.getD j false && wrB ops t j) ops.length
      unfold valS
      generalize lastOf (fun j => listed.getD j false && wrB ops t j) ops.length = m at *
      have := tr.slot_const (t := t) (i := m) (ops.length - m) (by omega) (fun j h5 h6 => by
        have := h3 j h5 (by omega)
        rw [hall j (by omega), Bool.true_and] at this; exact this)
      rw [show m + (ops.length - m) = ops.length by omega] at this
      exact this.symm
    have e2 : heapR P ow wf ops base sk hk (fun j => listed.getD j false) = hk ops.length := by
      rw [tr.heap_at (S := fun j => listed.getD j false) (j := ops.length) (lastOf_spec _ _).1 (Nat.le_refl _) (fun i a c => MS_spec a c (hall i c)) (fun f a c _ => hall f c)]
      refine ovl_none fun f => ?_
      by_cases hf : ops.length ≤ f
      · have : wfl ow wf ops sk f = false := by
          cases hx : wfl ow wf ops sk f with
          | false => rfl
          | true => have := wfl_lt hx; omega
        simp [pS, this]
      · simp [pS, hf]
    rw [e1, e2] at st
    rw [e2] at ex
    exact hk' a w ⟨_, _, β, hK, st, ex⟩
  have rdy : ∀ (listed : Array Bool) (i : Nat), listed.size = ops.length → Closed ops (fun j => listed.getD j false) → i ∈ Region.ready .any ops.toArray listed → ∃ o, Rdy ops (fun j => listed.getD j false) i o := by
    intro listed i hsz hc hi
    simp only [Region.ready, List.mem_filter, List.mem_range, List.size_toArray, Bool.and_eq_true, Bool.not_eq_true', List.getElem?_toArray] at hi
    obtain ⟨h1, h2, h3⟩ := hi
    rw [List.getElem?_eq_getElem h1] at h3
    simp only [Option.map_some, Option.getD_some, Array.all_eq_true_iff_forall_mem, Bool.or_eq_true, Bool.not_eq_true'] at h3
    refine ⟨_, List.getElem?_eq_getElem h1, ?_, hc, fun e he hb => ?_⟩
    · rw [Array.getD_eq_getD_getElem?, Array.getElem?_eq_getElem (by omega)] at h2 ⊢
      simpa using h2
    · rcases h3 e (Array.mem_toList_iff.1 he) with h4 | h4
      · rw [hb] at h4; simp at h4
      · exact h4
  have noRdy : ∀ (listed : Array Bool), listed.size = ops.length → Region.ready .any ops.toArray listed = [] → ∀ j, j < ops.length → listed.getD j false = true := by
    intro listed hsz hr j
    induction j using Nat.strongRecOn with
    | _ j ih =>
      intro hj
      cases hs : listed.getD j false with
      | true => rfl
      | false =>
        have hm : j ∈ Region.ready .any ops.toArray listed := by
          simp only [Region.ready, List.mem_filter, List.mem_range, List.size_toArray, Bool.and_eq_true, Bool.not_eq_true', List.getElem?_toArray]
          refine ⟨hj, ?_, ?_⟩
          · rw [Array.getD_eq_getD_getElem?, Array.getElem?_eq_getElem (by omega)] at hs ⊢
            simpa using hs
          · rw [List.getElem?_eq_getElem hj]
            simp only [Option.map_some, Option.getD_some, Array.all_eq_true_iff_forall_mem, Bool.or_eq_true, Bool.not_eq_true']
            intro e he
            cases hb : Region.binds .any e with
            | false => exact .inl rfl
            | true =>
              have hlt := hd.back j _ (List.getElem?_eq_getElem hj) e (Array.mem_toList_iff.2 he) hb
              exact .inr (ih e.on hlt (by omega))
        rw [hr] at hm; simp at hm
  intro fuel
  induction fuel with
  | zero =>
    intro listed β a w hsz hc hm st ex hnx hho
    have hall := all_of_miss (S := fun j => listed.getD j false) ops.length (by omega)
    refine ⟨?_, fin listed β a w hall st ex⟩
    apply List.eq_nil_iff_forall_not_mem.2
    intro i hi
    obtain ⟨o, r⟩ := rdy listed i hsz hc hi
    have := hall i (List.getElem?_eq_some_iff.1 r.at_).1
    have hn := r.new
    rw [this] at hn; simp at hn
  | succ fuel ih =>
    intro listed β a w hsz hc hm st ex hnx hho
    refine ⟨fun hr => fin listed β a w (noRdy listed hsz hr) st ex, fun i hi => ?_⟩
    obtain ⟨o, r⟩ := rdy listed i hsz hc hi
    have hil : i < ops.length := (List.getElem?_eq_some_iff.1 r.at_).1
    have hs' : (listed.setIfInBounds i true).getD i false = true := by
      rw [Array.getD_eq_getD_getElem?, Array.getElem?_setIfInBounds_self_of_lt (by omega)]; rfl
    have ho : ∀ j, j ≠ i → (listed.setIfInBounds i true).getD j false = listed.getD j false := by
      intro j hj
      rw [Array.getD_eq_getD_getElem?, Array.getElem?_setIfInBounds_ne (Ne.symm hj), ← Array.getD_eq_getD_getElem?]
    have hc' : Closed ops (fun j => (listed.setIfInBounds i true).getD j false) := by
      intro j q hq hj e he hb
      by_cases heq : e.on = i
      · simp only [heq]; exact hs'
      · simp only
        rw [ho _ heq]
        by_cases hji : j = i
        · subst hji
          have := r.at_
          rw [hq] at this; simp at this; subst this
          exact r.before e he hb
        · simp only at hj
          rw [ho j hji] at hj
          exact hc j q hq hj e he hb
    have hm' : miss (fun j => (listed.setIfInBounds i true).getD j false) ops.length ≤ fuel := by
      have := miss_set (S := fun j => listed.getD j false) (S' := fun j => (listed.setIfInBounds i true).getD j false) r.new hs' (fun j hj => (ho j hj).symm) ops.length hil
      omega
    obtain ⟨hdst, b, hb, hb1, hb2⟩ := tr.step i o (Nat.zero_le _) r.at_
    have hlook : ∀ t, t ∈ looks ops o → valS ops sk (fun j => listed.getD j false) t = sk i t := fun t ht => r.slot2 hd tr ht
    have hwant := wanted_sound st (o := o) (ops := ops) (by rw [wantedB_congr hlook]; exact hb)
    have hnext := fun {x : PV} (hx : sk (i + 1) = updO (sk i) o.dst x) => r.next2 (S' := fun j => (listed.setIfInBounds i true).getD j false) hd tr hs' ho hx
    have ho2 : ∀ j, j ≠ i → (fun j => (listed.setIfInBounds i true).getD j false) j = (fun j => listed.getD j false) j := ho
    have hho' : ∀ f, f < ops.length → (listed.setIfInBounds i true).getD f false = false → f ≠ i ∧ (β (base + f)).b = none := by
      intro f hf hfs
      by_cases hfi : f = i
      · rw [hfi, hs'] at hfs; simp at hfs
      · exact ⟨hfi, hho f hf (by rw [← ho f hfi]; exact hfs)⟩
    unfold wpOp
    simp only [List.getElem?_toArray, r.at_]
    rw [hwant]
    cases b with
    | false =>
      obtain ⟨e1, e2⟩ := hb1 rfl
      simp only [Bool.false_eq_true, if_false]
      have st' := st.undef (d := o.dst) hdst
      rw [hnext e1] at st'
      have hwdf : wdB ow wf ops sk i = false := by
        cases hx : wdB ow wf ops sk i with
        | false => rfl
        | true =>
          obtain ⟨q, hq, _, hqw⟩ := wdB_iff.1 hx
          rw [r.at_] at hq; simp at hq; subst hq
          rw [hb] at hqw; simp at hqw
      have eh := heapR_same (P := P) (base := base) (hk := hk) hwdf ho2
      exact ih _ β _ w (by simpa using hsz) hc' hm' (by rw [eh]; exact st') (by rw [eh]; exact ex) (by rw [eh]; exact hnx) (fun f hf hfs => (hho' f hf hfs).2)
    | true =>
      obtain ⟨e1, e2, e3⟩ := hb2 rfl
      simp only [if_true]
      left
      have hops : ∀ t, .tmp t ∈ o.op.operands → sk i t = valS ops sk (fun j => listed.getD j false) t := fun t ht => (hlook t (by
        simp only [looks, List.mem_append, List.mem_filterMap]
        exact .inl (.inl ⟨.tmp t, Array.mem_toList_iff.2 ht, rfl⟩))).symm
      have pOk : ∀ j, j ≤ ops.length → ∀ f, pS ow wf ops sk (fun j => listed.getD j false) j f = true → (hk j).obj (base + f) = none ∧ f < ops.length ∧ ∃ z rows, obR P ops f = .arr z rows ∧ rows ≠ [] := by
        intro j hj f hf
        unfold pS at hf
        simp only [Bool.and_eq_true, decide_eq_true_eq] at hf
        have hfl := hf.2
        obtain ⟨_, _, zs, _, _, _, _, hob, _⟩ := tr.stepF hfl
        have hal : alB ops f = true := by unfold wfl at hfl; simp only [Bool.and_eq_true] at hfl; exact hfl.2
        exact ⟨tr.noneH h0 j hj f hf.1.1 hal, wfl_lt hf.2, _, _, hob, by simp⟩
      cases hiw : isW ow wf o with
      | true =>
        have hwd : wdB ow wf ops sk i = true := wdB_iff.2 ⟨o, r.at_, hiw, hb⟩
        cases hal : alB ops i with
        | true =>
          have hwf : wfl ow wf ops sk i = true := by unfold wfl; rw [hwd, hal]; rfl
          obtain ⟨q, t, zs, hq, hop, hz, hpos, hob, hv, _⟩ := tr.stepF hwf
          rw [r.at_] at hq; simp at hq; subst hq
          obtain ⟨eh, hno⟩ := r.nextF (P := P) (base := base) (hk := hk) hd tr h0 hwf hs' ho2
          rw [hv] at e1
          refine St.float (P := P) hz (show base + i < _ by omega) hno (hho i hil r.new) st hop hdst fun β' a' w' st' hbeta hos htape hout hsize hX hmem hfz => ?_
          rw [hnext e1, ← hob, ← eh] at st'
          have hrn : (heapR P ow wf ops base sk hk fun j => (listed.setIfInBounds i true).getD j false).next = (heapR P ow wf ops base sk hk fun j => listed.getD j false).next := by rw [eh]; rfl
          refine ih _ β' a' w' (by simpa using hsz) hc' hm' st' ?_ (by rw [hrn]; exact hnx) (fun f hf hfs => ?_)
          · refine ⟨hos.trans ex.os, htape.trans ex.tape, hout.trans ex.output, Nat.le_trans ex.size hsize, by rw [hrn]; exact ex.next, fun id hid => ?_, hX.trans ex.X, fun c hc hl => ?_, fun c hc => ?_⟩
            · rw [hbeta id (by omega)]; exact ex.beta id hid
            · rw [hmem c (Nat.lt_of_lt_of_le hl ex.size)]; exact ex.xh c hc hl
            · obtain ⟨g1, g2⟩ := ex.fz c hc
              refine ⟨?_, by rw [hmem c g1.1]; exact g2⟩
              have := hfz c g1
              rw [← hob, ← eh] at this
              exact this
          · obtain ⟨g1, g2⟩ := hho' f hf hfs
            rw [hbeta _ (by omega)]; exact g2
        | false =>
          have hwn : wnf ow wf ops sk i = true := by unfold wnf; rw [hwd, hal]; rfl
          have hdo : Does P ow o (pev (sk i)) (hk i) (vk i) (hk (i + 1)) := by
            have := e2
            unfold DoesR at this
            split at this
            · rename_i t hop
              unfold alB at hal
              rw [r.at_] at hal
              simp [isAl, hop] at hal
            · exact this
          have eS := r.doesW (P := P) (base := base) hd tr hwn
          have eS' := r.nextW (P := P) (base := base) (hk := hk) hd hwn hs' ho2
          rw [eS, pS_cut] at st
          have hnn : (hk i).next = (heapR P ow wf ops base sk hk fun j => listed.getD j false).next := by rw [eS]; rfl
          obtain ⟨βX, stX, back⟩ := St.hides (fun f hf => by
            obtain ⟨g1, g2, g3⟩ := pOk i (by omega) f hf
            exact ⟨by rw [hnn]; omega, g1, g3⟩) ops.length st
          refine Does.wp stX hdst (Does_congr hops hdo) (fun a' w' ht => ?_)
          obtain ⟨s', h', β', ⟨rfl, rfl⟩, st', ex'⟩ := ht
          obtain ⟨β'', st'', ex''⟩ := back β' _ _ a' w' st' ex' (fun f hf => by
            unfold pS at hf
            simp only [Bool.and_eq_true, decide_eq_true_eq] at hf
            have hal' : alB ops f = true := by have h9 := hf.2; unfold wfl at h9; simp only [Bool.and_eq_true] at h9; exact h9.2
            have hfi : f ≠ i := by intro e; subst e; rw [hal] at hal'; simp at hal'
            exact tr.noneH h0 (i + 1) (by omega) f (by omega) hal')
          rw [hnext e1, ← pS_cut, ← eS'] at st''
          rw [← pS_cut, ← pS_cut, ← eS', ← eS] at ex''
          refine ih _ β'' a' w' (by simpa using hsz) hc' hm' st'' (ex.trans ex'') (Nat.le_trans hnx ex''.next) (fun f hf hfs => ?_)
          rw [ex''.beta _ (by omega)]
          exact (hho' f hf hfs).2
      | false =>
        have hwd : wdB ow wf ops sk i = false := by
          cases hx : wdB ow wf ops sk i with
          | false => rfl
          | true =>
            obtain ⟨q, hq, hqw, _⟩ := wdB_iff.1 hx
            rw [r.at_] at hq; simp at hq; subst hq
            rw [hiw] at hqw; simp at hqw
        obtain ⟨j, hj, hMj, eS, hdo⟩ := r.doesN (P := P) (base := base) hd tr hiw hb
        have eh := heapR_same (P := P) (base := base) (hk := hk) hwd ho2
        rw [eS, pS_cut] at st
        have hnn : (hk j).next = (heapR P ow wf ops base sk hk fun j => listed.getD j false).next := by rw [eS]; rfl
        obtain ⟨βX, stX, back⟩ := St.hides (fun f hf => by
          obtain ⟨g1, g2, g3⟩ := pOk j hj f hf
          exact ⟨by rw [hnn]; omega, g1, g3⟩) ops.length st
        refine Does.wp stX hdst (Does_congr hops hdo) (fun a' w' ht => ?_)
        obtain ⟨s', h', β', ⟨rfl, rfl⟩, st', ex'⟩ := ht
        obtain ⟨β'', st'', ex''⟩ := back β' _ _ a' w' st' ex' (fun f hf => (pOk j hj f hf).1)
        rw [hnext e1, ← pS_cut, ← eS, ← eh] at st''
        rw [← pS_cut, ← eS] at ex''
        refine ih _ β'' a' w' (by simpa using hsz) hc' hm' st'' (by rw [eh]; exact ex.trans ex'') (by rw [eh]; exact Nat.le_trans hnx ex''.next) (fun f hf hfs => ?_)
        rw [ex''.beta _ (by omega)]
        exact (hho' f hf hfs).2

theorem dwp2_sound {id : Nat} (hm : P.follows .mixedOrders = true) {β : Env} {s : Slots} {h : Heap} {a : Act} {w : World} {K : Slots → Heap → Prop} {Q : Exit → Act → World → Prop} (st : St n β s h a w) (hw : dwp2 P ow wf n ops K s h)
    (hk' : ∀ a' w', To n β h w K a' w' → Q .normal a' w') : (Code.region id ops.toArray true).wp P Q a w := by
  obtain ⟨h1, h2⟩ := hw
  have hd := DOk2.of h1
  obtain ⟨sk, hk, vk, e1, e2, hK, tr, _, _⟩ := drun2_tr ops 0 [] [] s _ (by simp) h2
  rw [Nat.zero_add] at hK
  refine wp_region_any hm ?_
  obtain ⟨s1, s2⟩ := st.sim.drew
  have std : St n β s h a w.drew := ⟨s1, fun t => s2.rep (st.rep t), st.size, st.defers⟩
  obtain ⟨β0, st0, ex0, hnone0⟩ := std.bump ops.length
  have hS : ∀ j, (Array.replicate ops.toArray.size false).getD j false = false := by
    intro j; rw [Array.getD_eq_getD_getElem?, Array.getElem?_replicate]; split <;> rfl
  have emp : ∀ (p : Nat → Bool), (fun j => ((Array.replicate ops.toArray.size false).getD j false && p j)) = fun _ => false := by
    intro p; funext j; rw [hS]; rfl
  have l0 : lastOf (fun _ => false) ops.length = 0 := lastOf_eq (Nat.zero_le _) (.inl rfl) (fun _ _ _ => rfl)
  have hval : valS ops sk (fun j => (Array.replicate ops.toArray.size false).getD j false) = s := by
    funext t; unfold valS; rw [emp, l0, e1]
  have hheap : heapR P ow wf ops h.next sk hk (fun j => (Array.replicate ops.toArray.size false).getD j false) = h.bump ops.length := by
    unfold heapR
    rw [ovl_none (fun f => by unfold pS; simp only [hS, Bool.and_false, Bool.false_and])]
    unfold MS
    rw [emp, l0, e2]; rfl
  refine any_sound2 hd tr (fun f _ => ?_) hK (hb := h) (β0 := β) (w0 := w) (Nat.le_refl _) hk' _ _ β0 a w.drew (by simp) (fun j o _ hj => by simp only [hS] at hj; simp at hj) ?_ ?_ ?_ ?_ ?_
  · rw [e2]
    cases ho : h.obj (h.next + f) with
    | none => rfl
    | some o => have := st.sim.lt (h.next + f) (by rw [ho]; rfl); omega
  · have : ∀ m, miss (fun j => (Array.replicate ops.toArray.size false).getD j false) m ≤ m := by
      intro m
      induction m with
      | zero => exact Nat.le_refl _
      | succ m ih => unfold miss; split <;> omega
    simpa using this ops.length
  · rw [hval, hheap]; exact st0
  · rw [hheap]; exact s2.trans ex0
  · rw [hheap]; exact Nat.le_refl _
  · intro f hf _
    exact hnone0 _ (by omega)
end
end Go.AM
