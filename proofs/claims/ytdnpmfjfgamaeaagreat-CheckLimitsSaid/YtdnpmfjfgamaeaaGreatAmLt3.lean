/- Regions that draw their order, changes of single objects: the model's weakest precondition. -/
import Derived.Test.YtdnpmfjfgamaeaaGreatAmLt2
import Derived.Orders
set_option linter.unusedVariables false
set_option linter.unusedSimpArgs false
set_option linter.unusedSectionVars false
namespace Go.AM
section
variable {P : Program} {ow : Nat → Bool} {wf : FuncId → Bool} {n : Nat} {ops : List Oper} {base : Nat} {sk : Nat → Slots} {hk : Nat → Heap} {vk : Nat → PV} {lt : Nat → Option (Nat × AObj)} {br : Nat → Bool}
theorem kill_nil {H : Heap} : killL H [] = H := heap_ext rfl fun j => by simp [killL]
theorem any_sound3 (hd : DOk3 ops) (tr : Facts P ow wf n ops base sk hk vk lt br) (h0 : ∀ f, (hk 0).obj (base + f) = none) {K : Slots → Heap → Prop} (hK : K (sk ops.length) (hk ops.length)) {β0 : Env} {hb : Heap} {w0 : World} (hbn : hb.next ≤ base) {Q : Exit → Act → World → Prop}
    (hk' : ∀ a' w', To n β0 hb w0 K a' w' → Q .normal a' w') :
    ∀ (fuel : Nat) (listed : Array Bool) (β : Env) (a : Act) (w : World), listed.size = ops.length → Closed ops (fun j => listed.getD j false) → miss (fun j => listed.getD j false) ops.length ≤ fuel →
      St n β (valS ops sk fun j => listed.getD j false) (Hs lt br ops hk fun j => listed.getD j false) a w →
      Ext β0 hb w0 β (Hs lt br ops hk fun j => listed.getD j false) w →
      base + ops.length ≤ (Hs lt br ops hk fun j => listed.getD j false).next →
      (∀ f, f < ops.length → listed.getD f false = false → (β (base + f)).b = none) → wpAny P .any ops.toArray Q fuel listed a w := by
  have fin : ∀ (listed : Array Bool) (β : Env) (a : Act) (w : World), (∀ j, j < ops.length → listed.getD j false = true) →
      St n β (valS ops sk fun j => listed.getD j false) (Hs lt br ops hk fun j => listed.getD j false) a w →
      Ext β0 hb w0 β (Hs lt br ops hk fun j => listed.getD j false) w → Q .normal a w := by
    intro listed β a w hall st ex
    have e1 : valS ops sk (fun j => listed.getD j false) = sk ops.length := by
      funext t
      obtain ⟨h1, h2, h3⟩ := lastOf_spec (fun j => listed.getD j false && wrB ops t j) ops.length
      unfold valS
      generalize lastOf (fun j => listed.getD j false && wrB ops t j) ops.length = m at *
      have := tr.slot_const (t := t) (i := m) (ops.length - m) (by omega) (fun j h5 h6 => by
        have := h3 j h5 (by omega)
        rw [hall j (by omega), Bool.true_and] at this; exact this)
      rw [show m + (ops.length - m) = ops.length by omega] at this
      exact this.symm
    have e2 : Hs lt br ops hk (fun j => listed.getD j false) = hk ops.length := by
      have hM : MB br ops (fun j => listed.getD j false) ≤ ops.length := MB_le
      have h1 := tr.seg (M := MB br ops (fun j => listed.getD j false)) (ops.length - MB br ops (fun j => listed.getD j false)) (by omega) (fun j a c => MB_spec a (by omega) (hall j (by omega)))
      rw [show MB br ops (fun j => listed.getD j false) + (ops.length - MB br ops (fun j => listed.getD j false)) = ops.length by omega] at h1
      have hdl : dl lt br ops (fun j => listed.getD j false) = [] := by
        apply List.eq_nil_iff_forall_not_mem.2
        intro id hid
        obtain ⟨f, q, k1, k2, k3, _⟩ := mem_dl.1 hid
        have hh : listed.getD f false = true := hall f k1
        simp only [hh] at k3
        simp at k3
      unfold Hs
      rw [hdl, h1, kill_nil]
      unfold Xs
      exact lob_congr _ fun f hf _ => by
        have hh : listed.getD f false = true := hall f hf
        simp only [hh, Bool.and_true]
    rw [e1, e2] at st
    rw [e2] at ex
    exact hk' a w ⟨_, _, β, hK, st, ex⟩
  have rdy : ∀ (listed : Array Bool) (i : Nat), listed.size = ops.length → Closed ops (fun j => listed.getD j false) → i ∈ Region.ready .any ops.toArray listed → ∃ o, Rdy ops (fun j => listed.getD j false) i o := by
    intro listed i hsz hc hi
    simp only [Region.ready, List.mem_filter, List.mem_range, List.size_toArray, Bool.and_eq_true, Bool.not_eq_true', List.getElem?_toArray] at hi
    obtain ⟨h1, h2, h3⟩ := hi
    rw [List.getElem?_eq_getElem h1] at h3
    simp only [Option.map_some, Option.getD_some, Array.all_eq_true_iff_forall_mem, Bool.or_eq_true, Bool.not_eq_true'] at h3
    refine ⟨_, List.getElem?_eq_getElem h1, ?_, hc, fun e he hb => ?_⟩
    · rw [Array.getD_eq_getD_getElem?, Array.getElem?_eq_getElem (by omega)] at h2 ⊢
      simpa using h2
    · rcases h3 e (Array.mem_toList_iff.1 he) with h4 | h4
      · rw [hb] at h4; simp at h4
      · exact h4
  have noRdy : ∀ (listed : Array Bool), listed.size = ops.length → Region.ready .any ops.toArray listed = [] → ∀ j, j < ops.length → listed.getD j false = true := by
    intro listed hsz hr j
    induction j using Nat.strongRecOn with
    | _ j ih =>
      intro hj
      cases hs : listed.getD j false with
      | true => rfl
      | false =>
        have hm : j ∈ Region.ready .any ops.toArray listed := by
          simp only [Region.ready, List.mem_filter, List.mem_range, List.size_toArray, Bool.and_eq_true, Bool.not_eq_true', List.getElem?_toArray]
          refine ⟨hj, ?_, ?_⟩
          · rw [Array.getD_eq_getD_getElem?, Array.getElem?_eq_getElem (by omega)] at hs ⊢
            simpa using hs
          · rw [List.getElem?_eq_getElem hj]
            simp only [Option.map_some, Option.getD_some, Array.all_eq_true_iff_forall_mem, Bool.or_eq_true, Bool.not_eq_true']
            intro e he
            cases hb : Region.binds .any e with
            | false => exact .inl rfl
            | true =>
              have hlt := hd.back j _ (List.getElem?_eq_getElem hj) e (Array.mem_toList_iff.2 he) hb
              exact .inr (ih e.on hlt (by omega))
        rw [hr] at hm; simp at hm
  intro fuel
  induction fuel with
  | zero =>
    intro listed β a w hsz hc hm st ex hnx hho
    have hall := all_of_miss (S := fun j => listed.getD j false) ops.length (by omega)
    refine ⟨?_, fin listed β a w hall st ex⟩
    apply List.eq_nil_iff_forall_not_mem.2
    intro i hi
    obtain ⟨o, r⟩ := rdy listed i hsz hc hi
    have := hall i (List.getElem?_eq_some_iff.1 r.at_).1
    have hn := r.new
    rw [this] at hn; simp at hn
  | succ fuel ih =>
    intro listed β a w hsz hc hm st ex hnx hho
    refine ⟨fun hr => fin listed β a w (noRdy listed hsz hr) st ex, fun i hi => ?_⟩
    obtain ⟨o, r⟩ := rdy listed i hsz hc hi
    have hil : i < ops.length := (List.getElem?_eq_some_iff.1 r.at_).1
    have hs' : (listed.setIfInBounds i true).getD i false = true := by
      rw [Array.getD_eq_getD_getElem?, Array.getElem?_setIfInBounds_self_of_lt (by omega)]; rfl
    have ho : ∀ j, j ≠ i → (listed.setIfInBounds i true).getD j false = listed.getD j false := by
      intro j hj
      rw [Array.getD_eq_getD_getElem?, Array.getElem?_setIfInBounds_ne (Ne.symm hj), ← Array.getD_eq_getD_getElem?]
    have hc' : Closed ops (fun j => (listed.setIfInBounds i true).getD j false) := by
      intro j q hq hj e he hb
      by_cases heq : e.on = i
      · simp only [heq]; exact hs'
      · simp only
        rw [ho _ heq]
        by_cases hji : j = i
        · subst hji
          have := r.at_
          rw [hq] at this; simp at this; subst this
          exact r.before e he hb
        · simp only at hj
          rw [ho j hji] at hj
          exact hc j q hq hj e he hb
    have hm' : miss (fun j => (listed.setIfInBounds i true).getD j false) ops.length ≤ fuel := by
      have := miss_set (S := fun j => listed.getD j false) (S' := fun j => (listed.setIfInBounds i true).getD j false) r.new hs' (fun j hj => (ho j hj).symm) ops.length hil
      omega
    obtain ⟨hdst, b, hb, hb1, hb2⟩ := tr.step i o r.at_
    have hlook : ∀ t, t ∈ looks ops o → valS ops sk (fun j => listed.getD j false) t = sk i t := fun t ht => r.slot3 hd tr ht
    have hwant := wanted_sound st (o := o) (ops := ops) (by rw [wantedB_congr hlook]; exact hb)
    have hnext := fun {x : PV} (hx : sk (i + 1) = updO (sk i) o.dst x) => r.next3 (S' := fun j => (listed.setIfInBounds i true).getD j false) hd tr hs' ho hx
    have ho2 : ∀ j, j ≠ i → (fun j => (listed.setIfInBounds i true).getD j false) j = (fun j => listed.getD j false) j := ho
    have hho' : ∀ f, f < ops.length → (listed.setIfInBounds i true).getD f false = false → f ≠ i ∧ (β (base + f)).b = none := by
      intro f hf hfs
      by_cases hfi : f = i
      · rw [hfi, hs'] at hfs; simp at hfs
      · exact ⟨hfi, hho f hf (by rw [← ho f hfi]; exact hfs)⟩
    unfold wpOp
    simp only [List.getElem?_toArray, r.at_]
    rw [hwant]
    cases b with
    | false =>
      obtain ⟨e1, e2, e3, e4⟩ := hb1 rfl
      simp only [Bool.false_eq_true, if_false]
      have st' := st.undef (d := o.dst) hdst
      rw [hnext e1] at st'
      have eh := Hs_same (lt := lt) (br := br) (ops := ops) (hk := hk) e4 e3 ho2
      exact ih _ β _ w (by simpa using hsz) hc' hm' (by rw [eh]; exact st') (by rw [eh]; exact ex) (by rw [eh]; exact hnx) (fun f hf hfs => (hho' f hf hfs).2)
    | true =>
      obtain ⟨e1, e2, e3⟩ := hb2 rfl
      simp only [if_true]
      left
      have hops : ∀ t, .tmp t ∈ o.op.operands → sk i t = valS ops sk (fun j => listed.getD j false) t := fun t ht => (hlook t (by
        simp only [looks, List.mem_append, List.mem_filterMap]
        exact .inl (.inl ⟨.tmp t, Array.mem_toList_iff.2 ht, rfl⟩))).symm
      have fromTo : ∀ (β'' : Env) (a' : Act) (w' : World), St n β'' (valS ops sk fun j => (listed.setIfInBounds i true).getD j false) (Hs lt br ops hk fun j => (listed.setIfInBounds i true).getD j false) a' w' → Ext β (Hs lt br ops hk fun j => listed.getD j false) w β'' (Hs lt br ops hk fun j => (listed.setIfInBounds i true).getD j false) w' → wpAny P .any ops.toArray Q fuel (listed.setIfInBounds i true) a' w' := by
        intro β'' a' w' st'' ex''
        refine ih _ β'' a' w' (by simpa using hsz) hc' hm' st'' (ex.trans ex'') (Nat.le_trans hnx ex''.next) (fun f hf hfs => ?_)
        rw [ex''.beta _ (by omega)]
        exact (hho' f hf hfs).2
      cases hiw : isW ow wf o with
      | false =>
        obtain ⟨g1, g2, g3, g4⟩ := e2 hiw
        obtain ⟨q1, q2⟩ := r.quiet hd tr g2
        obtain ⟨ll, hll, hdo⟩ := g4 _ q1
        have q2 := q2 ll hll
        have eh := Hs_same (lt := lt) (br := br) (ops := ops) (hk := hk) g3 g2 ho2
        obtain ⟨βX, stX, back⟩ := St.hidesK st.sim.lt ll st
        rw [q2] at stX back
        refine Does.wp stX hdst (Does_congr hops hdo) (fun a' w' ht => ?_)
        obtain ⟨s', h', β', ⟨rfl, rfl⟩, st', ex'⟩ := ht
        obtain ⟨β'', st'', ex''⟩ := back β' _ _ a' w' st' ex' (fun j hj _ => by simp only [gx, killL]; rw [if_pos (by simpa using hj)])
        rw [← q2, putL_killL] at st'' ex''
        rw [hnext e1] at st''
        exact fromTo β'' a' w' (by rw [eh]; exact st'') (by rw [eh]; exact ex'')
      | true =>
        rcases e3 hiw with ⟨g1, g2, hdo, g4⟩ | ⟨g1, hA, ob, g2, g3, g4⟩ | ⟨g1, t, x, y, id, rr, ff, ob, hop, hx, g2, g3, g4, g5⟩
        · obtain ⟨H', hdo, hH, hk1⟩ := hdo
          obtain ⟨q1, q3⟩ := r.barrier (S' := fun j => (listed.setIfInBounds i true).getD j false) hd tr h0 g1 hH hk1 hs' ho2
          obtain ⟨βX, stX, back⟩ := St.hidesK st.sim.lt (kx ow ops lt i) st
          rw [q1] at stX back
          refine Does.wp stX hdst (Does_congr hops hdo) (fun a' w' ht => ?_)
          obtain ⟨s', h', β', ⟨rfl, rfl⟩, st', ex'⟩ := ht
          obtain ⟨β'', st'', ex''⟩ := back β' _ _ a' w' st' ex' (fun j hj _ => hH j hj)
          rw [q3] at st'' ex''
          rw [hnext e1] at st''
          exact fromTo β'' a' w' st'' ex''
        · obtain ⟨eh, hno⟩ := r.newA (S' := fun j => (listed.setIfInBounds i true).getD j false) hd tr h0 hA g2 hs' ho2
          have g3' : aop P ow (base + i) o (pev (valS ops sk fun j => listed.getD j false)) = some (vk i, ob) := by
            rw [← g3]
            unfold aop
            rw [eff_congr hops]
          refine St.floatA hA g3' (show base + i < _ by omega) hno (hho i hil r.new) st hdst fun β' a' w' st' hbeta hos htape hout hsize hX hmem hfz => ?_
          rw [hnext e1, ← eh] at st'
          have hrn : (Hs lt br ops hk fun j => (listed.setIfInBounds i true).getD j false).next = (Hs lt br ops hk fun j => listed.getD j false).next := by rw [eh]; rfl
          refine ih _ β' a' w' (by simpa using hsz) hc' hm' st' ?_ (by rw [hrn]; exact hnx) (fun f hf hfs => ?_)
          · refine ⟨hos.trans ex.os, htape.trans ex.tape, hout.trans ex.output, Nat.le_trans ex.size hsize, by rw [hrn]; exact ex.next, fun id hid => ?_, hX.trans ex.X, fun c hc hl => ?_, fun c hc => ?_⟩
            · have := ex.next
              rw [hbeta id (by omega) (by omega)]; exact ex.beta id hid
            · rw [hmem c (by rw [ex.X]; exact hc) (Nat.lt_of_lt_of_le hl ex.size)]; exact ex.xh c hc hl
            · obtain ⟨k1, k2⟩ := ex.fz c hc
              obtain ⟨k3, k4⟩ := hfz c k1
              rw [← eh] at k3
              exact ⟨k3, k4.trans k2⟩
          · obtain ⟨k1, k2⟩ := hho' f hf hfs
            rw [hbeta _ (by omega) (by omega)]; exact k2
        · have hnA : isA ow o = false := by unfold isA; rw [hop]
          obtain ⟨hM, hnd, hobj⟩ := r.stored tr hnA g2
          have eh := r.light (S' := fun j => (listed.setIfInBounds i true).getD j false) tr g2 hM hnd hs' ho2
          have hdo : Does P ow o (pev (sk i)) (Hs lt br ops hk fun j => listed.getD j false) (vk i) ((Hs lt br ops hk fun j => listed.getD j false).set id ob) := by
            unfold Does
            rw [hop, g3] at g5
            rw [hop]
            exact store_local hx g5 hobj
          refine Does.wp st hdst (Does_congr hops hdo) (fun a' w' ht => ?_)
          obtain ⟨s', h', β', ⟨rfl, rfl⟩, st', ex'⟩ := ht
          rw [← eh] at st' ex'
          rw [hnext e1] at st'
          exact fromTo β' a' w' st' ex'

theorem dwp3_sound {id : Nat} (hm : P.follows .mixedOrders = true) {β : Env} {s : Slots} {h : Heap} {a : Act} {w : World} {K : Slots → Heap → Prop} {Q : Exit → Act → World → Prop} (st : St n β s h a w) (hw : dwp3 P ow wf n ops K s h)
    (hk' : ∀ a' w', To n β h w K a' w' → Q .normal a' w') : (Code.region id ops.toArray true).wp P Q a w := by
  obtain ⟨h1, sk, hk, vk, lt, br, e1, e2, hK, tr⟩ := hw
  have hd := DOk3.of h1
  refine wp_region_any hm ?_
  obtain ⟨s1, s2⟩ := st.sim.drew
  have std : St n β s h a w.drew := ⟨s1, fun t => s2.rep (st.rep t), st.size, st.defers⟩
  obtain ⟨β0, st0, ex0, hnone0⟩ := std.bump ops.length
  have hS : ∀ j, (Array.replicate ops.toArray.size false).getD j false = false := by
    intro j; rw [Array.getD_eq_getD_getElem?, Array.getElem?_replicate]; split <;> rfl
  have emp : ∀ (p : Nat → Bool), (fun j => ((Array.replicate ops.toArray.size false).getD j false && p j)) = fun _ => false := by
    intro p; funext j; rw [hS]; rfl
  have l0 : lastOf (fun _ => false) ops.length = 0 := lastOf_eq (Nat.zero_le _) (.inl rfl) (fun _ _ _ => rfl)
  have hval : valS ops sk (fun j => (Array.replicate ops.toArray.size false).getD j false) = s := by
    funext t; unfold valS; rw [emp, l0, e1]
  have hheap : Hs lt br ops hk (fun j => (Array.replicate ops.toArray.size false).getD j false) = h.bump ops.length := by
    have hM0 : MB br ops (fun j => (Array.replicate ops.toArray.size false).getD j false) = 0 := by unfold MB; rw [emp, l0]
    have hdl : dl lt br ops (fun j => (Array.replicate ops.toArray.size false).getD j false) = [] := by
      apply List.eq_nil_iff_forall_not_mem.2
      intro id hid
      obtain ⟨f, q, k1, k2, _⟩ := mem_dl.1 hid
      rw [hM0] at k2; omega
    unfold Hs
    rw [hdl, kill_nil]
    unfold Xs
    have h2 := lob_hi (lt := lt) (p := fun f => decide (MB br ops (fun j => (Array.replicate ops.toArray.size false).getD j false) ≤ f) && (fun j => (Array.replicate ops.toArray.size false).getD j false) f) (H := hk (MB br ops (fun j => (Array.replicate ops.toArray.size false).getD j false))) (m := 0) ops.length (fun f _ _ _ => by simp only [hS, Bool.and_false])
    rw [Nat.zero_add] at h2
    rw [h2, hM0]
    simp only [lob]
    rw [e2]; rfl
  refine any_sound3 hd tr (fun f => ?_) hK (hb := h) (β0 := β) (w0 := w) (Nat.le_refl _) hk' _ _ β0 a w.drew (by simp) (fun j o _ hj => by simp only [hS] at hj; simp at hj) ?_ ?_ ?_ ?_ ?_
  · rw [e2]
    cases ho : h.obj (h.next + f) with
    | none => rfl
    | some o => have := st.sim.lt (h.next + f) (by rw [ho]; rfl); omega
  · have : ∀ m, miss (fun j => (Array.replicate ops.toArray.size false).getD j false) m ≤ m := by
      intro m
      induction m with
      | zero => exact Nat.le_refl _
      | succ m ih => unfold miss; split <;> omega
    simpa using this ops.length
  · rw [hval, hheap]; exact st0
  · rw [hheap]; exact s2.trans ex0
  · rw [hheap]; exact Nat.le_refl _
  · intro f hf _
    exact hnone0 _ (by omega)
end
end Go.AM
