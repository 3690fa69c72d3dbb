/- What the claim rests on, part 7: the abstract machine, contracts of the functions, plain data. -/
import Derived.Test.YtjlkapgpjamnkaaZc6
set_option linter.unusedVariables false
set_option linter.unusedSimpArgs false
set_option linter.unusedSectionVars false
namespace Go.Proofs.Ytjlkapgpjamnkaa
open Go.AM
set_option maxRecDepth 20000
theorem strR_nil : PV.bulkR (strRows []) = 0 := by simp [strRows, PV.bulkR]
theorem pmR_nil : PV.bulkR (pmRows []) = 0 := by simp [pmRows, PV.bulkR]
theorem exR_nil : PV.bulkR (Ex.rows []) = 0 := by simp [Ex.rows, PV.bulkR]
theorem fmR_nil : PV.bulkR (Fm.rows []) = 0 := by simp [Fm.rows, PV.bulkR]
theorem bulk_mk (op name : ByteArray) (args : List ByteArray) (params : List Pm) (exprs : List Ex) (kids : List Fm) : PV.bulkL (Fm.mk op name args params exprs kids).cells = op.size + name.size + PV.bulkR (strRows args) + PV.bulkR (pmRows params) + PV.bulkR (Ex.rows exprs) + PV.bulkR (Fm.rows kids) + 6 := by
 simp only [Fm.cells, PV.bulkL, PV.bulk]; omega
theorem bulk_kids (n : Fm) : PV.bulkR (Fm.rows (fkids n)) ≤ PV.bulkL n.cells := by
 obtain ⟨op, name, args, params, exprs, kids⟩ := n
 rw [bulk_mk]; simp only [fkids]; omega
theorem bulkF_app : ∀ l m : List Fm, PV.bulkR (Fm.rows (l ++ m)) = PV.bulkR (Fm.rows l) + PV.bulkR (Fm.rows m)
 | [], m => by simp [Fm.rows, PV.bulkR]
 | k :: l, m => by simp only [List.cons_append, Fm.rows, PV.bulkR, bulkF_app l m]; omega
theorem bulk_flat (o : ByteArray) : ∀ l : List Fm, PV.bulkR (Fm.rows (flatM o l)) ≤ PV.bulkR (Fm.rows l)
 | [] => by simp [flatM]
 | k :: l => by
  have h1 := bulk_flat o l
  have h2 := bulk_kids k
  have h3 : flatM o (k :: l) = (if bEq (opOf k) o = true then fkids k else [k]) ++ flatM o l := by simp only [flatM, List.flatMap_cons]
  rw [h3, bulkF_app]
  simp only [Fm.rows, PV.bulkR]
  split
  ·omega
  ·simp only [Fm.rows, PV.bulkR]; omega
theorem bulk_norms (s : Bool) : ∀ l : List Fm, (∀ k ∈ l, PV.bulkL (normalM k s).cells ≤ 4 * PV.bulkL k.cells) → PV.bulkR (Fm.rows (normalMs l s)) ≤ 4 * PV.bulkR (Fm.rows l)
 | [], _ => by simp [normalMs, Fm.rows, PV.bulkR]
 | k :: l, h => by
  have h1 := h k (by simp)
  have h2 := bulk_norms s l fun x hx => h x (by simp [hx])
  simp only [normalMs, Fm.rows, PV.bulkR]; omega
theorem ops_sz (a b : ByteArray) (s : Bool) (ha : a.size ≤ 6) (hb : b.size ≤ 6) : (dualM a b s).size ≤ 6 := by
 unfold dualM; split <;> assumption
theorem normalM_bulk : ∀ f, shapedF f = true → ∀ s, PV.bulkL (normalM f s).cells ≤ 4 * PV.bulkL f.cells := by
 have z0 : (⟨#[]⟩ : ByteArray).size = 0 := rfl
 have sN : opNot.size = 3 := rfl
 have sO : opOr.size = 2 := rfl
 have sL : opLt.size = 1 := rfl
 have sE : opLe.size = 2 := rfl
 have sQ : opEq.size = 1 := rfl
 have sA : opAnd.size = 3 := rfl
 have sI : opImp.size = 5 := rfl
 have sF : opAll.size = 6 := rfl
 have sX : opSome.size = 6 := rfl
 have sT : opAtom.size = 4 := rfl
 have sS : opSame.size = 4 := rfl
 refine sf_ind ?_ ?_ ?_ ?_ ?_ ?_ ?_
 ·intro name args _ _ s
  simp only [normalM, nt_atom]
  split
  ·omega
  ·rw [bulk_mk, bulk_mk]; simp only [strR_nil, pmR_nil, exR_nil, fmR_nil, Fm.rows, PV.bulkR, bulk_mk]; omega
 ·intro args _ _ s
  simp only [normalM, nt_same]
  split
  ·omega
  ·rw [bulk_mk, bulk_mk]; simp only [strR_nil, pmR_nil, exR_nil, fmR_nil, Fm.rows, PV.bulkR, bulk_mk]; omega
 ·intro op a b ho _ _ s
  rcases ho with rfl | rfl | rfl
  ·simp only [normalM, nt_lt, cmpN]
   split <;> (simp only [cmpM, bulk_mk, strR_nil, pmR_nil, exR_nil, fmR_nil, Ex.rows, PV.bulkR]; omega)
  ·simp only [normalM, nt_le, cmpN]
   split <;> (simp only [cmpM, bulk_mk, strR_nil, pmR_nil, exR_nil, fmR_nil, Ex.rows, PV.bulkR]; omega)
  ·simp only [normalM, nt_eq, eqN]
   split <;> (simp only [cmpM, bulk_mk, strR_nil, pmR_nil, exR_nil, fmR_nil, Ex.rows, Fm.rows, PV.bulkR]; omega)
 ·intro op kids ho _ ih s
  have h1 := bulk_norms s kids fun k hk => ih k hk s
  have h2 := bulk_flat (dualM opAnd opOr s) (normalMs kids s)
  have h3 := bulk_flat (dualM opOr opAnd s) (normalMs kids s)
  have h4 := ops_sz opAnd opOr s (by omega) (by omega)
  have h5 := ops_sz opOr opAnd s (by omega) (by omega)
  rcases ho with rfl | rfl
  ·simp only [normalM, nt_and, combM, bulk_mk, strR_nil, pmR_nil, exR_nil]; omega
  ·simp only [normalM, nt_or, combM, bulk_mk, strR_nil, pmR_nil, exR_nil]; omega
 ·intro k _ ih s
  have := ih (!s)
  simp only [normalM, nt_not, normalMs, List.headD_cons, bulk_mk, strR_nil, pmR_nil, exR_nil, Fm.rows, PV.bulkR]; omega
 ·intro a b _ _ ia ib s
  have h1 := ia (!s)
  have h2 := ib s
  have h3 := bulk_flat (dualM opOr opAnd s) [normalM a (!s), normalM b s]
  have h5 := ops_sz opOr opAnd s (by omega) (by omega)
  simp only [Fm.rows, PV.bulkR] at h3
  simp only [normalM, nt_imp, normalMs, List.headD_cons, List.drop_succ_cons, List.drop_zero, combM, bulk_mk, strR_nil, pmR_nil, exR_nil, Fm.rows, PV.bulkR]; omega
 ·intro op params k ho _ _ ih s
  have h1 := ih s
  have h4 := ops_sz opAll opSome s (by omega) (by omega)
  have h5 := ops_sz opSome opAll s (by omega) (by omega)
  rcases ho with rfl | rfl
  ·simp only [normalM, nt_all, normalMs, List.headD_cons, bulk_mk, strR_nil, pmR_nil, exR_nil, Fm.rows, PV.bulkR]; omega
  ·simp only [normalM, nt_some, normalMs, List.headD_cons, bulk_mk, strR_nil, pmR_nil, exR_nil, Fm.rows, PV.bulkR]; omega
theorem ok_kids {n : Fm} (h : n.ok) : ∀ k ∈ fkids n, k.ok := by
 obtain ⟨op, name, args, params, exprs, kids⟩ := n
 simp only [Fm.ok] at h
 exact Fm.oks_iff.1 h.2.2.2.2.2.2
theorem small_kids {n : Fm} (h : n.small) : ∀ k ∈ fkids n, k.small := by
 obtain ⟨op, name, args, params, exprs, kids⟩ := n
 simp only [Fm.small] at h
 exact Fm.smalls_iff.1 h.2.2.2.2
theorem comb_fit {o : ByteArray} {l : List Fm} (ho : o.size ≤ 6) (hl : (flatM o l).length ≤ 1048576) (h : ∀ k ∈ l, k.ok ∧ k.small) : (combM o l).ok ∧ (combM o l).small := by
 have hm : ∀ k ∈ flatM o l, k.ok ∧ k.small := fun k hk => by
  rcases flatM_mem hk with ⟨n, hn, _, hk⟩ | ⟨hk, _⟩
  ·exact ⟨ok_kids (h n hn).1 k hk, small_kids (h n hn).2 k hk⟩
  ·exact h k hk
 constructor
 ·simp only [combM, Fm.ok, Ex.oks]
  refine ⟨by unfold bigN; omega, by decide, ⟨by decide, by simp⟩, ⟨by decide, by simp⟩, ⟨by decide, trivial⟩, by unfold bigN; omega, Fm.oks_iff.2 fun k hk => (hm k hk).1⟩
 ·simp only [combM, Fm.small, Ex.smalls]
  exact ⟨by decide, by decide, trivial, hl, Fm.smalls_iff.2 fun k hk => (hm k hk).2⟩
theorem one_fit {o : ByteArray} {params : List Pm} {k : Fm} (ho : o.size ≤ 6) (hp : params.length ≤ 1048576) (hps : ∀ p ∈ params, p.ok) (h : k.ok ∧ k.small) : (Fm.mk o ⟨#[]⟩ [] params [] [k]).ok ∧ (Fm.mk o ⟨#[]⟩ [] params [] [k]).small := by
 constructor
 ·simp only [Fm.ok, Ex.oks, Fm.oks]
  refine ⟨by unfold bigN; omega, by decide, ⟨by decide, by simp⟩, ⟨by unfold bigN; omega, hps⟩, ⟨by decide, trivial⟩, by simp [bigN], h.1, trivial⟩
 ·simp only [Fm.small, Ex.smalls, Fm.smalls]
  exact ⟨by decide, hp, trivial, by simp, h.2, trivial⟩
theorem cmp_fit {o : ByteArray} {a b : Ex} (ho : o.size ≤ 6) (ha : a.ok ∧ a.small) (hb : b.ok ∧ b.small) : (cmpM o a b).ok ∧ (cmpM o a b).small := by
 constructor
 ·simp only [cmpM, Fm.ok, Ex.oks, Fm.oks]
  exact ⟨by unfold bigN; omega, by decide, ⟨by decide, by simp⟩, ⟨by decide, by simp⟩, ⟨by simp [bigN], ha.1, hb.1, trivial⟩, by decide, trivial⟩
 ·simp only [cmpM, Fm.small, Ex.smalls, Fm.smalls]
  exact ⟨by decide, by decide, ⟨ha.2, hb.2, trivial⟩, by decide, trivial⟩
theorem two_fit {o : ByteArray} {a b : Fm} (ho : o.size ≤ 6) (ha : a.ok ∧ a.small) (hb : b.ok ∧ b.small) : (Fm.mk o ⟨#[]⟩ [] [] [] [a, b]).ok ∧ (Fm.mk o ⟨#[]⟩ [] [] [] [a, b]).small := by
 constructor
 ·simp only [Fm.ok, Ex.oks, Fm.oks]
  exact ⟨by unfold bigN; omega, by decide, ⟨by decide, by simp⟩, ⟨by decide, by simp⟩, ⟨by decide, trivial⟩, by simp [bigN], ha.1, hb.1, trivial⟩
 ·simp only [Fm.small, Ex.smalls, Fm.smalls]
  exact ⟨by decide, by decide, trivial, by simp, ha.2, hb.2, trivial⟩
theorem normalM_fit : ∀ f, shapedF f = true → f.ok → f.small → 2 * cntF f ≤ 1048576 → ∀ s, (normalM f s).ok ∧ (normalM f s).small := by
 refine sf_ind ?_ ?_ ?_ ?_ ?_ ?_ ?_
 ·intro name args _ _ hok hsm _ s
  simp only [normalM, nt_atom]
  split
  ·exact ⟨hok, hsm⟩
  ·exact one_fit (by decide) (by decide) (by simp) ⟨hok, hsm⟩
 ·intro args _ _ hok hsm _ s
  simp only [normalM, nt_same]
  split
  ·exact ⟨hok, hsm⟩
  ·exact one_fit (by decide) (by decide) (by simp) ⟨hok, hsm⟩
 ·intro op a b ho _ _ hok hsm _ s
  simp only [Fm.ok, Ex.oks] at hok
  simp only [Fm.small, Ex.smalls] at hsm
  have ha : a.ok ∧ a.small := ⟨hok.2.2.2.2.1.2.1, hsm.2.2.1.1⟩
  have hb : b.ok ∧ b.small := ⟨hok.2.2.2.2.1.2.2.1, hsm.2.2.1.2.1⟩
  rcases ho with rfl | rfl | rfl
  ·simp only [normalM, nt_lt, cmpN]; split
   ·exact cmp_fit (by decide) ha hb
   ·exact cmp_fit (by decide) hb ha
  ·simp only [normalM, nt_le, cmpN]; split
   ·exact cmp_fit (by decide) ha hb
   ·exact cmp_fit (by decide) hb ha
  ·simp only [normalM, nt_eq, eqN]; split
   ·exact cmp_fit (by decide) ha hb
   ·exact two_fit (by decide) (cmp_fit (by decide) ha hb) (cmp_fit (by decide) hb ha)
 ·intro op kids ho hsh ih hok hsm hc s
  simp only [Fm.ok] at hok
  simp only [Fm.small] at hsm
  simp only [cntF] at hc
  have hks := Fm.oks_iff.1 hok.2.2.2.2.2.2
  have hss := Fm.smalls_iff.1 hsm.2.2.2.2
  have h4 := ops_sz opAnd opOr s (by decide) (by decide)
  have h5 := ops_sz opOr opAnd s (by decide) (by decide)
  have hm : ∀ k ∈ normalMs kids s, k.ok ∧ k.small := fun k hk => by
   rw [normalMs_map] at hk
   obtain ⟨x, hx, rfl⟩ := List.mem_map.1 hk
   have := cntFs_map kids x hx
   exact ih x hx (hks x hx) (hss x hx) (by omega) s
  have hl := fun o => flatM_len o s kids fun k hk => norm_len k (hsh k hk) s
  rcases ho with rfl | rfl
  ·simp only [normalM, nt_and]
   exact comb_fit h4 (by have := hl (dualM opAnd opOr s); omega) hm
  ·simp only [normalM, nt_or]
   exact comb_fit h5 (by have := hl (dualM opOr opAnd s); omega) hm
 ·intro k _ ih hok hsm hc s
  simp only [Fm.ok, Fm.oks] at hok
  simp only [Fm.small, Fm.smalls] at hsm
  simp only [cntF, cntFs] at hc
  simp only [normalM, nt_not, normalMs, List.headD_cons]
  exact ih hok.2.2.2.2.2.2.1 hsm.2.2.2.2.1 (by omega) (!s)
 ·intro a b sa sb ia ib hok hsm hc s
  simp only [Fm.ok, Fm.oks] at hok
  simp only [Fm.small, Fm.smalls] at hsm
  simp only [cntF, cntFs] at hc
  have ha := ia hok.2.2.2.2.2.2.1 hsm.2.2.2.2.1 (by omega) (!s)
  have hb := ib hok.2.2.2.2.2.2.2.1 hsm.2.2.2.2.2.1 (by omega) s
  have l1 := norm_len a sa (!s)
  have l2 := norm_len b sb s
  have p1 := cntF_pos a
  have p2 := cntF_pos b
  simp only [normalM, nt_imp, normalMs, List.headD_cons, List.drop_succ_cons, List.drop_zero]
  refine comb_fit (ops_sz opOr opAnd s (by decide) (by decide)) ?_ fun k hk => ?_
  ·generalize normalM a (!s) = x at l1 ⊢
   generalize normalM b s = y at l2 ⊢
   simp only [flatM, List.flatMap_cons, List.flatMap_nil, List.append_nil, List.length_append]
   split <;> split <;> (try simp only [List.length_cons, List.length_nil]) <;> omega
  ·simp only [List.mem_cons, List.not_mem_nil, or_false] at hk
   rcases hk with rfl | rfl
   ·exact ha
   ·exact hb
 ·intro op params k ho _ _ ih hok hsm hc s
  simp only [Fm.ok, Fm.oks] at hok
  simp only [Fm.small, Fm.smalls] at hsm
  simp only [cntF, cntFs] at hc
  have hk := ih hok.2.2.2.2.2.2.1 hsm.2.2.2.2.1 (by omega) s
  rcases ho with rfl | rfl
  ·simp only [normalM, nt_all, normalMs, List.headD_cons]
   exact one_fit (ops_sz opAll opSome s (by decide) (by decide)) hsm.2.1 hok.2.2.2.1.2 hk
  ·simp only [normalM, nt_some, normalMs, List.headD_cons]
   exact one_fit (ops_sz opSome opAll s (by decide) (by decide)) hsm.2.1 hok.2.2.2.1.2 hk
theorem cntFs_nodes : ∀ (l : List Fm), (∀ k ∈ l, cntF k ≤ (fmW k).nodes) → cntFs l ≤ Sx.nodess (l.map fmW)
 | [], _ => by simp [cntFs]
 | k :: l, h => by
  have h1 := h k (by simp)
  have h2 := cntFs_nodes l fun x hx => h x (by simp [hx])
  simp only [cntFs, List.map_cons, Sx.nodess]; omega
theorem cntF_nodes : ∀ f, shapedF f = true → cntF f ≤ (fmW f).nodes := by
 refine Fm.ind ?_
 intro op name args params exprs kids ih hsh
 have h1 := (fmW_parts _ hsh).1
 have h2 := cntFs_nodes kids fun k hk => ih k hk ((shapedF_kid hsh).2 k hk)
 simp only [cntF]; omega
theorem valid_fit {f : Fm} (hv : validF f = true) (hok : f.ok) (hsm : f.small) (s : Bool) : (normalM f s).ok ∧ (normalM f s).small := by
 obtain ⟨h1, _, h3⟩ := validF_iff.1 hv
 exact normalM_fit f h1 hok hsm (by have := cntF_nodes f h1; omega) s
end Go.Proofs.Ytjlkapgpjamnkaa
namespace Go.Proofs.Ytjlkapgpjamnkaa
open Go.AM
set_option maxHeartbeats 4000000
set_option maxRecDepth 20000
theorem same_self {f : Fm} : f.same f = true := by
 have hb : ∀ l : List ByteArray, bsEq l l = true := bsEq_self
 have hp : ∀ l : List Pm, pmsEq l l = true := by
  intro l
  induction l with
  | nil => rfl
  | cons a l ih => simp [pmsEq, pmEq, bEq, ih]
 have hE : ∀ e : Ex, e.same e = true := by
  intro e
  induction e using Ex.ind with
  | hC op name n args kids ih =>
   have hl : ∀ l : List Ex, (∀ k ∈ l, k.same k = true) → Ex.sames l l = true := by
    intro l
    induction l with
    | nil => intro _; rfl
    | cons a l ih2 => intro h; simp only [Ex.sames, h a (by simp), ih2 fun k hk => h k (by simp [hk]), Bool.and_self]
   simp only [Ex.same, bEq, beq_self_eq_true, hb, hl kids ih, Bool.and_self]
 have hEs : ∀ l : List Ex, Ex.sames l l = true := by
  intro l
  induction l with
  | nil => rfl
  | cons a l ih => simp only [Ex.sames, hE, ih, Bool.and_self]
 induction f using Fm.ind with
 | hC op name args params exprs kids ih =>
  have hl : ∀ l : List Fm, (∀ k ∈ l, k.same k = true) → Fm.sames l l = true := by
   intro l
   induction l with
   | nil => intro _; rfl
   | cons a l ih2 => intro h; simp only [Fm.sames, h a (by simp), ih2 fun k hk => h k (by simp [hk]), Bool.and_self]
  simp only [Fm.same, bEq, beq_self_eq_true, hb, hp, hEs, hl kids ih, Bool.and_self]
theorem formulaShape_c {f : Fm} (hok : f.ok) (hb : PV.bulkL f.cells ≤ 1048576) :
  PCall Try.prog 13 [.agg f.cells] Heap.nil fun r _ => r = .sc (.bool true) := by
 have hsm := Fm.small_bulk f hb
 have cl := large_c hok
 have cv := fun H => fvalid_c hok hsm H
 have cn := fun H => Normal_c hok hsm (by omega) H
 have cf : ∀ H : Heap, PCall Try.prog 51 [.agg f.cells] H fun r h' => r = .imm 1 (strRows (freeS f)) ∧ h' = H := fun H => Free_c hok hsm (by omega) H
 have hl : (freeS f).length ≤ 1048576 := Nat.le_trans freeS_len hb
 cases l1 : decide (f.size > 5000) with
 | true =>
  generalize f.size = fs at cl l1
  obtain ⟨op, name, args, params, exprs, kids⟩ := f
  simp only [Fm.cells] at cl ⊢
  refine pcall_body (ow := fun _ => false) (wf := fun _ => false) Ty.mixed Try.func13 rfl Ty.hb_13 (by rw [Try.ntmps13]; simp) ?_
  rw [Try.ntmps13, Try.results13]
  repeat' (first | refine a_seq fun K hK => ?_ | (refine a_regionS ?_; simp (maxSteps := 2000000) only [Ty.w, simprocAttr]) | (refine hK _ _ ?_; clear hK; try simp only [pst0, simprocAttr]))
  refine owp_useQ (cl _) (by (try simp only [Ty.w, simprocAttr, l1]); try rfl) ?_; simp (maxSteps := 2000000) only [Ty.w, simprocAttr, l1]
  repeat' (first | refine a_seq fun K hK => ?_ | (refine a_regionS ?_; simp (maxSteps := 2000000) only [Ty.w, simprocAttr, l1]) | (refine hK _ _ ?_; clear hK; try simp only [pst0, simprocAttr]))
  refine owp_useQ (awake_c) (by (try simp only [Ty.w, simprocAttr, ]); try rfl) ?_; simp (maxSteps := 2000000) only [Ty.w, simprocAttr, ]
  repeat' (first | (refine a_ret ?_; simp (maxSteps := 2000000) only [Ty.w, simprocAttr]) | (refine hK _ _ ?_; clear hK; try simp only [pst0, simprocAttr]))
 | false =>
  cases hv : validF f with
  | false =>
   rw [hv] at cv
   generalize f.size = fs at cl l1
   clear cn cf hl hv hok hsm hb
   obtain ⟨op, name, args, params, exprs, kids⟩ := f
   simp only [Fm.cells] at cl cv ⊢
   refine pcall_body (ow := fun _ => false) (wf := fun _ => false) Ty.mixed Try.func13 rfl Ty.hb_13 (by rw [Try.ntmps13]; simp) ?_
   rw [Try.ntmps13, Try.results13]
   repeat' (first | refine a_seq fun K hK => ?_ | (refine a_regionS ?_; simp (maxSteps := 2000000) only [Ty.w, simprocAttr]) | (refine hK _ _ ?_; clear hK; try simp only [pst0, simprocAttr]))
   refine owp_useQ (cl _) (by (try simp only [Ty.w, simprocAttr, l1]); try rfl) ?_; simp (maxSteps := 2000000) only [Ty.w, simprocAttr, l1]
   skip
   refine owp_useQ (awake_c) (by (try simp only [Ty.w, simprocAttr, Bool.not_true]); try rfl) ?_; simp (maxSteps := 2000000) only [Ty.w, simprocAttr, Bool.not_true]
   repeat' (first | refine a_seq fun K hK => ?_ | (refine a_regionS ?_; simp (maxSteps := 2000000) only [Ty.w, simprocAttr, Bool.not_true]) | (refine a_skip ?_; try simp only [pst0, simprocAttr]) | (refine a_cond _ (by (try simp (maxSteps := 2000000) only [Ty.w, simprocAttr, Bool.not_true]); rfl) (fun hb => ?_) (fun hb => ?_) <;> (try simp only [hb0, decide_eq_true_eq, decide_eq_false_iff_not, simprocAttr] at hb) <;> (try (exfalso; omega))) | (refine hK _ _ ?_; clear hK; try simp only [pst0, simprocAttr]))
   refine owp_useQ (cv _) (by (try simp only [Ty.w, simprocAttr, Bool.not_false]); try rfl) ?_; simp (maxSteps := 2000000) only [Ty.w, simprocAttr, Bool.not_false]
   repeat' (first | refine a_seq fun K hK => ?_ | ((first | refine a_regionS ?_ | refine a_ret ?_); simp (maxSteps := 2000000) only [Ty.w, simprocAttr, Bool.not_false]) | (refine hK _ _ ?_; clear hK; try simp only [pst0, simprocAttr]))
  | true =>
   rw [hv] at cv
   obtain ⟨hsh, _, _⟩ := validF_iff.1 hv
   have hN : normF f = normalM f true := if_pos hv
   rw [hN] at cn
   obtain ⟨no, ns⟩ := valid_fit hv hok hsm true
   have nb := normalM_bulk f hsh true
   have cln := lnormal_c _ no (normalM_nnf f hsh true)
   have cvn := fun H => fvalid_c no ns H
   have hfe : validF (normalM f true) = true → freeL (normalM f true) = freeL f := normal_free hv
   have cn2 := fun H => Normal_c no ns (by omega) H
   have hid : validF (normalM f true) = true → normF (normalM f true) = normalM f true := fun h => by
    unfold normF
    rw [if_pos h]
    exact normalM_id _ (normalM_shaped f hsh true) (normalM_nnf f hsh true)
   have cs := fsame_c (normalM f true) no (normalM f true) no
   rw [same_self] at cs
   have cfn : validF (normalM f true) = true → ∀ H : Heap, PCall Try.prog 51 [.agg (normalM f true).cells] H fun r h' => r = .imm 1 (strRows (freeS f)) ∧ h' = H := fun h H => by
    have := Free_c no ns (by omega) H
    rw [hfe h] at this
    exact this
   have cT := fun H : Heap => texts_c (Sl.imm (h := H) (strRows (freeS f))) (Sl.imm (strRows (freeS f))) (by omega) (by omega)
   rw [bsEq_self] at cT
   generalize f.size = fs at cl l1
   cases q : validF (normalM f true) with
   | false =>
    rw [q] at cvn
    generalize normalM f true = g at cn cln cvn
    clear cn2 hfe hid cs cfn cT nb no ns hv hN hsm hok cf hl hb hsh
    obtain ⟨op, name, args, params, exprs, kids⟩ := f
    obtain ⟨gop, gname, gargs, gparams, gexprs, gkids⟩ := g
    simp only [Fm.cells] at cl cv cn cln cvn ⊢
    refine pcall_body (ow := fun _ => false) (wf := fun _ => false) Ty.mixed Try.func13 rfl Ty.hb_13 (by rw [Try.ntmps13]; simp) ?_
    rw [Try.ntmps13, Try.results13]
    repeat' (first | refine a_seq fun K hK => ?_ | (refine a_regionS ?_; simp (maxSteps := 2000000) only [Ty.w, simprocAttr]) | (refine hK _ _ ?_; clear hK; try simp only [pst0, simprocAttr]))
    refine owp_useQ (cl _) (by (try simp only [Ty.w, simprocAttr, l1]); try rfl) ?_; simp (maxSteps := 2000000) only [Ty.w, simprocAttr, l1]
    skip
    refine owp_useQ (awake_c) (by (try simp only [Ty.w, simprocAttr, Bool.not_true]); try rfl) ?_; simp (maxSteps := 2000000) only [Ty.w, simprocAttr, Bool.not_true]
    repeat' (first | refine a_seq fun K hK => ?_ | (refine a_regionS ?_; simp (maxSteps := 2000000) only [Ty.w, simprocAttr, Bool.not_true]) | (refine a_skip ?_; try simp only [pst0, simprocAttr]) | (refine a_cond _ (by (try simp (maxSteps := 2000000) only [Ty.w, simprocAttr, Bool.not_true]); rfl) (fun hb => ?_) (fun hb => ?_) <;> (try simp only [hb0, decide_eq_true_eq, decide_eq_false_iff_not, simprocAttr] at hb) <;> (try (exfalso; omega))) | (refine hK _ _ ?_; clear hK; try simp only [pst0, simprocAttr]))
    refine owp_useQ (cv _) (by (try simp only [Ty.w, simprocAttr, Bool.not_true]); try rfl) ?_; simp (maxSteps := 2000000) only [Ty.w, simprocAttr, Bool.not_true]
    repeat' (first | refine a_seq fun K hK => ?_ | (refine a_regionS ?_; simp (maxSteps := 2000000) only [Ty.w, simprocAttr, Bool.not_true]) | (refine a_skip ?_; try simp only [pst0, simprocAttr]) | (refine a_cond _ (by (try simp (maxSteps := 2000000) only [Ty.w, simprocAttr, Bool.not_true]); rfl) (fun hb => ?_) (fun hb => ?_) <;> (try simp only [hb0, decide_eq_true_eq, decide_eq_false_iff_not, simprocAttr] at hb) <;> (try (exfalso; omega))) | (refine hK _ _ ?_; clear hK; try simp only [pst0, simprocAttr]))
    refine owp_useQ (cn _) (by (try simp only [Ty.w, simprocAttr, Bool.not_true]); try rfl) ?_; simp (maxSteps := 2000000) only [Ty.w, simprocAttr, Bool.not_true]
    repeat' (first | refine a_seq fun K hK => ?_ | (refine a_regionS ?_; simp (maxSteps := 2000000) only [Ty.w, simprocAttr, nsucc]) | (refine hK _ _ ?_; clear hK; try simp only [pst0, simprocAttr]))
    refine owp_useQ (cln _) (by (try simp only [Ty.w, simprocAttr, nsucc, Bool.not_true]); try rfl) ?_; simp (maxSteps := 2000000) only [Ty.w, simprocAttr, nsucc, Bool.not_true]
    repeat' (first | refine a_seq fun K hK => ?_ | (refine a_regionS ?_; simp (maxSteps := 2000000) only [Ty.w, simprocAttr, nsucc, Bool.not_true]) | (refine a_skip ?_; try simp only [pst0, simprocAttr]) | (refine a_cond _ (by (try simp (maxSteps := 2000000) only [Ty.w, simprocAttr, nsucc, Bool.not_true]); rfl) (fun hb => ?_) (fun hb => ?_) <;> (try simp only [hb0, decide_eq_true_eq, decide_eq_false_iff_not, simprocAttr] at hb) <;> (try (exfalso; omega))) | (refine hK _ _ ?_; clear hK; try simp only [pst0, simprocAttr]))
    refine owp_useQ (cvn _) (by (try simp only [Ty.w, simprocAttr, nsucc, Bool.not_false]); try rfl) ?_; simp (maxSteps := 2000000) only [Ty.w, simprocAttr, nsucc, Bool.not_false]
    repeat' (first | refine a_seq fun K hK => ?_ | ((first | refine a_regionS ?_ | refine a_ret ?_); simp (maxSteps := 2000000) only [Ty.w, simprocAttr, Bool.not_false]) | (refine hK _ _ ?_; clear hK; try simp only [pst0, simprocAttr]))
   | true =>
    rw [q] at cvn
    rw [hid q] at cn2
    have cfn := cfn q
    generalize freeS f = l at cf cfn cT
    generalize normalM f true = g at cn cln cvn cn2 cs cfn
    clear hfe hid nb no ns hv hN hsm hok hl hb hsh
    obtain ⟨op, name, args, params, exprs, kids⟩ := f
    obtain ⟨gop, gname, gargs, gparams, gexprs, gkids⟩ := g
    simp only [Fm.cells] at cl cv cn cln cvn cn2 cs cfn cf ⊢
    refine pcall_body (ow := fun _ => false) (wf := fun _ => false) Ty.mixed Try.func13 rfl Ty.hb_13 (by rw [Try.ntmps13]; simp) ?_
    rw [Try.ntmps13, Try.results13]
    repeat' (first | refine a_seq fun K hK => ?_ | (refine a_regionS ?_; simp (maxSteps := 2000000) only [Ty.w, simprocAttr]) | (refine hK _ _ ?_; clear hK; try simp only [pst0, simprocAttr]))
    refine owp_useQ (cl _) (by (try simp only [Ty.w, simprocAttr, l1]); try rfl) ?_; simp (maxSteps := 2000000) only [Ty.w, simprocAttr, l1]
    skip
    refine owp_useQ (awake_c) (by (try simp only [Ty.w, simprocAttr, Bool.not_true]); try rfl) ?_; simp (maxSteps := 2000000) only [Ty.w, simprocAttr, Bool.not_true]
    repeat' (first | refine a_seq fun K hK => ?_ | (refine a_regionS ?_; simp (maxSteps := 2000000) only [Ty.w, simprocAttr, Bool.not_true]) | (refine a_skip ?_; try simp only [pst0, simprocAttr]) | (refine a_cond _ (by (try simp (maxSteps := 2000000) only [Ty.w, simprocAttr, Bool.not_true]); rfl) (fun hb => ?_) (fun hb => ?_) <;> (try simp only [hb0, decide_eq_true_eq, decide_eq_false_iff_not, simprocAttr] at hb) <;> (try (exfalso; omega))) | (refine hK _ _ ?_; clear hK; try simp only [pst0, simprocAttr]))
    refine owp_useQ (cv _) (by (try simp only [Ty.w, simprocAttr, Bool.not_true]); try rfl) ?_; simp (maxSteps := 2000000) only [Ty.w, simprocAttr, Bool.not_true]
    repeat' (first | refine a_seq fun K hK => ?_ | (refine a_regionS ?_; simp (maxSteps := 2000000) only [Ty.w, simprocAttr, Bool.not_true]) | (refine a_skip ?_; try simp only [pst0, simprocAttr]) | (refine a_cond _ (by (try simp (maxSteps := 2000000) only [Ty.w, simprocAttr, Bool.not_true]); rfl) (fun hb => ?_) (fun hb => ?_) <;> (try simp only [hb0, decide_eq_true_eq, decide_eq_false_iff_not, simprocAttr] at hb) <;> (try (exfalso; omega))) | (refine hK _ _ ?_; clear hK; try simp only [pst0, simprocAttr]))
    refine owp_useQ (cn _) (by (try simp only [Ty.w, simprocAttr, Bool.not_true]); try rfl) ?_; simp (maxSteps := 2000000) only [Ty.w, simprocAttr, Bool.not_true]
    repeat' (first | refine a_seq fun K hK => ?_ | (refine a_regionS ?_; simp (maxSteps := 2000000) only [Ty.w, simprocAttr, nsucc]) | (refine hK _ _ ?_; clear hK; try simp only [pst0, simprocAttr]))
    refine owp_useQ (cln _) (by (try simp only [Ty.w, simprocAttr, nsucc, Bool.not_true]); try rfl) ?_; simp (maxSteps := 2000000) only [Ty.w, simprocAttr, nsucc, Bool.not_true]
    repeat' (first | refine a_seq fun K hK => ?_ | (refine a_regionS ?_; simp (maxSteps := 2000000) only [Ty.w, simprocAttr, nsucc, Bool.not_true]) | (refine a_skip ?_; try simp only [pst0, simprocAttr]) | (refine a_cond _ (by (try simp (maxSteps := 2000000) only [Ty.w, simprocAttr, nsucc, Bool.not_true]); rfl) (fun hb => ?_) (fun hb => ?_) <;> (try simp only [hb0, decide_eq_true_eq, decide_eq_false_iff_not, simprocAttr] at hb) <;> (try (exfalso; omega))) | (refine hK _ _ ?_; clear hK; try simp only [pst0, simprocAttr]))
    refine owp_useQ (cvn _) (by (try simp only [Ty.w, simprocAttr, nsucc, Bool.not_true]); try rfl) ?_; simp (maxSteps := 2000000) only [Ty.w, simprocAttr, nsucc, Bool.not_true]
    repeat' (first | refine a_seq fun K hK => ?_ | (refine a_drawS (by decide +kernel) ?_; simp (maxSteps := 2000000) only [Ty.w, simprocAttr, nsucc, Bool.not_true]) | (refine a_skip ?_; try simp only [pst0, simprocAttr]) | (refine a_cond _ (by (try simp (maxSteps := 2000000) only [Ty.w, simprocAttr, nsucc, Bool.not_true]); rfl) (fun hb => ?_) (fun hb => ?_) <;> (try simp only [hb0, decide_eq_true_eq, decide_eq_false_iff_not, simprocAttr] at hb) <;> (try (exfalso; omega))) | (refine hK _ _ ?_; clear hK; try simp only [pst0, simprocAttr]))
    (first | refine a_dcall0 (cn2 _) (by (try simp only [Ty.w, simprocAttr, nsucc]); try rfl) ?_ | refine a_dcallA (cn2 _) (by (try simp only [Ty.w, simprocAttr, nsucc]); try rfl) (by simp only [Ty.w, simprocAttr, nsucc]; try trivial) ?_); simp (maxSteps := 2000000) only [Ty.w, simprocAttr, Option.getD_some, nsucc]
    skip
    (first | refine a_dcall0 (cs _) (by (try simp only [Ty.w, simprocAttr, nsucc]); try rfl) ?_ | refine a_dcallA (cs _) (by (try simp only [Ty.w, simprocAttr, nsucc]); try rfl) (by simp only [Ty.w, simprocAttr, nsucc]; try trivial) ?_); simp (maxSteps := 2000000) only [Ty.w, simprocAttr, Option.getD_some, nsucc]
    skip
    (first | refine a_dcall0 (cfn _) (by (try simp only [Ty.w, simprocAttr, nsucc]); try rfl) ?_ | refine a_dcallA (cfn _) (by (try simp only [Ty.w, simprocAttr, nsucc]); try rfl) (by simp only [Ty.w, simprocAttr, nsucc]; try trivial) ?_); simp (maxSteps := 2000000) only [Ty.w, simprocAttr, Option.getD_some, nsucc]
    skip
    (first | refine a_dcall0 (cf _) (by (try simp only [Ty.w, simprocAttr, nsucc]); try rfl) ?_ | refine a_dcallA (cf _) (by (try simp only [Ty.w, simprocAttr, nsucc]); try rfl) (by simp only [Ty.w, simprocAttr, nsucc]; try trivial) ?_); simp (maxSteps := 2000000) only [Ty.w, simprocAttr, Option.getD_some, nsucc]
    skip
    (first | refine a_dcall0 (cT _) (by (try simp only [Ty.w, simprocAttr, nsucc]); try rfl) ?_ | refine a_dcallA (cT _) (by (try simp only [Ty.w, simprocAttr, nsucc]); try rfl) (by simp only [Ty.w, simprocAttr, nsucc]; try trivial) ?_); simp (maxSteps := 2000000) only [Ty.w, simprocAttr, Option.getD_some, nsucc]
    repeat' (first | (refine a_ret ?_; simp (maxSteps := 2000000) only [Ty.w, simprocAttr, nsucc]) | (refine hK _ _ ?_; clear hK; try simp only [pst0, simprocAttr]))
end Go.Proofs.Ytjlkapgpjamnkaa
