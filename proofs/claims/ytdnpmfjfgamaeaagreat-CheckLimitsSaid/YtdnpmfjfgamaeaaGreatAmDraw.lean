/- A region that draws its order: whatever order is drawn, it ends as the order of the text does. -/
import Derived.Test.YtdnpmfjfgamaeaaGreatAmWp
set_option linter.unusedVariables false
set_option linter.unusedSimpArgs false
set_option linter.unusedSectionVars false
namespace Go.AM
section
variable {P : Program} {ow : Nat → Bool} {wf : FuncId → Bool} {n : Nat}

theorem eff_congr {w : Bool} {op : Op} {s s' : Slots} {h : Heap} (hs : ∀ t, .tmp t ∈ op.operands → s t = s' t) : eff P w op (pev s) h = eff P w op (pev s') h := by
  have hp : ∀ x ∈ op.operands, pev s x = pev s' x := by
    intro x hx
    cases x <;> first | rfl | exact hs _ hx
  have pairs : ∀ ps : Array (Nat × Operand), (∀ x ∈ (ps.toList.map (·.2)), pev s x = pev s' x) → (ps.toList.map fun p => (p.1, pev s p.2)) = (ps.toList.map fun p => (p.1, pev s' p.2)) := fun ps hh =>
    List.map_congr_left fun p hm => by rw [hh p.2 (List.mem_map.2 ⟨p, hm, rfl⟩)]
  have opt : ∀ x : Option Operand, (∀ y, x = some y → pev s y = pev s' y) → oInt (pev s) x = oInt (pev s') x := by
    intro x hh
    cases x with
    | none => rfl
    | some y => simp only [oInt, hh y rfl]
  have optz : ∀ x : Option Operand, (∀ y, x = some y → pev s y = pev s' y) → isZeroInt (pev s) x = isZeroInt (pev s') x := by
    intro x hh
    cases x with
    | none => rfl
    | some y => simp only [isZeroInt, hh y rfl]
  cases op
  case build t ps => simp only [eff, pairs ps fun x hx => hp x (by simpa [Op.operands] using hx)]
  case buildSlice t l ps => simp only [eff, pairs ps fun x hx => hp x (by simpa [Op.operands] using hx)]
  case slice t x lo hi mx =>
    have e0 : pev s x = pev s' x := hp x (by simp [Op.operands])
    have e1 : ∀ y, lo = some y → pev s y = pev s' y := fun y hy => hp y (by simp [Op.operands, hy])
    have e2 : ∀ y, hi = some y → pev s y = pev s' y := fun y hy => hp y (by simp [Op.operands, hy])
    have e3 : ∀ y, mx = some y → pev s y = pev s' y := fun y hy => hp y (by simp [Op.operands, hy])
    cases mx with
    | none => simp only [eff, e0, opt lo e1, opt hi e2]
    | some m =>
      cases lo with
      | some l => rfl
      | none =>
        cases hi with
        | none => rfl
        | some hh => simp only [eff, e0, optz _ e2, optz _ e3]
  case makeMap t r => cases r <;> rfl
  case typeAssert x t1 t2 ok =>
    have e0 : pev s x = pev s' x := hp x (by simp [Op.operands])
    cases ok <;> simp only [eff, e0]
  case call c =>
    obtain ⟨cl, ⟨args⟩, ⟨ts⟩⟩ := c
    cases cl with
    | value f => rfl
    | invoke f m => rfl
    | builtin b =>
      have ha : ∀ x ∈ args, pev s x = pev s' x := fun x hx => hp x (by simp [Op.operands, Call.operands, hx])
      cases b <;> try rfl
      · match args, ts, ha with
        | [x, y], [t, u], ha => simp only [eff, ha x (by simp), ha y (by simp)]
        | [], _, _ => rfl
        | [_], _, _ => rfl
        | _ :: _ :: _ :: _, _, _ => rfl
        | [_, _], [], _ => rfl
        | [_, _], [_], _ => rfl
        | [_, _], _ :: _ :: _ :: _, _ => rfl
      · match args, ts, ha with
        | [x], [t], ha => simp only [eff, ha x (by simp)]
        | [], _, _ => rfl
        | _ :: _ :: _, _, _ => rfl
        | [_], [], _ => rfl
        | [_], _ :: _ :: _, _ => rfl
      all_goals
        match args, ha with
        | [x, y], ha => simp only [eff, ha x (by simp), ha y (by simp)]
        | [], _ => rfl
        | [_], _ => rfl
        | _ :: _ :: _ :: _, _ => rfl
  case makeFunc fn first caps =>
    have e1 : first.toList.map (pev s) = first.toList.map (pev s') := List.map_congr_left fun x hx => hp x (by simp only [Op.operands, Array.mem_append]; exact .inl (Array.mem_toList_iff.1 hx))
    have e2 : caps.toList.map (pev s) = caps.toList.map (pev s') := List.map_congr_left fun x hx => hp x (by simp only [Op.operands, Array.mem_append]; exact .inr (Array.mem_toList_iff.1 hx))
    cases fn <;> first | rfl | simp only [eff, e1, e2]
  all_goals first
    | rfl
    | (simp only [Op.operands] at hp
       simp only [eff]
       simp_all)

theorem callee_congr {op : Op} {s s' : Slots} (hs : ∀ t, .tmp t ∈ op.operands → s t = s' t) : callee (pev s) op = callee (pev s') op := by
  cases op <;> try rfl
  case call c =>
    obtain ⟨cl, as, ts⟩ := c
    cases cl with
    | value f =>
      have hf : pev s f = pev s' f := by cases f <;> first | rfl | exact hs _ (by simp [Op.operands, Call.operands])
      have ha : as.toList.map (pev s) = as.toList.map (pev s') := List.map_congr_left fun x hx => by
        cases x <;> first | rfl | exact hs _ (by simp only [Op.operands, Call.operands, Array.mem_append]; right; exact Array.mem_toList_iff.1 hx)
      simp only [callee, hf, ha]
    | invoke f m => rfl
    | builtin b => rfl
theorem Does_congr {o : Oper} {s s' : Slots} {h h' : Heap} {v : PV} (hs : ∀ t, .tmp t ∈ o.op.operands → s t = s' t) (hd : Does P ow o (pev s) h v h') : Does P ow o (pev s') h v h' := by
  unfold Does at hd ⊢
  rw [← callee_congr hs, ← eff_congr hs]
  cases hc : callee (pev s) o.op with
  | none => rw [hc] at hd; exact hd
  | some fa =>
    obtain ⟨f, args⟩ := fa
    rw [hc] at hd
    exact hd

/-! The order of a region's text. -/
theorem before_go (f : Array Nat → Oper → Array Nat) (g : (Nat → Nat) → Oper → Nat) (hf : ∀ acc o, f acc o = acc.push (g (fun m => acc.getD m 0) o)) : ∀ (l : List Oper) (acc : Array Nat),
    (l.foldl f acc).size = acc.size + l.length ∧ (∀ j, j < acc.size → (l.foldl f acc).getD j 0 = acc.getD j 0) ∧
    ∀ (j : Nat) (o : Oper), l[j]? = some o → (l.foldl f acc).getD (acc.size + j) 0 = g (fun m => if m < acc.size + j then (l.foldl f acc).getD m 0 else 0) o
  | [], acc => by simp
  | o :: l, acc => by
    obtain ⟨h1, h2, h3⟩ := before_go f g hf l (f acc o)
    have hsz : (f acc o).size = acc.size + 1 := by rw [hf]; simp
    have hlow : ∀ j, j < acc.size → (l.foldl f (f acc o)).getD j 0 = acc.getD j 0 := by
      intro j hj
      rw [h2 j (by omega), hf]
      rw [Array.getD_eq_getD_getElem?, Array.getD_eq_getD_getElem?, Array.getElem?_push_lt hj, Array.getElem?_eq_getElem hj]
    refine ⟨by simp only [List.foldl_cons, h1, hsz, List.length_cons]; omega, fun j hj => by simpa only [List.foldl_cons] using hlow j hj, fun j q hq => ?_⟩
    cases j with
    | zero =>
      simp at hq; subst hq
      simp only [List.foldl_cons, Nat.add_zero]
      rw [h2 _ (by omega), hf]
      have e1 : (acc.push (g (fun m => acc.getD m 0) o)).getD acc.size 0 = g (fun m => acc.getD m 0) o := by simp [Array.getD_eq_getD_getElem?]
      rw [e1]
      congr 1
      funext m
      by_cases hm : m < acc.size
      · rw [if_pos hm, ← hlow m hm, hf]
      · rw [if_neg hm, Array.getD_eq_getD_getElem?, Array.getElem?_eq_none (by omega)]; rfl
    | succ j =>
      have := h3 j q (by simpa using hq)
      rw [hsz] at this
      simp only [List.foldl_cons]
      rw [show acc.size + (j + 1) = acc.size + 1 + j by omega]
      exact this

theorem after_fold (b : Nat → Nat) : ∀ (l : List Edge) (s i : Nat), (l.foldl (fun s e => if Region.binds .any e then s ||| 2 ^ e.on ||| b e.on else s) s).testBit i = true →
    s.testBit i = true ∨ ∃ e ∈ l, Region.binds .any e = true ∧ (i = e.on ∨ (b e.on).testBit i = true)
  | [], s, i, h => .inl h
  | e :: l, s, i, h => by
    simp only [List.foldl_cons] at h
    rcases after_fold b l _ i h with h1 | ⟨e', h1, h2, h3⟩
    · split at h1
      · rename_i hb
        simp only [Nat.testBit_or, Bool.or_eq_true] at h1
        rcases h1 with (h1 | h1) | h1
        · exact .inl h1
        · refine .inr ⟨e, by simp, hb, .inl ?_⟩
          rw [Nat.testBit_two_pow] at h1
          exact (of_decide_eq_true h1).symm
        · exact .inr ⟨e, by simp, hb, .inr h1⟩
      · exact .inl h1
    · exact .inr ⟨e', by simp [h1], h2, h3⟩

theorem pre_spec {ops : List Oper} {i j : Nat} {o : Oper} (ho : ops[j]? = some o) (hp : pre ops i j = true) :
    ∃ e ∈ o.after.toList, Region.binds .any e = true ∧ (i = e.on ∨ (e.on < j ∧ pre ops i e.on = true)) := by
  unfold pre at hp ⊢
  have hb : Region.before ops.toArray = ops.foldl (fun acc o => acc.push (o.after.foldl (fun s e => if Region.binds .any e then s ||| 2 ^ e.on ||| acc.getD e.on 0 else s) 0)) #[] := by
    unfold Region.before
    rw [← Array.foldl_toList]
  have h3 := (before_go (fun acc o => acc.push (o.after.foldl (fun s e => if Region.binds .any e then s ||| 2 ^ e.on ||| acc.getD e.on 0 else s) 0))
    (fun b o => o.after.toList.foldl (fun s e => if Region.binds .any e then s ||| 2 ^ e.on ||| b e.on else s) 0) (fun acc o => by rw [← Array.foldl_toList]) ops #[]).2.2 j o ho
  simp only [List.size_toArray, List.length_nil, Nat.zero_add] at h3
  rw [← hb] at h3
  rw [h3] at hp
  rcases after_fold (fun m => if m < j then (Region.before ops.toArray).getD m 0 else 0) _ _ _ hp with h1 | ⟨e, h1, h2, h4⟩
  · simp at h1
  · refine ⟨e, h1, h2, h4.imp id (fun h5 => ?_)⟩
    by_cases hj : e.on < j
    · rw [if_pos hj] at h5; exact ⟨hj, h5⟩
    · rw [if_neg hj] at h5; simp at h5

structure DOk (ow : Nat → Bool) (wf : FuncId → Bool) (ops : List Oper) : Prop where
  back : ∀ (j : Nat) (o : Oper), ops[j]? = some o → ∀ e ∈ o.after.toList, Region.binds .any e = true → e.on < j
  nosel : ∀ (j : Nat) (o : Oper), ops[j]? = some o → ∀ cs b, o.op ≠ .select cs b
  slot : ∀ (i j : Nat) (q o : Oper), i ≠ j → ops[i]? = some q → ops[j]? = some o → ∀ d, q.dst = some d → d ∈ looks ops o → pre ops i j = true ∨ pre ops j i = true
  ww : ∀ (i j : Nat) (q o : Oper), i ≠ j → ops[i]? = some q → ops[j]? = some o → isW ow wf q = true → isW ow wf o = true → pre ops i j = true ∨ pre ops j i = true
theorem DOk.of {ops : List Oper} (h : dOk ow wf ops = true) : DOk ow wf ops := by
  unfold dOk at h
  rw [List.all_eq_true] at h
  have hm : ∀ (j : Nat) (o : Oper), ops[j]? = some o → _ := fun j o ho => h (o, j) (List.mem_zipIdx_iff_getElem?.2 ho)
  refine ⟨fun j o ho e he hb => ?_, fun j o ho cs b hsel => ?_, fun i j q o hij hq ho d hd hl => ?_, fun i j q o hij hq ho h1 h2 => ?_⟩
  · have h0 := hm j o ho
    simp only [Bool.and_eq_true, List.all_eq_true] at h0
    have := h0.1.1 e he
    simpa [hb] using this
  · have h0 := hm j o ho
    simp only [Bool.and_eq_true] at h0
    have := h0.1.2
    rw [hsel] at this
    simp at this
  · have h0 := hm j o ho
    simp only [Bool.and_eq_true, List.all_eq_true] at h0
    have := h0.2 (q, i) (List.mem_zipIdx_iff_getElem?.2 hq)
    simp only [Bool.or_eq_true, Bool.and_eq_true, beq_iff_eq, hd, Bool.not_eq_true'] at this
    rcases this with h1 | ⟨h1, _⟩
    · exact absurd h1 hij
    · rcases h1 with (h1 | h1) | h1
      · rw [List.contains_iff_mem.2 hl] at h1; simp at h1
      · exact .inl h1
      · exact .inr h1
  · have h0 := hm j o ho
    simp only [Bool.and_eq_true, List.all_eq_true] at h0
    have := h0.2 (q, i) (List.mem_zipIdx_iff_getElem?.2 hq)
    simp only [Bool.or_eq_true, Bool.and_eq_true, beq_iff_eq, h1, h2, Bool.not_eq_true', Bool.and_self, Bool.true_eq_false, false_or] at this
    rcases this with h3 | ⟨_, h3⟩
    · exact absurd h3 hij
    · exact h3

theorem pre_lt {ops : List Oper} (hd : DOk ow wf ops) : ∀ (j i : Nat), j < ops.length → pre ops i j = true → i < j := by
  intro j
  induction j using Nat.strongRecOn with
  | _ j ih =>
    intro i hj hp
    obtain ⟨e, h1, h2, h3⟩ := pre_spec (List.getElem?_eq_getElem hj) hp
    have hlt := hd.back j _ (List.getElem?_eq_getElem hj) e h1 h2
    rcases h3 with rfl | ⟨h4, h5⟩
    · exact hlt
    · exact Nat.lt_trans (ih e.on h4 i (by omega) h5) h4
/-- a set of operations that holds what must come before each -/
def Closed (ops : List Oper) (S : Nat → Bool) : Prop := ∀ (j : Nat) (o : Oper), ops[j]? = some o → S j = true → ∀ e ∈ o.after.toList, Region.binds .any e = true → S e.on = true
theorem Closed.pre {ops : List Oper} {S : Nat → Bool} (hc : Closed ops S) : ∀ (j i : Nat), j < ops.length → S j = true → pre ops i j = true → S i = true := by
  intro j
  induction j using Nat.strongRecOn with
  | _ j ih =>
    intro i hj hs hp
    obtain ⟨e, h1, h2, h3⟩ := pre_spec (List.getElem?_eq_getElem hj) hp
    have hse := hc j _ (List.getElem?_eq_getElem hj) hs e h1 h2
    rcases h3 with rfl | ⟨h4, h5⟩
    · exact hse
    · exact ih e.on h4 i (by omega) hse h5
end
end Go.AM
