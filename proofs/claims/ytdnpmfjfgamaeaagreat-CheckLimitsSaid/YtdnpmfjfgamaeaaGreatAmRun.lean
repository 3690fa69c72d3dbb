/- Running code of the abstract machine: a function that computes what a call gives for given values, and that it is so. -/
import Derived.Test.YtdnpmfjfgamaeaaGreatAmTop
set_option linter.unusedVariables false
set_option linter.unusedSimpArgs false
set_option linter.unusedSectionVars false
namespace Go.AM

def vEq : Value → Value → Bool
  | .int k a, .int k' b => decide (k = k') && decide (a = b)
  | .bool a, .bool b => a == b
  | .string a, .string b => decide (a.data.toList = b.data.toList)
  | .nilIface, .nilIface => true
  | .pointer none, .pointer none => true
  | .map none, .map none => true
  | .slice none n m, .slice none n' m' => decide (n = n') && decide (m = m')
  | .func (.func f) a b, .func (.func f') a' b' => decide (f = f') && decide (a.size = 0) && decide (b.size = 0) && decide (a'.size = 0) && decide (b'.size = 0)
  | .iface t v, .iface u x => decide (t = u) && vEq v x
  | _, _ => false
theorem vEq_eq (a b : Value) (h : vEq a b = true) : a = b := by
  fun_induction vEq a b
  case case3 a b =>
    obtain ⟨⟨a⟩⟩ := a
    obtain ⟨⟨b⟩⟩ := b
    simp at h; rw [h]
  case case8 =>
    simp at h
    obtain ⟨⟨⟨⟨rfl, rfl⟩, rfl⟩, rfl⟩, rfl⟩ := h
    rfl
  all_goals simp_all

mutual
def pvEq : PV → PV → Bool
  | .sc v, .sc u => vEq v u
  | .ptr a b c, .ptr a' b' c' => decide (a = a') && decide (b = b') && decide (c = c')
  | .own a b c, .own a' b' c' => decide (a = a') && decide (b = b') && decide (c = c')
  | .mp a, .mp b => decide (a = b)
  | .emp, .emp => true
  | .cptr l, .cptr l' => pvEqL l l'
  | .agg l, .agg l' => pvEqL l l'
  | .tup l, .tup l' => pvEqL l l'
  | .fn f a b, .fn f' a' b' => decide (f = f') && pvEqL a a' && pvEqL b b'
  | .ab k a b c d, .ab k' a' b' c' d' => decide (k = k') && decide (a = a') && decide (b = b') && decide (c = c') && decide (d = d')
  | .imm z r, .imm z' r' => decide (z = z') && pvEqR r r'
  | _, _ => false
def pvEqL : List PV → List PV → Bool
  | [], [] => true
  | a :: l, b :: l' => pvEq a b && pvEqL l l'
  | _, _ => false
def pvEqR : List (List PV) → List (List PV) → Bool
  | [], [] => true
  | a :: l, b :: l' => pvEqL a b && pvEqR l l'
  | _, _ => false
end
mutual
theorem pvEq_eq : ∀ (a b : PV), pvEq a b = true → a = b
  | .sc v, b, h => by cases b <;> simp [pvEq] at h; rw [vEq_eq _ _ h]
  | .ptr a b c, x, h => by cases x <;> simp [pvEq] at h; obtain ⟨⟨rfl, rfl⟩, rfl⟩ := h; rfl
  | .own a b c, x, h => by cases x <;> simp [pvEq] at h; obtain ⟨⟨rfl, rfl⟩, rfl⟩ := h; rfl
  | .mp a, x, h => by cases x <;> simp [pvEq] at h; rw [h]
  | .emp, x, h => by cases x <;> simp [pvEq] at h; rfl
  | .cptr l, x, h => by cases x <;> simp [pvEq] at h; rw [pvEqL_eq _ _ h]
  | .agg l, x, h => by cases x <;> simp [pvEq] at h; rw [pvEqL_eq _ _ h]
  | .tup l, x, h => by cases x <;> simp [pvEq] at h; rw [pvEqL_eq _ _ h]
  | .imm z r, x, h => by cases x <;> simp [pvEq] at h; rw [h.1, pvEqR_eq _ _ h.2]
  | .fn f a b, x, h => by cases x <;> simp [pvEq] at h; rw [h.1.1, pvEqL_eq _ _ h.1.2, pvEqL_eq _ _ h.2]
  | .ab k a b c d, x, h => by cases x <;> simp [pvEq] at h; obtain ⟨⟨⟨⟨rfl, rfl⟩, rfl⟩, rfl⟩, rfl⟩ := h; rfl
theorem pvEqL_eq : ∀ (a b : List PV), pvEqL a b = true → a = b
  | [], b, h => by cases b <;> simp [pvEqL] at h; rfl
  | x :: l, b, h => by cases b <;> simp [pvEqL] at h; rw [pvEq_eq _ _ h.1, pvEqL_eq _ _ h.2]
theorem pvEqR_eq : ∀ (a b : List (List PV)), pvEqR a b = true → a = b
  | [], b, h => by cases b <;> simp [pvEqR] at h; rfl
  | x :: l, b, h => by cases b <;> simp [pvEqR] at h; rw [pvEqL_eq _ _ h.1, pvEqR_eq _ _ h.2]
end

abbrev CallR := FuncId → List PV → Heap → Option (PV × Bool × Heap)
section
variable (P : Program) (wf : FuncId → Bool) (own : FuncId → Nat → Bool) (ext : FuncId → List PV → Option PV)

def xop (call : CallR) (ow : Nat → Bool) (o : Oper) (ρ : Operand → PV) (h : Heap) : Option (PV × Bool × Heap) :=
  match callee ρ o.op with
  | some (f, args) => call f args h
  | none => match eff P (o.dst.any ow) o.op ρ h with
    | some (v, h') => some (v, !(isW ow wf o), h')
    | none => none
/-- does an operation give v in another heap, and leave it? -/
def xagain (call : CallR) (ow : Nat → Bool) (o : Oper) (ρ : Operand → PV) (h : Heap) (v : PV) : Bool :=
  match xop P wf call ow o ρ h with
  | some (v', q, _) => q && pvEq v' v
  | none => false
def xl (call : CallR) (ow : Nat → Bool) (n : Nat) (ops : List Oper) : List Oper → Slots → Bool → Heap → Option (Slots × Bool × Heap)
  | [], s, q, h => some (s, q, h)
  | o :: rest, s, q, h => if o.dst.all (fun d => decide (d < n)) = true then
      match wantedB ops s o with
      | none => none
      | some false => xl call ow n ops rest (updO s o.dst (.sc undef)) q h
      | some true => match xop P wf call ow o (pev s) h with
        | some (v, q', h') => xl call ow n ops rest (updO s o.dst v) (q && q') h'
        | none => none
    else none
def xd (call : CallR) (ow : Nat → Bool) (n : Nat) (ops : List Oper) : Nat → List Oper → List (Nat × Oper × Slots × PV) → List (Nat × Heap) → Slots → Bool → Heap → Option (Slots × Bool × Heap)
  | _, [], _, _, s, q, h => some (s, q, h)
  | k, o :: rest, past, hist, s, q, h => if o.dst.all (fun d => decide (d < n)) = true then
      match wantedB ops s o with
      | none => none
      | some false => xd call ow n ops (k + 1) rest past hist (updO s o.dst (.sc undef)) q h
      | some true => match xop P wf call ow o (pev s) h with
        | none => none
        | some (v, q', h') =>
          if isW ow wf o = true then
            (if past.all (fun x => pre ops x.1 k || xagain P wf call ow x.2.1 (pev x.2.2.1) h' x.2.2.2) = true then xd call ow n ops (k + 1) rest past ((k, h) :: hist) (updO s o.dst v) (q && q') h' else none)
          else if q' = true then
            (if hist.all (fun x => pre ops x.1 k || xagain P wf call ow o (pev s) x.2 v) = true then xd call ow n ops (k + 1) rest ((k, o, s, v) :: past) hist (updO s o.dst v) q h else none)
          else none
    else none
def xc (call : CallR) (ow : Nat → Bool) (n : Nat) : Nat → Code → Slots → Bool → Heap → Option (Exit × Slots × Bool × Heap)
  | 0, _, _, _, _ => none
  | k + 1, c, s, q, h => match c with
    | .skip => some (.normal, s, q, h)
    | .region _ ops true => if dOk ow wf ops.toList = true then (xd P wf call ow n ops.toList 0 ops.toList [] [] s q h).map (Exit.normal, ·) else none
    | .region _ ops false => (xl P wf call ow n ops.toList ops.toList s q h).map (Exit.normal, ·)
    | .seq a b => match xc call ow n k a s q h with
      | some (.normal, s', q', h') => xc call ow n k b s' q' h'
      | r => r
    | .cond c x y => match pev s c with
      | .sc (.bool true) => xc call ow n k x s q h
      | .sc (.bool false) => xc call ow n k y s q h
      | _ => none
    | .block id c => match xc call ow n k c s q h with
      | some (.exit id', s', q', h') => some (if id' = id then .normal else .exit id', s', q', h')
      | r => r
    | .loop c => match xc call ow n k c s q h with
      | some (.normal, s', q', h') => xc call ow n k (.loop c) s' q' h'
      | r => r
    | .exit id => some (.exit id, s, q, h)
    | .ret => some (.ret, s, q, h)
    | _ => none
/-- what a call gives; the flag: the heap is as it was -/
def xf (m : Nat) : Nat → CallR
  | 0, _, _, _ => none
  | k + 1, f, args, h => match ext f args with
   | some r => some (r, true, h)
   | none => match P.funcs[f]? with
    | none => none
    | some fn => if hasBody P f = true ∧ args.length ≤ fn.ntmps then match fn.body with
        | none => none
        | some c => match xc P wf (xf m k) (own f) fn.ntmps m c (slots0 args) true h with
          | some (.normal, s, q, h') => (resAll P s h' fn.results.toList).map fun vs => (resV vs, q, h')
          | some (.ret, s, q, h') => (resAll P s h' fn.results.toList).map fun vs => (resV vs, q, h')
          | _ => none
      else none
end

section
variable {P : Program} {wf : FuncId → Bool} {own : FuncId → Nat → Bool}
/-- what is taken from contracts that are proved: of calls that leave the heap -/
def ExtOk (P : Program) (ext : FuncId → List PV → Option PV) : Prop := ∀ f args r h, ext f args = some r → PCall P f args h (fun r' h' => r' = r ∧ h' = h)
def CallOk (P : Program) (call : CallR) : Prop := ∀ f args h v q h', call f args h = some (v, q, h') → PCall P f args h (fun r h'' => r = v ∧ h'' = h') ∧ (q = true → h' = h)

theorem eff_same {ow : Nat → Bool} {o : Oper} {ρ : Operand → PV} {h h' : Heap} {v : PV} (hw : isW ow wf o = false) (hc : callee ρ o.op = none) (he : eff P (o.dst.any ow) o.op ρ h = some (v, h')) : h' = h := by
  obtain ⟨dst, op, t, pos, after, guard⟩ := o
  simp only at hc he hw
  unfold eff at he
  split at he <;> simp only [isW] at hw <;> (try (simp at hw; done))
  all_goals (repeat' (split at he))
  all_goals first
    | (simp [Option.bind_eq_some_iff, Option.map_eq_some_iff] at he; done)
    | (simp [Option.bind_eq_some_iff, Option.map_eq_some_iff] at he; grind)
    | skip

theorem xop_ok {call : CallR} (hk : CallOk P call) {ow : Nat → Bool} {o : Oper} {ρ : Operand → PV} {h h' : Heap} {v : PV} {q : Bool} (hx : xop P wf call ow o ρ h = some (v, q, h')) : Does P ow o ρ h v h' ∧ (q = true → h' = h) := by
  unfold xop at hx
  unfold Does
  split at hx
  · rename_i f args hc
    rw [hc]
    exact hk _ _ _ _ _ _ hx
  · rename_i hc
    rw [hc]
    split at hx
    · rename_i v1 h1 he
      simp only [Option.some.injEq, Prod.mk.injEq] at hx
      obtain ⟨rfl, rfl, rfl⟩ := hx
      exact ⟨he, fun hq => eff_same (by simpa using hq) hc he⟩
    · simp at hx
theorem xagain_ok {call : CallR} (hk : CallOk P call) {ow : Nat → Bool} {o : Oper} {ρ : Operand → PV} {h : Heap} {v : PV} (hx : xagain P wf call ow o ρ h v = true) : Does P ow o ρ h v h := by
  unfold xagain at hx
  split at hx
  · rename_i v' q h' hp
    simp only [Bool.and_eq_true] at hx
    obtain ⟨rfl, hx⟩ := hx
    obtain ⟨h1, h2⟩ := xop_ok hk hp
    rw [h2 rfl, pvEq_eq _ _ hx] at h1
    exact h1
  · simp at hx
theorem Does.owp {ow : Nat → Bool} {o : Oper} {s : Slots} {h h' : Heap} {v : PV} {K : Slots → Heap → Prop} (hd : Does P ow o (pev s) h v h') (hK : K (updO s o.dst v) h') : owp P ow o K s h := by
  unfold Does at hd
  unfold AM.owp
  split at hd
  · rename_i f args hc
    exact hd.mono (fun r h'' hr => by rw [hr.1, hr.2]; exact hK)
  · rename_i hc
    rw [hd]
    exact hK

theorem xl_ok {call : CallR} (hk : CallOk P call) {ow : Nat → Bool} {n : Nat} {ops : List Oper} {K : Slots → Heap → Prop} : ∀ (l : List Oper) {s s' : Slots} {q q' : Bool} {h h' : Heap}, xl P wf call ow n ops l s q h = some (s', q', h') →
    (K s' h' → lwp P ow n ops l K s h) ∧ (q' = true → q = true ∧ h' = h)
  | [], s, s', q, q', h, h', hx => by
    simp only [xl, Option.some.injEq, Prod.mk.injEq] at hx
    obtain ⟨rfl, rfl, rfl⟩ := hx
    exact ⟨fun hK => hK, fun hq => ⟨hq, rfl⟩⟩
  | o :: rest, s, s', q, q', h, h', hx => by
    unfold xl at hx
    split at hx
    · rename_i hd
      unfold lwp
      split at hx
      · simp at hx
      · rename_i hw
        obtain ⟨h1, h2⟩ := xl_ok hk rest hx
        rw [hw]
        exact ⟨fun hK => ⟨hd, by simpa using h1 hK⟩, h2⟩
      · rename_i hw
        split at hx
        · rename_i v q1 h1 hp
          obtain ⟨d1, d2⟩ := xop_ok hk hp
          obtain ⟨g1, g2⟩ := xl_ok hk rest hx
          rw [hw]
          refine ⟨fun hK => ⟨hd, by simpa using d1.owp (g1 hK)⟩, fun hq => ?_⟩
          obtain ⟨e1, e2⟩ := g2 hq
          simp only [Bool.and_eq_true] at e1
          rw [e2, d2 e1.2]
          exact ⟨e1.1, rfl⟩
        · simp at hx
    · simp at hx
theorem xd_ok {call : CallR} (hk : CallOk P call) {ow : Nat → Bool} {n : Nat} {ops : List Oper} {K : Slots → Heap → Prop} : ∀ (l : List Oper) (k : Nat) {past : List (Nat × Oper × Slots × PV)} {hist : List (Nat × Heap)} {s s' : Slots} {q q' : Bool} {h h' : Heap}, xd P wf call ow n ops k l past hist s q h = some (s', q', h') →
    (K s' h' → drun P ow wf n ops k l (past.map fun x => (x.1, fun h2 => Does P ow x.2.1 (pev x.2.2.1) h2 x.2.2.2 h2)) hist K s h) ∧ (q' = true → q = true ∧ h' = h)
  | [], k, past, hist, s, s', q, q', h, h', hx => by
    simp only [xd, Option.some.injEq, Prod.mk.injEq] at hx
    obtain ⟨rfl, rfl, rfl⟩ := hx
    exact ⟨fun hK => hK, fun hq => ⟨hq, rfl⟩⟩
  | o :: rest, k, past, hist, s, s', q, q', h, h', hx => by
    unfold xd at hx
    split at hx
    · rename_i hd
      unfold drun
      split at hx
      · simp at hx
      · rename_i hw
        obtain ⟨h1, h2⟩ := xd_ok hk rest (k + 1) hx
        rw [hw]
        exact ⟨fun hK => ⟨hd, by simpa using h1 hK⟩, h2⟩
      · rename_i hw
        split at hx
        · simp at hx
        · rename_i v q1 h1 hp
          obtain ⟨d1, d2⟩ := xop_ok hk hp
          rw [hw]
          split at hx
          · rename_i hiw
            split at hx
            · rename_i hpast
              obtain ⟨g1, g2⟩ := xd_ok hk rest (k + 1) hx
              refine ⟨fun hK => ⟨hd, ?_⟩, fun hq => ?_⟩
              · simp only [hiw, if_true]
                refine ⟨v, h1, d1, ?_, g1 hK⟩
                intro x hx1
                obtain ⟨y, hy, rfl⟩ := List.mem_map.1 hx1
                have := List.all_eq_true.1 hpast y hy
                simp only [Bool.or_eq_true] at this
                exact this.imp id (fun t => xagain_ok hk t)
              · obtain ⟨e1, e2⟩ := g2 hq
                simp only [Bool.and_eq_true] at e1
                rw [e2, d2 e1.2]
                exact ⟨e1.1, rfl⟩
            · simp at hx
          · rename_i hiw
            split at hx
            · rename_i hq1
              split at hx
              · rename_i hhist
                obtain ⟨g1, g2⟩ := xd_ok hk rest (k + 1) hx
                refine ⟨fun hK => ⟨hd, ?_⟩, g2⟩
                simp only [hiw, if_true, Bool.false_eq_true, if_false]
                have e1 := d2 hq1
                subst e1
                refine ⟨v, d1, ?_, g1 hK⟩
                intro x hx1
                have := List.all_eq_true.1 hhist x hx1
                simp only [Bool.or_eq_true] at this
                exact this.imp id (fun t => xagain_ok hk t)
              · simp at hx
            · simp at hx
    · simp at hx

theorem xc_ok {call : CallR} (hk : CallOk P call) {ow : Nat → Bool} {n : Nat} : ∀ (m : Nat) (c : Code) {s s' : Slots} {q q' : Bool} {h h' : Heap} {e : Exit}, xc P wf call ow n m c s q h = some (e, s', q', h') →
    (∀ Q : Post, Q e s' h' → awp P ow wf n c Q s h) ∧ (q' = true → q = true ∧ h' = h)
  | 0, c, s, s', q, q', h, h', e, hx => by simp [xc] at hx
  | m + 1, c, s, s', q, q', h, h', e, hx => by
    unfold xc at hx
    split at hx
    · simp only [Option.some.injEq, Prod.mk.injEq] at hx
      obtain ⟨rfl, rfl, rfl, rfl⟩ := hx
      exact ⟨fun Q hQ => by simpa only [awp] using hQ, fun hq => ⟨hq, rfl⟩⟩
    · rename_i id ops
      split at hx
      · rename_i hdo
        simp only [Option.map_eq_some_iff, Prod.mk.injEq] at hx
        obtain ⟨⟨s1, q1, h1⟩, hx, rfl, rfl, rfl, rfl⟩ := hx
        have := fun (Q : Post) => xd_ok (K := Q .normal) hk _ _ hx
        exact ⟨fun Q hQ => by simp only [awp, if_true]; exact .inl ⟨hdo, (this Q).1 hQ⟩, (this (fun _ _ _ => True)).2⟩
      · simp at hx
    · rename_i id ops
      simp only [Option.map_eq_some_iff, Prod.mk.injEq] at hx
      obtain ⟨⟨s1, q1, h1⟩, hx, rfl, rfl, rfl, rfl⟩ := hx
      have := fun (Q : Post) => xl_ok (K := Q .normal) hk _ hx
      exact ⟨fun Q hQ => by simp only [awp, Bool.false_eq_true, if_false]; exact (this Q).1 hQ, (this (fun _ _ _ => True)).2⟩
    · rename_i a b
      split at hx
      · rename_i s1 q1 h1 ha
        obtain ⟨a1, a2⟩ := xc_ok hk m a ha
        obtain ⟨b1, b2⟩ := xc_ok hk m b hx
        refine ⟨fun Q hQ => by simp only [awp]; exact a1 _ (b1 Q hQ), fun hq => ?_⟩
        obtain ⟨e1, e2⟩ := b2 hq
        obtain ⟨e3, e4⟩ := a2 e1
        exact ⟨e3, e2.trans e4⟩
      · rename_i hne
        obtain ⟨a1, a2⟩ := xc_ok hk m a hx
        refine ⟨fun Q hQ => ?_, a2⟩
        simp only [awp]
        refine a1 _ ?_
        cases e <;> simp only [Post.seq] <;> first | exact hQ | exact (hne _ _ _ hx).elim
    · rename_i c x y
      split at hx
      · rename_i hc
        obtain ⟨a1, a2⟩ := xc_ok hk m x hx
        exact ⟨fun Q hQ => by simp only [awp, hc, if_true]; exact a1 Q hQ, a2⟩
      · rename_i hc
        obtain ⟨a1, a2⟩ := xc_ok hk m y hx
        exact ⟨fun Q hQ => by simp only [awp, hc, Bool.false_eq_true, if_false]; exact a1 Q hQ, a2⟩
      · simp at hx
    · rename_i id c
      split at hx
      · rename_i id' s1 q1 h1 ha
        obtain ⟨a1, a2⟩ := xc_ok hk m c ha
        simp only [Option.some.injEq, Prod.mk.injEq] at hx
        obtain ⟨rfl, rfl, rfl, rfl⟩ := hx
        refine ⟨fun Q hQ => ?_, a2⟩
        simp only [awp]
        refine a1 _ ?_
        simp only [Post.block]
        split <;> rename_i hid <;> simpa only [hid, if_true, if_false] using hQ
      · rename_i hne
        obtain ⟨a1, a2⟩ := xc_ok hk m c hx
        refine ⟨fun Q hQ => ?_, a2⟩
        simp only [awp]
        refine a1 _ ?_
        cases e <;> simp only [Post.block] <;> first | exact hQ | exact (hne _ _ _ _ hx).elim
    · rename_i c
      split at hx
      · rename_i s1 q1 h1 ha
        obtain ⟨a1, a2⟩ := xc_ok hk m c ha
        obtain ⟨b1, b2⟩ := xc_ok hk m (.loop c) hx
        refine ⟨fun Q hQ => ?_, fun hq => ?_⟩
        · have := b1 Q hQ
          simp only [awp] at this ⊢
          obtain ⟨j, hj⟩ := this
          exact ⟨j + 1, a1 _ hj⟩
        · obtain ⟨e1, e2⟩ := b2 hq
          obtain ⟨e3, e4⟩ := a2 e1
          exact ⟨e3, e2.trans e4⟩
      · rename_i hne
        obtain ⟨a1, a2⟩ := xc_ok hk m c hx
        refine ⟨fun Q hQ => ?_, a2⟩
        simp only [awp]
        refine ⟨1, a1 _ ?_⟩
        cases e <;> simp only [Post.seq] <;> first | exact hQ | exact (hne _ _ _ hx).elim
    · simp only [Option.some.injEq, Prod.mk.injEq] at hx
      obtain ⟨rfl, rfl, rfl, rfl⟩ := hx
      exact ⟨fun Q hQ => by simpa only [awp] using hQ, fun hq => ⟨hq, rfl⟩⟩
    · simp only [Option.some.injEq, Prod.mk.injEq] at hx
      obtain ⟨rfl, rfl, rfl, rfl⟩ := hx
      exact ⟨fun Q hQ => by simpa only [awp] using hQ, fun hq => ⟨hq, rfl⟩⟩
    · simp at hx

theorem xf_ok (hm : P.follows .mixedOrders = true) {ext : FuncId → List PV → Option PV} (hext : ExtOk P ext) {m : Nat} : ∀ k, CallOk P (xf P wf own ext m k)
  | 0, f, args, h, v, q, h', hx => by simp [xf] at hx
  | k + 1, f, args, h, v, q, h', hx => by
    unfold xf at hx
    split at hx
    · rename_i r hr
      simp only [Option.some.injEq, Prod.mk.injEq] at hx
      obtain ⟨rfl, rfl, rfl⟩ := hx
      exact ⟨hext _ _ _ _ hr, fun _ => rfl⟩
    split at hx
    · simp at hx
    · rename_i fn hf
      split at hx
      · rename_i hh
        split at hx
        · simp at hx
        · rename_i c hb
          split at hx
          · rename_i s q1 h1 hc
            simp only [Option.map_eq_some_iff, Prod.mk.injEq] at hx
            obtain ⟨vs, hr, rfl, rfl, rfl⟩ := hx
            obtain ⟨a1, a2⟩ := xc_ok (xf_ok hm hext k) m c hc
            refine ⟨pcall_body hm hf hb hh.1 hh.2 (a1 _ ?_), fun hq => (a2 hq).2⟩
            simp only [retPost, hr]
            exact ⟨trivial, trivial⟩
          · rename_i s q1 h1 hc
            simp only [Option.map_eq_some_iff, Prod.mk.injEq] at hx
            obtain ⟨vs, hr, rfl, rfl, rfl⟩ := hx
            obtain ⟨a1, a2⟩ := xc_ok (xf_ok hm hext k) m c hc
            refine ⟨pcall_body hm hf hb hh.1 hh.2 (a1 _ ?_), fun hq => (a2 hq).2⟩
            simp only [retPost, hr]
            exact ⟨trivial, trivial⟩
          · simp at hx
      · simp at hx

/-- the first place of a byte -/
theorem pcall_indexByte {f : FuncId} {fn : Func} (hf : P.funcs[f]? = some fn) (hname : (fn.name == "runtime.NumGoroutine") = false) (hb : fn.body.isNone = true) (hn : Extern.findNext fn = none) (he : Extern.find fn = some Extern.BytealgIndexByte.indexByte) (s : ByteArray) (c : Int) (h : Heap) :
    PCall P f [.sc (.string s), .sc (.int .u8 c)] h (fun r h' => r = .sc (.int .i64 (firstIdx s c.toNat.toUInt8)) ∧ h' = h) := by
  intro β w vals sm hr
  match vals, hr.len, hr with
  | [x, y], _, hr =>
    simp only [RepL, Rep] at hr
    obtain ⟨rfl, rfl, _⟩ := hr
    exact .inr ⟨_, w, by rw [run_callFunc_extern hf hname hb hn he]; simp only [run_indexByte_string]; rfl, _, h, β, _, rfl, ⟨rfl, rfl⟩, sm, by simp only [RepH, Rep], Ext.refl⟩

/-- what is to be computed: a result, whatever the heap -/
def xgives (r : Option (PV × Bool × Heap)) (v : PV) : Bool := match r with
  | some (u, _, _) => pvEq u v
  | none => false
theorem pcall_run (hm : P.follows .mixedOrders = true) {ext : FuncId → List PV → Option PV} (hext : ExtOk P ext) {m k : Nat} {f : FuncId} {args : List PV} {h : Heap} {v : PV} (hx : xgives (xf P wf own ext m k f args h) v = true) : PCall P f args h (fun r _ => r = v) := by
  unfold xgives at hx
  split at hx
  · rename_i u q h' hr
    refine ((xf_ok hm hext k _ _ _ _ _ _ hr).1).mono (fun r h'' hr => ?_)
    rw [hr.1, pvEq_eq _ _ hx]
  · simp at hx
end
end Go.AM
