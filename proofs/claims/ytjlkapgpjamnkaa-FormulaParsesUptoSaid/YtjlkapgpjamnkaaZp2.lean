/- What the claim rests on, part 2: the abstract machine, contracts of the functions, plain data. -/
import Derived.Test.YtjlkapgpjamnkaaZp1
set_option linter.unusedVariables false
set_option linter.unusedSimpArgs false
set_option linter.unusedSectionVars false
namespace Go.AM
section
variable {P : Program} {ow : Nat → Bool} {wf : FuncId → Bool} {n : Nat}
theorem new_obj (h : Heap) (o : AObj) (i : Nat) : (h.new o).obj i = if i = h.next then some o else h.obj i := rfl
theorem kill_obj (h : Heap) (id i : Nat) : (h.kill id).obj i = if i = id then none else h.obj i := rfl
theorem set_obj (h : Heap) (id : Nat) (o : AObj) (i : Nat) : (h.set id o).obj i = if i = id then some o else h.obj i := rfl
theorem new_next (h : Heap) (o : AObj) : (h.new o).next = h.next + 1 := rfl
theorem kill_next (h : Heap) (id : Nat) : (h.kill id).next = h.next := rfl
theorem set_next (h : Heap) (id : Nat) (o : AObj) : (h.set id o).next = h.next := rfl
theorem upd_app (s : Slots) (d : Nat) (v : PV) (t : Nat) : upd s d v t = if t = d then v else s t := rfl
theorem updO_some (s : Slots) (d : Nat) (v : PV) : updO s (some d) v = upd s d v := rfl
theorem updO_none (s : Slots) (v : PV) : updO s none v = s := rfl
theorem slots0_app (l : List PV) (t : Nat) : slots0 l t = l.getD t (.sc undef) := rfl
theorem constPV_int (k : IntKind) (i : Int) : constPV (.int k i) = .sc (.int k i) := rfl
theorem constPV_bool (b : Bool) : constPV (.bool b) = .sc (.bool b) := rfl
theorem constPV_str (b : ByteArray) : constPV (.string b) = .sc (.string b) := rfl
theorem constPV_nilI : constPV .nilIface = .sc .nilIface := rfl
theorem constPV_ptr (a : Option Addr) : constPV (.pointer a) = .sc (.pointer a) := rfl
theorem constPV_slice (a : Option Addr) (l c : Nat) : constPV (.slice a l c) = .sc (.slice a l c) := rfl
theorem constPV_map (a : Option Nat) : constPV (.map a) = .sc (.map a) := rfl
theorem constPV_agg (l : List Value) : constPV (.agg l.toArray) = if l.all Value.oneCell' = true then .agg (l.map .sc) else .sc (.agg l.toArray) := rfl
theorem owp_mono {o : Oper} {K K' : Slots → Heap → Prop} (hk : ∀ s h, K s h → K' s h) {s : Slots} {h : Heap} (ho : owp P ow o K s h) : owp P ow o K' s h := by
  unfold owp at ho ⊢
  split at ho
  · exact ho.mono fun _ _ => hk _ _
  · split at ho
    · exact hk _ _ ho
    · exact ho
theorem lwp_mono {ops : List Oper} {K K' : Slots → Heap → Prop} (hk : ∀ s h, K s h → K' s h) : ∀ (l : List Oper) {s : Slots} {h : Heap}, lwp P ow n ops l K s h → lwp P ow n ops l K' s h
  | [], s, h, hl => hk s h hl
  | o :: rest, s, h, hl => by
    simp only [lwp] at hl ⊢
    refine ⟨hl.1, ?_⟩
    have h2 := hl.2
    split at h2
    · exact h2.elim
    · split at h2
      · rename_i hb; simp only [hb, if_true]; exact owp_mono (fun s h => lwp_mono hk rest) h2
      · rename_i hb; simp only [hb, if_false, Bool.false_eq_true]; exact lwp_mono hk rest h2
theorem drun_mono {ops : List Oper} {K K' : Slots → Heap → Prop} (hk : ∀ s h, K s h → K' s h) : ∀ (l : List Oper) (k : Nat) (past : List (Nat × (Heap → Prop))) (hist : List (Nat × Heap)) {s : Slots} {h : Heap}, drun P ow wf n ops k l past hist K s h → drun P ow wf n ops k l past hist K' s h
  | [], _, _, _, s, h, hl => hk s h hl
  | o :: rest, k, past, hist, s, h, hl => by
    simp only [drun] at hl ⊢
    refine ⟨hl.1, ?_⟩
    have h2 := hl.2
    split at h2
    · exact h2.elim
    · split at h2
      · rename_i hb
        simp only [hb, if_true]
        split at h2
        · rename_i hw
          obtain ⟨v, h', g1, g2, g3⟩ := h2
          rw [if_pos hw]
          exact ⟨v, h', g1, g2, drun_mono hk rest _ _ _ g3⟩
        · rename_i hw
          obtain ⟨v, g1, g2, g3⟩ := h2
          rw [if_neg hw]
          exact ⟨v, g1, g2, drun_mono hk rest _ _ _ g3⟩
      · rename_i hb; simp only [hb, if_false, Bool.false_eq_true]; exact drun_mono hk rest _ _ _ h2
theorem loopN_mono {c : Post → Slots → Heap → Prop} (hc : ∀ {Q Q' : Post}, (∀ e s h, Q e s h → Q' e s h) → ∀ {s h}, c Q s h → c Q' s h) {Q Q' : Post} (hq : ∀ e s h, Q e s h → Q' e s h) : ∀ {k k' : Nat}, k ≤ k' → ∀ {s : Slots} {h : Heap}, loopN c Q k s h → loopN c Q' k' s h
  | 0, _, _, _, _, hl => hl.elim
  | k + 1, 0, hle, _, _, _ => by omega
  | k + 1, k' + 1, hle, s, h, hl => by
    simp only [loopN] at hl ⊢
    refine hc (fun e s h hh => ?_) hl
    cases e <;> simp only [Post.seq] at hh ⊢
    · exact loopN_mono hc hq (by omega) hh
    all_goals exact hq _ _ _ hh
theorem awp_mono : ∀ (c : Code) {Q Q' : Post}, (∀ e s h, Q e s h → Q' e s h) → ∀ {s : Slots} {h : Heap}, awp P ow wf n c Q s h → awp P ow wf n c Q' s h
  | .skip, _, _, hq, _, _, hw => hq _ _ _ hw
  | .region id ops d, Q, Q', hq, s, h, hw => by
    simp only [awp] at hw ⊢
    cases d with
    | true =>
      simp only [if_true] at hw ⊢
      exact hw.imp (fun hw => ⟨hw.1, drun_mono (fun s h => hq _ s h) _ _ _ _ hw.2⟩) (fun hw => hw.imp (fun hw => False.elim hw) (fun hw => False.elim hw))
    | false => simp only [Bool.false_eq_true, if_false] at hw ⊢; exact lwp_mono (fun s h => hq _ s h) _ hw
  | .seq a b, Q, Q', hq, s, h, hw => by
    simp only [awp] at hw ⊢
    refine awp_mono a (fun e s h hh => ?_) hw
    cases e <;> simp only [Post.seq] at hh ⊢
    · exact awp_mono b hq hh
    all_goals exact hq _ _ _ hh
  | .cond c x y, Q, Q', hq, s, h, hw => by
    simp only [awp] at hw ⊢
    split at hw
    · split at hw
      · rename_i hb; rw [if_pos hb]; exact awp_mono x hq hw
      · rename_i hb; rw [if_neg hb]; exact awp_mono y hq hw
    · exact hw
  | .block id c, Q, Q', hq, s, h, hw => by
    simp only [awp] at hw ⊢
    refine awp_mono c (fun e s h hh => ?_) hw
    cases e <;> simp only [Post.block] at hh ⊢
    case exit id' => split at hh <;> rename_i he <;> simp only [he, if_true, if_false] <;> exact hq _ _ _ hh
    all_goals exact hq _ _ _ hh
  | .loop c, Q, Q', hq, s, h, hw => by
    simp only [awp] at hw ⊢
    obtain ⟨k, hw⟩ := hw
    exact ⟨k, loopN_mono (c := awp P ow wf n c) (fun hqq => awp_mono c hqq) hq (Nat.le_refl _) hw⟩
  | .exit id, _, _, hq, _, _, hw => hq _ _ _ hw
  | .ret, _, _, hq, _, _, hw => hq _ _ _ hw
  | .rangeFunc _ _ _ _, _, _, _, _, _, hw => hw
  | .scope _, _, _, _, _, _, hw => hw
  | .label _, _, _, _, _, _, hw => hw
  | .goto _, _, _, _, _, _, hw => hw
  | .refuse _, _, _, _, _, _, hw => hw
variable {Q : Post} {s : Slots} {h : Heap}
theorem a_skip (hq : Q .normal s h) : awp P ow wf n .skip Q s h := hq
theorem a_exit {id : Nat} (hq : Q (.exit id) s h) : awp P ow wf n (.exit id) Q s h := hq
theorem a_ret (hq : Q .ret s h) : awp P ow wf n .ret Q s h := hq
theorem a_seq {a b : Code} (hk : ∀ K : Slots → Heap → Prop, (∀ s h, awp P ow wf n b Q s h → K s h) → awp P ow wf n a (Post.seq K Q) s h) : awp P ow wf n (.seq a b) Q s h := by
  simp only [awp]; exact hk _ fun _ _ x => x
theorem a_block {id : Nat} {c : Code} (hk : awp P ow wf n c (Post.block id Q) s h) : awp P ow wf n (.block id c) Q s h := hk
theorem a_cond {c : Operand} {x y : Code} (b : Bool) (hc : pev s c = .sc (.bool b)) (h1 : b = true → awp P ow wf n x Q s h) (h2 : b = false → awp P ow wf n y Q s h) : awp P ow wf n (.cond c x y) Q s h := by
  simp only [awp, hc]
  cases b with
  | true => simpa using h1 rfl
  | false => simpa using h2 rfl
def lwn (P : Program) (ow : Nat → Bool) (n : Nat) (ops : List Oper) : List Oper → (Slots → Heap → Prop) → Slots → Heap → Prop
  | [], K, s, h => K s h
  | o :: rest, K, s, h => (o.dst.all (fun d => decide (d < n)) = true) ∧ match wantedB ops s o with
    | none => False
    | some b => if b = true then
        (match callee (pev s) o.op with
        | none => (match eff P (o.dst.any ow) o.op (pev s) h with
          | some (v, h1) => lwn P ow n ops rest K (updO s o.dst v) h1
          | none => False)
        | some _ => owp P ow o (lwp P ow n ops rest K) s h)
      else lwn P ow n ops rest K (updO s o.dst (.sc undef)) h
theorem lwn_lwp {ops : List Oper} {K : Slots → Heap → Prop} : (rest : List Oper) → (s : Slots) → (h : Heap) → lwn P ow n ops rest K s h → lwp P ow n ops rest K s h
  | [], _, _, hh => by simpa only [lwn, lwp] using hh
  | o :: rest, s, h, hh => by
    simp only [lwn] at hh
    simp only [lwp]
    refine ⟨hh.1, ?_⟩
    have h2 := hh.2
    clear hh
    cases hw : wantedB ops s o with
    | none => rw [hw] at h2; exact h2
    | some b =>
      rw [hw] at h2
      simp only at h2 ⊢
      split at h2
      · rename_i hb
        rw [if_pos hb]
        cases hc : callee (pev s) o.op with
        | none =>
          rw [hc] at h2
          simp only at h2
          unfold owp
          rw [hc]
          simp only
          cases he : eff P (o.dst.any ow) o.op (pev s) h with
          | none => rw [he] at h2; exact h2.elim
          | some r =>
            rw [he] at h2
            exact lwn_lwp rest _ _ h2
        | some f =>
          rw [hc] at h2
          exact h2
      · rename_i hb
        rw [if_neg hb]
        exact lwn_lwp rest _ _ h2
theorem a_region {id : Nat} {ops : List Oper} (hk : ∀ K : Slots → Heap → Prop, (∀ s h, Q .normal s h → K s h) → lwn P ow n ops ops K s h) : awp P ow wf n (.region id ops.toArray false) Q s h := by
  simp only [awp, Bool.false_eq_true, if_false]; exact lwn_lwp _ _ _ (hk _ fun _ _ x => x)
theorem a_regionS {id : Nat} {ops : List Oper} {K : Slots → Heap → Prop} (hk : lwn P ow n ops ops K s h) : awp P ow wf n (.region id ops.toArray false) (Post.seq K Q) s h := by
  simp only [awp, Bool.false_eq_true, if_false]; exact lwn_lwp _ _ _ hk
abbrev Past := List (Nat × Oper × Slots × PV)
def pastC (P : Program) (ow : Nat → Bool) (l : Past) : List (Nat × (Heap → Prop)) := l.map fun x => (x.1, fun h' => Does P ow x.2.1 (pev x.2.2.1) h' x.2.2.2 h')
def drn (P : Program) (ow : Nat → Bool) (wf : FuncId → Bool) (n : Nat) (ops : List Oper) : Nat → List Oper → Past → List (Nat × Heap) → (Slots → Heap → Prop) → Slots → Heap → Prop
  | _, [], _, _, K, s, h => K s h
  | k, o :: rest, past, hist, K, s, h => (o.dst.all (fun d => decide (d < n)) = true) ∧ match wantedB ops s o with
    | none => False
    | some b => if b = true then
        (match callee (pev s) o.op with
        | none => (match eff P (o.dst.any ow) o.op (pev s) h with
          | some (v, h1) => if isW ow wf o = true then (∀ x ∈ past, pre ops x.1 k = true ∨ Does P ow x.2.1 (pev x.2.2.1) h1 x.2.2.2 h1) ∧ drn P ow wf n ops (k + 1) rest past ((k, h) :: hist) K (updO s o.dst v) h1
            else h1 = h ∧ (∀ x ∈ hist, pre ops x.1 k = true ∨ Does P ow o (pev s) x.2 v x.2) ∧ drn P ow wf n ops (k + 1) rest ((k, o, s, v) :: past) hist K (updO s o.dst v) h
          | none => False)
        | some _ => (if isW ow wf o = true then ∃ v h', Does P ow o (pev s) h v h' ∧ (∀ x ∈ pastC P ow past, pre ops x.1 k = true ∨ x.2 h') ∧ drun P ow wf n ops (k + 1) rest (pastC P ow past) ((k, h) :: hist) K (updO s o.dst v) h'
          else ∃ v, Does P ow o (pev s) h v h ∧ (∀ x ∈ hist, pre ops x.1 k = true ∨ Does P ow o (pev s) x.2 v x.2) ∧ drun P ow wf n ops (k + 1) rest (pastC P ow ((k, o, s, v) :: past)) hist K (updO s o.dst v) h))
      else drn P ow wf n ops (k + 1) rest past hist K (updO s o.dst (.sc undef)) h
theorem drn_drun {ops : List Oper} {K : Slots → Heap → Prop} : (rest : List Oper) → (k : Nat) → (past : Past) → (hist : List (Nat × Heap)) → (s : Slots) → (h : Heap) → drn P ow wf n ops k rest past hist K s h → drun P ow wf n ops k rest (pastC P ow past) hist K s h
  | [], _, _, _, _, _, hh => by simpa only [drn, drun] using hh
  | o :: rest, k, past, hist, s, h, hh => by
    simp only [drn] at hh
    simp only [drun]
    refine ⟨hh.1, ?_⟩
    have h2 := hh.2
    clear hh
    cases hw : wantedB ops s o with
    | none => rw [hw] at h2; exact h2
    | some b =>
      rw [hw] at h2
      simp only at h2 ⊢
      have pc : ∀ h1, (∀ x ∈ past, pre ops x.1 k = true ∨ Does P ow x.2.1 (pev x.2.2.1) h1 x.2.2.2 h1) → ∀ x ∈ pastC P ow past, pre ops x.1 k = true ∨ x.2 h1 := by
        intro h1 hp x hx
        obtain ⟨y, hy, rfl⟩ := List.mem_map.1 hx
        exact hp y hy
      split at h2
      · rename_i hb
        rw [if_pos hb]
        cases hc : callee (pev s) o.op with
        | none =>
          rw [hc] at h2
          simp only at h2
          cases he : eff P (o.dst.any ow) o.op (pev s) h with
          | none => rw [he] at h2; exact h2.elim
          | some r =>
            obtain ⟨v, h1⟩ := r
            rw [he] at h2
            simp only at h2
            have hd : Does P ow o (pev s) h v h1 := by unfold Does; rw [hc]; exact he
            split at h2
            · rename_i hi
              rw [if_pos hi]
              exact ⟨v, h1, hd, pc h1 h2.1, drn_drun rest _ _ _ _ _ h2.2⟩
            · rename_i hi
              rw [if_neg hi]
              obtain ⟨rfl, h3, h4⟩ := h2
              exact ⟨v, hd, h3, drn_drun rest _ _ _ _ _ h4⟩
        | some f =>
          rw [hc] at h2
          simp only at h2
          split at h2
          · rename_i hi
            rw [if_pos hi]
            obtain ⟨v, h1, hd, h3, h4⟩ := h2
            exact ⟨v, h1, hd, h3, h4⟩
          · rename_i hi
            rw [if_neg hi]
            obtain ⟨v, hd, h3, h4⟩ := h2
            exact ⟨v, hd, h3, h4⟩
      · rename_i hb
        rw [if_neg hb]
        exact drn_drun rest _ _ _ _ _ h2
theorem a_draw {id : Nat} {ops : List Oper} (hd : dOk ow wf ops = true) (hk : ∀ K : Slots → Heap → Prop, (∀ s h, Q .normal s h → K s h) → drn P ow wf n ops 0 ops [] [] K s h) : awp P ow wf n (.region id ops.toArray true) Q s h := by
  simp only [awp, if_true]; exact .inl ⟨hd, drn_drun _ _ _ _ _ _ (hk _ fun _ _ x => x)⟩
theorem a_drawS {id : Nat} {ops : List Oper} {K : Slots → Heap → Prop} (hd : dOk ow wf ops = true) (hk : drn P ow wf n ops 0 ops [] [] K s h) : awp P ow wf n (.region id ops.toArray true) (Post.seq K Q) s h := by
  simp only [awp, if_true]; exact .inl ⟨hd, drn_drun _ _ _ _ _ _ hk⟩
theorem ite_in {c : Prop} [Decidable c] {A B : Prop} (h1 : c → A) (h2 : ¬ c → B) : if c then A else B := by
  by_cases h : c
  · rw [if_pos h]; exact h1 h
  · rw [if_neg h]; exact h2 h
theorem a_loop {c : Code} (I : Nat → Slots → Heap → Prop) (m : Nat) (h0 : I m s h) (step : ∀ m s h, I m s h → awp P ow wf n c (Post.seq (fun s' h' => ∃ m', m' < m ∧ I m' s' h') Q) s h) : awp P ow wf n (.loop c) Q s h := by
  have key : ∀ m s h, I m s h → loopN (awp P ow wf n c) Q (m + 1) s h := by
    intro m
    induction m using Nat.strongRecOn with
    | _ m ih =>
      intro s h hi
      simp only [loopN]
      refine awp_mono c (fun e s h hh => ?_) (step m s h hi)
      cases e <;> simp only [Post.seq] at hh ⊢
      · obtain ⟨m', h1, h2⟩ := hh
        exact loopN_mono (c := awp P ow wf n c) (k := m' + 1) (k' := m) (fun hqq => awp_mono c hqq) (fun _ _ _ x => x) (by omega) (ih m' h1 _ _ h2)
      all_goals exact hh
  exact ⟨m + 1, key m s h h0⟩
theorem owp_use {f : FuncId} {dst : Option Tmp} {args : List Operand} {ts : Array TypeId} {ty : TypeId} {pos : String} {af : Array Edge} {gd : Option (Nat × Bool)} {as : List PV} {Kc : PV → Heap → Prop} {K : Slots → Heap → Prop}
    (hc : PCall P f as h Kc) (ha : args.map (pev s) = as) (hk : ∀ r h', Kc r h' → K (updO s dst r) h') :
    owp P ow { dst := dst, op := .call { callee := .value (.func f), args := args.toArray, argTypes := ts }, type := ty, pos := pos, after := af, guard := gd } K s h := by
  unfold owp
  simp only [callee, pev, and_self, if_true]
  rw [ha]
  exact hc.mono hk
theorem owp_useL {f : FuncId} {dst : Option Tmp} {args : List Operand} {ts : Array TypeId} {ty : TypeId} {pos : String} {af : Array Edge} {gd : Option (Nat × Bool)} {as : List PV} {Kc : PV → Heap → Prop} {K : Slots → Heap → Prop} {ops rest : List Oper}
    (hc : PCall P f as h Kc) (ha : args.map (pev s) = as) (hk : ∀ r h', Kc r h' → lwn P ow n ops rest K (updO s dst r) h') :
    owp P ow { dst := dst, op := .call { callee := .value (.func f), args := args.toArray, argTypes := ts }, type := ty, pos := pos, after := af, guard := gd } (lwp P ow n ops rest K) s h :=
  owp_use hc ha fun r h' hr => lwn_lwp _ _ _ (hk r h' hr)
theorem owp_useQ {f : FuncId} {dst : Option Tmp} {args : List Operand} {ts : Array TypeId} {ty : TypeId} {pos : String} {af : Array Edge} {gd : Option (Nat × Bool)} {as : List PV} {v : PV} {K : Slots → Heap → Prop} {ops rest : List Oper}
    (hc : PCall P f as h fun r h' => r = v ∧ h' = h) (ha : args.map (pev s) = as) (hk : lwn P ow n ops rest K (updO s dst v) h) :
    owp P ow { dst := dst, op := .call { callee := .value (.func f), args := args.toArray, argTypes := ts }, type := ty, pos := pos, after := af, guard := gd } (lwp P ow n ops rest K) s h :=
  owp_useL hc ha fun r h' hr => by rw [hr.1, hr.2]; exact hk
theorem owp_move {dst : Option Tmp} {ty : TypeId} {pos : String} {af : Array Edge} {gd : Option (Nat × Bool)} {K : Slots → Heap → Prop} (x : Operand) : owp P ow { dst := dst, op := .move x, type := ty, pos := pos, after := af, guard := gd } K s h = match eff P (dst.any ow) (.move x) (pev s) h with | some (r, h') => K (updO s dst r) h' | none => False := rfl
theorem Does_move {dst : Option Tmp} {ty : TypeId} {pos : String} {af : Array Edge} {gd : Option (Nat × Bool)} {v : PV} {h' : Heap} (x : Operand) : Does P ow { dst := dst, op := .move x, type := ty, pos := pos, after := af, guard := gd } (pev s) h v h' = (eff P (dst.any ow) (.move x) (pev s) h = some (v, h')) := rfl
theorem owp_assign {dst : Option Tmp} {ty : TypeId} {pos : String} {af : Array Edge} {gd : Option (Nat × Bool)} {K : Slots → Heap → Prop} (x : Operand) : owp P ow { dst := dst, op := .assign x, type := ty, pos := pos, after := af, guard := gd } K s h = match eff P (dst.any ow) (.assign x) (pev s) h with | some (r, h') => K (updO s dst r) h' | none => False := rfl
theorem Does_assign {dst : Option Tmp} {ty : TypeId} {pos : String} {af : Array Edge} {gd : Option (Nat × Bool)} {v : PV} {h' : Heap} (x : Operand) : Does P ow { dst := dst, op := .assign x, type := ty, pos := pos, after := af, guard := gd } (pev s) h v h' = (eff P (dst.any ow) (.assign x) (pev s) h = some (v, h')) := rfl
theorem owp_pick {dst : Option Tmp} {ty : TypeId} {pos : String} {af : Array Edge} {gd : Option (Nat × Bool)} {K : Slots → Heap → Prop} (c : Operand) (a : Operand) (b : Operand) : owp P ow { dst := dst, op := .pick c a b, type := ty, pos := pos, after := af, guard := gd } K s h = match eff P (dst.any ow) (.pick c a b) (pev s) h with | some (r, h') => K (updO s dst r) h' | none => False := rfl
theorem Does_pick {dst : Option Tmp} {ty : TypeId} {pos : String} {af : Array Edge} {gd : Option (Nat × Bool)} {v : PV} {h' : Heap} (c : Operand) (a : Operand) (b : Operand) : Does P ow { dst := dst, op := .pick c a b, type := ty, pos := pos, after := af, guard := gd } (pev s) h v h' = (eff P (dst.any ow) (.pick c a b) (pev s) h = some (v, h')) := rfl
theorem owp_alloc {dst : Option Tmp} {ty : TypeId} {pos : String} {af : Array Edge} {gd : Option (Nat × Bool)} {K : Slots → Heap → Prop} (t : TypeId) : owp P ow { dst := dst, op := .alloc t, type := ty, pos := pos, after := af, guard := gd } K s h = match eff P (dst.any ow) (.alloc t) (pev s) h with | some (r, h') => K (updO s dst r) h' | none => False := rfl
theorem Does_alloc {dst : Option Tmp} {ty : TypeId} {pos : String} {af : Array Edge} {gd : Option (Nat × Bool)} {v : PV} {h' : Heap} (t : TypeId) : Does P ow { dst := dst, op := .alloc t, type := ty, pos := pos, after := af, guard := gd } (pev s) h v h' = (eff P (dst.any ow) (.alloc t) (pev s) h = some (v, h')) := rfl
theorem owp_box {dst : Option Tmp} {ty : TypeId} {pos : String} {af : Array Edge} {gd : Option (Nat × Bool)} {K : Slots → Heap → Prop} (t : TypeId) (x : Operand) : owp P ow { dst := dst, op := .box t x, type := ty, pos := pos, after := af, guard := gd } K s h = match eff P (dst.any ow) (.box t x) (pev s) h with | some (r, h') => K (updO s dst r) h' | none => False := rfl
theorem Does_box {dst : Option Tmp} {ty : TypeId} {pos : String} {af : Array Edge} {gd : Option (Nat × Bool)} {v : PV} {h' : Heap} (t : TypeId) (x : Operand) : Does P ow { dst := dst, op := .box t x, type := ty, pos := pos, after := af, guard := gd } (pev s) h v h' = (eff P (dst.any ow) (.box t x) (pev s) h = some (v, h')) := rfl
theorem owp_build {dst : Option Tmp} {ty : TypeId} {pos : String} {af : Array Edge} {gd : Option (Nat × Bool)} {K : Slots → Heap → Prop} (t : TypeId) (ps : Array (Nat × Operand)) : owp P ow { dst := dst, op := .build t ps, type := ty, pos := pos, after := af, guard := gd } K s h = match eff P (dst.any ow) (.build t ps) (pev s) h with | some (r, h') => K (updO s dst r) h' | none => False := rfl
theorem Does_build {dst : Option Tmp} {ty : TypeId} {pos : String} {af : Array Edge} {gd : Option (Nat × Bool)} {v : PV} {h' : Heap} (t : TypeId) (ps : Array (Nat × Operand)) : Does P ow { dst := dst, op := .build t ps, type := ty, pos := pos, after := af, guard := gd } (pev s) h v h' = (eff P (dst.any ow) (.build t ps) (pev s) h = some (v, h')) := rfl
theorem owp_buildSlice {dst : Option Tmp} {ty : TypeId} {pos : String} {af : Array Edge} {gd : Option (Nat × Bool)} {K : Slots → Heap → Prop} (t : TypeId) (l : Nat) (ps : Array (Nat × Operand)) : owp P ow { dst := dst, op := .buildSlice t l ps, type := ty, pos := pos, after := af, guard := gd } K s h = match eff P (dst.any ow) (.buildSlice t l ps) (pev s) h with | some (r, h') => K (updO s dst r) h' | none => False := rfl
theorem Does_buildSlice {dst : Option Tmp} {ty : TypeId} {pos : String} {af : Array Edge} {gd : Option (Nat × Bool)} {v : PV} {h' : Heap} (t : TypeId) (l : Nat) (ps : Array (Nat × Operand)) : Does P ow { dst := dst, op := .buildSlice t l ps, type := ty, pos := pos, after := af, guard := gd } (pev s) h v h' = (eff P (dst.any ow) (.buildSlice t l ps) (pev s) h = some (v, h')) := rfl
theorem owp_load {dst : Option Tmp} {ty : TypeId} {pos : String} {af : Array Edge} {gd : Option (Nat × Bool)} {K : Slots → Heap → Prop} (t : TypeId) (x : Operand) : owp P ow { dst := dst, op := .load t x, type := ty, pos := pos, after := af, guard := gd } K s h = match eff P (dst.any ow) (.load t x) (pev s) h with | some (r, h') => K (updO s dst r) h' | none => False := rfl
theorem Does_load {dst : Option Tmp} {ty : TypeId} {pos : String} {af : Array Edge} {gd : Option (Nat × Bool)} {v : PV} {h' : Heap} (t : TypeId) (x : Operand) : Does P ow { dst := dst, op := .load t x, type := ty, pos := pos, after := af, guard := gd } (pev s) h v h' = (eff P (dst.any ow) (.load t x) (pev s) h = some (v, h')) := rfl
theorem owp_store {dst : Option Tmp} {ty : TypeId} {pos : String} {af : Array Edge} {gd : Option (Nat × Bool)} {K : Slots → Heap → Prop} (t : TypeId) (x : Operand) (y : Operand) : owp P ow { dst := dst, op := .store t x y, type := ty, pos := pos, after := af, guard := gd } K s h = match eff P (dst.any ow) (.store t x y) (pev s) h with | some (r, h') => K (updO s dst r) h' | none => False := rfl
theorem Does_store {dst : Option Tmp} {ty : TypeId} {pos : String} {af : Array Edge} {gd : Option (Nat × Bool)} {v : PV} {h' : Heap} (t : TypeId) (x : Operand) (y : Operand) : Does P ow { dst := dst, op := .store t x y, type := ty, pos := pos, after := af, guard := gd } (pev s) h v h' = (eff P (dst.any ow) (.store t x y) (pev s) h = some (v, h')) := rfl
theorem owp_nilCheck {dst : Option Tmp} {ty : TypeId} {pos : String} {af : Array Edge} {gd : Option (Nat × Bool)} {K : Slots → Heap → Prop} (x : Operand) : owp P ow { dst := dst, op := .nilCheck x, type := ty, pos := pos, after := af, guard := gd } K s h = match eff P (dst.any ow) (.nilCheck x) (pev s) h with | some (r, h') => K (updO s dst r) h' | none => False := rfl
theorem Does_nilCheck {dst : Option Tmp} {ty : TypeId} {pos : String} {af : Array Edge} {gd : Option (Nat × Bool)} {v : PV} {h' : Heap} (x : Operand) : Does P ow { dst := dst, op := .nilCheck x, type := ty, pos := pos, after := af, guard := gd } (pev s) h v h' = (eff P (dst.any ow) (.nilCheck x) (pev s) h = some (v, h')) := rfl
theorem owp_binOp {dst : Option Tmp} {ty : TypeId} {pos : String} {af : Array Edge} {gd : Option (Nat × Bool)} {K : Slots → Heap → Prop} (op : BinOp) (t : TypeId) (x : Operand) (y : Operand) (u : TypeId) : owp P ow { dst := dst, op := .binOp op t x y u, type := ty, pos := pos, after := af, guard := gd } K s h = match eff P (dst.any ow) (.binOp op t x y u) (pev s) h with | some (r, h') => K (updO s dst r) h' | none => False := rfl
theorem Does_binOp {dst : Option Tmp} {ty : TypeId} {pos : String} {af : Array Edge} {gd : Option (Nat × Bool)} {v : PV} {h' : Heap} (op : BinOp) (t : TypeId) (x : Operand) (y : Operand) (u : TypeId) : Does P ow { dst := dst, op := .binOp op t x y u, type := ty, pos := pos, after := af, guard := gd } (pev s) h v h' = (eff P (dst.any ow) (.binOp op t x y u) (pev s) h = some (v, h')) := rfl
theorem owp_unOp {dst : Option Tmp} {ty : TypeId} {pos : String} {af : Array Edge} {gd : Option (Nat × Bool)} {K : Slots → Heap → Prop} (op : UnOp) (t : TypeId) (x : Operand) : owp P ow { dst := dst, op := .unOp op t x, type := ty, pos := pos, after := af, guard := gd } K s h = match eff P (dst.any ow) (.unOp op t x) (pev s) h with | some (r, h') => K (updO s dst r) h' | none => False := rfl
theorem Does_unOp {dst : Option Tmp} {ty : TypeId} {pos : String} {af : Array Edge} {gd : Option (Nat × Bool)} {v : PV} {h' : Heap} (op : UnOp) (t : TypeId) (x : Operand) : Does P ow { dst := dst, op := .unOp op t x, type := ty, pos := pos, after := af, guard := gd } (pev s) h v h' = (eff P (dst.any ow) (.unOp op t x) (pev s) h = some (v, h')) := rfl
theorem owp_convert {dst : Option Tmp} {ty : TypeId} {pos : String} {af : Array Edge} {gd : Option (Nat × Bool)} {K : Slots → Heap → Prop} (a : TypeId) (b : TypeId) (x : Operand) : owp P ow { dst := dst, op := .convert a b x, type := ty, pos := pos, after := af, guard := gd } K s h = match eff P (dst.any ow) (.convert a b x) (pev s) h with | some (r, h') => K (updO s dst r) h' | none => False := rfl
theorem Does_convert {dst : Option Tmp} {ty : TypeId} {pos : String} {af : Array Edge} {gd : Option (Nat × Bool)} {v : PV} {h' : Heap} (a : TypeId) (b : TypeId) (x : Operand) : Does P ow { dst := dst, op := .convert a b x, type := ty, pos := pos, after := af, guard := gd } (pev s) h v h' = (eff P (dst.any ow) (.convert a b x) (pev s) h = some (v, h')) := rfl
theorem owp_makeInterface {dst : Option Tmp} {ty : TypeId} {pos : String} {af : Array Edge} {gd : Option (Nat × Bool)} {K : Slots → Heap → Prop} (t : TypeId) (x : Operand) : owp P ow { dst := dst, op := .makeInterface t x, type := ty, pos := pos, after := af, guard := gd } K s h = match eff P (dst.any ow) (.makeInterface t x) (pev s) h with | some (r, h') => K (updO s dst r) h' | none => False := rfl
theorem Does_makeInterface {dst : Option Tmp} {ty : TypeId} {pos : String} {af : Array Edge} {gd : Option (Nat × Bool)} {v : PV} {h' : Heap} (t : TypeId) (x : Operand) : Does P ow { dst := dst, op := .makeInterface t x, type := ty, pos := pos, after := af, guard := gd } (pev s) h v h' = (eff P (dst.any ow) (.makeInterface t x) (pev s) h = some (v, h')) := rfl
theorem owp_makeMap {dst : Option Tmp} {ty : TypeId} {pos : String} {af : Array Edge} {gd : Option (Nat × Bool)} {K : Slots → Heap → Prop} (t : TypeId) (r : Option Operand) : owp P ow { dst := dst, op := .makeMap t r, type := ty, pos := pos, after := af, guard := gd } K s h = match eff P (dst.any ow) (.makeMap t r) (pev s) h with | some (r, h') => K (updO s dst r) h' | none => False := rfl
theorem Does_makeMap {dst : Option Tmp} {ty : TypeId} {pos : String} {af : Array Edge} {gd : Option (Nat × Bool)} {v : PV} {h' : Heap} (t : TypeId) (r : Option Operand) : Does P ow { dst := dst, op := .makeMap t r, type := ty, pos := pos, after := af, guard := gd } (pev s) h v h' = (eff P (dst.any ow) (.makeMap t r) (pev s) h = some (v, h')) := rfl
theorem owp_makeSlice {dst : Option Tmp} {ty : TypeId} {pos : String} {af : Array Edge} {gd : Option (Nat × Bool)} {K : Slots → Heap → Prop} (t : TypeId) (l : Operand) (c : Operand) : owp P ow { dst := dst, op := .makeSlice t l c, type := ty, pos := pos, after := af, guard := gd } K s h = match eff P (dst.any ow) (.makeSlice t l c) (pev s) h with | some (r, h') => K (updO s dst r) h' | none => False := rfl
theorem Does_makeSlice {dst : Option Tmp} {ty : TypeId} {pos : String} {af : Array Edge} {gd : Option (Nat × Bool)} {v : PV} {h' : Heap} (t : TypeId) (l : Operand) (c : Operand) : Does P ow { dst := dst, op := .makeSlice t l c, type := ty, pos := pos, after := af, guard := gd } (pev s) h v h' = (eff P (dst.any ow) (.makeSlice t l c) (pev s) h = some (v, h')) := rfl
theorem owp_slice {dst : Option Tmp} {ty : TypeId} {pos : String} {af : Array Edge} {gd : Option (Nat × Bool)} {K : Slots → Heap → Prop} (t : TypeId) (x : Operand) (lo : Option Operand) (hi : Option Operand) (mx : Option Operand) : owp P ow { dst := dst, op := .slice t x lo hi mx, type := ty, pos := pos, after := af, guard := gd } K s h = match eff P (dst.any ow) (.slice t x lo hi mx) (pev s) h with | some (r, h') => K (updO s dst r) h' | none => False := rfl
theorem Does_slice {dst : Option Tmp} {ty : TypeId} {pos : String} {af : Array Edge} {gd : Option (Nat × Bool)} {v : PV} {h' : Heap} (t : TypeId) (x : Operand) (lo : Option Operand) (hi : Option Operand) (mx : Option Operand) : Does P ow { dst := dst, op := .slice t x lo hi mx, type := ty, pos := pos, after := af, guard := gd } (pev s) h v h' = (eff P (dst.any ow) (.slice t x lo hi mx) (pev s) h = some (v, h')) := rfl
theorem owp_fieldAddr {dst : Option Tmp} {ty : TypeId} {pos : String} {af : Array Edge} {gd : Option (Nat × Bool)} {K : Slots → Heap → Prop} (t : TypeId) (x : Operand) (f : Nat) : owp P ow { dst := dst, op := .fieldAddr t x f, type := ty, pos := pos, after := af, guard := gd } K s h = match eff P (dst.any ow) (.fieldAddr t x f) (pev s) h with | some (r, h') => K (updO s dst r) h' | none => False := rfl
theorem Does_fieldAddr {dst : Option Tmp} {ty : TypeId} {pos : String} {af : Array Edge} {gd : Option (Nat × Bool)} {v : PV} {h' : Heap} (t : TypeId) (x : Operand) (f : Nat) : Does P ow { dst := dst, op := .fieldAddr t x f, type := ty, pos := pos, after := af, guard := gd } (pev s) h v h' = (eff P (dst.any ow) (.fieldAddr t x f) (pev s) h = some (v, h')) := rfl
theorem owp_field {dst : Option Tmp} {ty : TypeId} {pos : String} {af : Array Edge} {gd : Option (Nat × Bool)} {K : Slots → Heap → Prop} (t : TypeId) (x : Operand) (f : Nat) : owp P ow { dst := dst, op := .field t x f, type := ty, pos := pos, after := af, guard := gd } K s h = match eff P (dst.any ow) (.field t x f) (pev s) h with | some (r, h') => K (updO s dst r) h' | none => False := rfl
theorem Does_field {dst : Option Tmp} {ty : TypeId} {pos : String} {af : Array Edge} {gd : Option (Nat × Bool)} {v : PV} {h' : Heap} (t : TypeId) (x : Operand) (f : Nat) : Does P ow { dst := dst, op := .field t x f, type := ty, pos := pos, after := af, guard := gd } (pev s) h v h' = (eff P (dst.any ow) (.field t x f) (pev s) h = some (v, h')) := rfl
theorem owp_indexAddr {dst : Option Tmp} {ty : TypeId} {pos : String} {af : Array Edge} {gd : Option (Nat × Bool)} {K : Slots → Heap → Prop} (t : TypeId) (x : Operand) (i : Operand) : owp P ow { dst := dst, op := .indexAddr t x i, type := ty, pos := pos, after := af, guard := gd } K s h = match eff P (dst.any ow) (.indexAddr t x i) (pev s) h with | some (r, h') => K (updO s dst r) h' | none => False := rfl
theorem Does_indexAddr {dst : Option Tmp} {ty : TypeId} {pos : String} {af : Array Edge} {gd : Option (Nat × Bool)} {v : PV} {h' : Heap} (t : TypeId) (x : Operand) (i : Operand) : Does P ow { dst := dst, op := .indexAddr t x i, type := ty, pos := pos, after := af, guard := gd } (pev s) h v h' = (eff P (dst.any ow) (.indexAddr t x i) (pev s) h = some (v, h')) := rfl
theorem owp_index {dst : Option Tmp} {ty : TypeId} {pos : String} {af : Array Edge} {gd : Option (Nat × Bool)} {K : Slots → Heap → Prop} (t : TypeId) (x : Operand) (i : Operand) : owp P ow { dst := dst, op := .index t x i, type := ty, pos := pos, after := af, guard := gd } K s h = match eff P (dst.any ow) (.index t x i) (pev s) h with | some (r, h') => K (updO s dst r) h' | none => False := rfl
theorem Does_index {dst : Option Tmp} {ty : TypeId} {pos : String} {af : Array Edge} {gd : Option (Nat × Bool)} {v : PV} {h' : Heap} (t : TypeId) (x : Operand) (i : Operand) : Does P ow { dst := dst, op := .index t x i, type := ty, pos := pos, after := af, guard := gd } (pev s) h v h' = (eff P (dst.any ow) (.index t x i) (pev s) h = some (v, h')) := rfl
theorem owp_lookup {dst : Option Tmp} {ty : TypeId} {pos : String} {af : Array Edge} {gd : Option (Nat × Bool)} {K : Slots → Heap → Prop} (t : TypeId) (x : Operand) (k : Operand) (ok : Bool) : owp P ow { dst := dst, op := .lookup t x k ok, type := ty, pos := pos, after := af, guard := gd } K s h = match eff P (dst.any ow) (.lookup t x k ok) (pev s) h with | some (r, h') => K (updO s dst r) h' | none => False := rfl
theorem Does_lookup {dst : Option Tmp} {ty : TypeId} {pos : String} {af : Array Edge} {gd : Option (Nat × Bool)} {v : PV} {h' : Heap} (t : TypeId) (x : Operand) (k : Operand) (ok : Bool) : Does P ow { dst := dst, op := .lookup t x k ok, type := ty, pos := pos, after := af, guard := gd } (pev s) h v h' = (eff P (dst.any ow) (.lookup t x k ok) (pev s) h = some (v, h')) := rfl
theorem owp_mapUpdate {dst : Option Tmp} {ty : TypeId} {pos : String} {af : Array Edge} {gd : Option (Nat × Bool)} {K : Slots → Heap → Prop} (t : TypeId) (x : Operand) (k : Operand) (y : Operand) : owp P ow { dst := dst, op := .mapUpdate t x k y, type := ty, pos := pos, after := af, guard := gd } K s h = match eff P (dst.any ow) (.mapUpdate t x k y) (pev s) h with | some (r, h') => K (updO s dst r) h' | none => False := rfl
theorem Does_mapUpdate {dst : Option Tmp} {ty : TypeId} {pos : String} {af : Array Edge} {gd : Option (Nat × Bool)} {v : PV} {h' : Heap} (t : TypeId) (x : Operand) (k : Operand) (y : Operand) : Does P ow { dst := dst, op := .mapUpdate t x k y, type := ty, pos := pos, after := af, guard := gd } (pev s) h v h' = (eff P (dst.any ow) (.mapUpdate t x k y) (pev s) h = some (v, h')) := rfl
theorem owp_typeAssert {dst : Option Tmp} {ty : TypeId} {pos : String} {af : Array Edge} {gd : Option (Nat × Bool)} {K : Slots → Heap → Prop} (x : Operand) (t : TypeId) (u : TypeId) (ok : Bool) : owp P ow { dst := dst, op := .typeAssert x t u ok, type := ty, pos := pos, after := af, guard := gd } K s h = match eff P (dst.any ow) (.typeAssert x t u ok) (pev s) h with | some (r, h') => K (updO s dst r) h' | none => False := rfl
theorem Does_typeAssert {dst : Option Tmp} {ty : TypeId} {pos : String} {af : Array Edge} {gd : Option (Nat × Bool)} {v : PV} {h' : Heap} (x : Operand) (t : TypeId) (u : TypeId) (ok : Bool) : Does P ow { dst := dst, op := .typeAssert x t u ok, type := ty, pos := pos, after := af, guard := gd } (pev s) h v h' = (eff P (dst.any ow) (.typeAssert x t u ok) (pev s) h = some (v, h')) := rfl
theorem owp_extract {dst : Option Tmp} {ty : TypeId} {pos : String} {af : Array Edge} {gd : Option (Nat × Bool)} {K : Slots → Heap → Prop} (x : Operand) (i : Nat) : owp P ow { dst := dst, op := .extract x i, type := ty, pos := pos, after := af, guard := gd } K s h = match eff P (dst.any ow) (.extract x i) (pev s) h with | some (r, h') => K (updO s dst r) h' | none => False := rfl
theorem Does_extract {dst : Option Tmp} {ty : TypeId} {pos : String} {af : Array Edge} {gd : Option (Nat × Bool)} {v : PV} {h' : Heap} (x : Operand) (i : Nat) : Does P ow { dst := dst, op := .extract x i, type := ty, pos := pos, after := af, guard := gd } (pev s) h v h' = (eff P (dst.any ow) (.extract x i) (pev s) h = some (v, h')) := rfl
theorem owp_callB {dst : Option Tmp} {ty : TypeId} {pos : String} {af : Array Edge} {gd : Option (Nat × Bool)} {K : Slots → Heap → Prop} (bb : Builtin) (as : Array Operand) (ts : Array TypeId) : owp P ow { dst := dst, op := .call { callee := .builtin bb, args := as, argTypes := ts }, type := ty, pos := pos, after := af, guard := gd } K s h = match eff P (dst.any ow) (.call { callee := .builtin bb, args := as, argTypes := ts }) (pev s) h with | some (r, h') => K (updO s dst r) h' | none => False := rfl
theorem Does_callB {dst : Option Tmp} {ty : TypeId} {pos : String} {af : Array Edge} {gd : Option (Nat × Bool)} {v : PV} {h' : Heap} (bb : Builtin) (as : Array Operand) (ts : Array TypeId) : Does P ow { dst := dst, op := .call { callee := .builtin bb, args := as, argTypes := ts }, type := ty, pos := pos, after := af, guard := gd } (pev s) h v h' = (eff P (dst.any ow) (.call { callee := .builtin bb, args := as, argTypes := ts }) (pev s) h = some (v, h')) := rfl
theorem Does_use {f : FuncId} {dst : Option Tmp} {args : List Operand} {ts : Array TypeId} {ty : TypeId} {pos : String} {af : Array Edge} {gd : Option (Nat × Bool)} {as : List PV} {v : PV} {h' : Heap}
    (hc : PCall P f as h fun r h'' => r = v ∧ h'' = h') (ha : args.map (pev s) = as) :
    Does P ow { dst := dst, op := .call { callee := .value (.func f), args := args.toArray, argTypes := ts }, type := ty, pos := pos, after := af, guard := gd } (pev s) h v h' := by
  unfold Does
  simp only [callee, pev, and_self, if_true]
  rw [ha]
  exact hc
theorem a_dcall0 {f : FuncId} {d : Nat} {args : List Operand} {ts : Array TypeId} {ty : TypeId} {pos : String} {af : Array Edge} {gd : Option (Nat × Bool)} {as : List PV} {v : PV} {ops rest : List Oper} {k k' : Nat} {past : Past} {hist : List (Nat × Heap)} {K : Slots → Heap → Prop}
    (hc : PCall P f as h fun r h' => r = v ∧ h' = h) (ha : args.map (pev s) = as)
    (hk : drn P ow wf n ops k rest ((k', { dst := some d, op := .call { callee := .value (.func f), args := args.toArray, argTypes := ts }, type := ty, pos := pos, after := af, guard := gd }, s, v) :: past) hist K (upd s d v) h) :
    ∃ v, Does P ow { dst := some d, op := .call { callee := .value (.func f), args := args.toArray, argTypes := ts }, type := ty, pos := pos, after := af, guard := gd } (pev s) h v h ∧
      drun P ow wf n ops k rest (pastC P ow ((k', { dst := some d, op := .call { callee := .value (.func f), args := args.toArray, argTypes := ts }, type := ty, pos := pos, after := af, guard := gd }, s, v) :: past)) hist K (upd s d v) h :=
  ⟨v, Does_use hc ha, drn_drun _ _ _ _ _ _ hk⟩
theorem a_dcallA {f : FuncId} {d : Nat} {args : List Operand} {ts : Array TypeId} {ty : TypeId} {pos : String} {af : Array Edge} {gd : Option (Nat × Bool)} {as : List PV} {v : PV} {ops rest : List Oper} {k k' : Nat} {past : Past} {hist : List (Nat × Heap)} {K : Slots → Heap → Prop} {A : PV → Prop}
    (hc : PCall P f as h fun r h' => r = v ∧ h' = h) (ha : args.map (pev s) = as) (hA : A v)
    (hk : drn P ow wf n ops k rest ((k', { dst := some d, op := .call { callee := .value (.func f), args := args.toArray, argTypes := ts }, type := ty, pos := pos, after := af, guard := gd }, s, v) :: past) hist K (upd s d v) h) :
    ∃ v, Does P ow { dst := some d, op := .call { callee := .value (.func f), args := args.toArray, argTypes := ts }, type := ty, pos := pos, after := af, guard := gd } (pev s) h v h ∧ A v ∧
      drun P ow wf n ops k rest (pastC P ow ((k', { dst := some d, op := .call { callee := .value (.func f), args := args.toArray, argTypes := ts }, type := ty, pos := pos, after := af, guard := gd }, s, v) :: past)) hist K (upd s d v) h :=
  ⟨v, Does_use hc ha, hA, drn_drun _ _ _ _ _ _ hk⟩
end
theorem lenP_imm (h : Heap) (z : Nat) (rows : List (List PV)) : lenP h (.imm z rows) = some rows.length := rfl
theorem lenP_emp (h : Heap) : lenP h .emp = some 0 := rfl
theorem lenP_nil (h : Heap) : lenP h (.sc (.slice none 0 0)) = some 0 := rfl
theorem lenP_own (h : Heap) (id off len : Nat) : lenP h (.own id off len) = some len := rfl
theorem lenP_str (h : Heap) (b : ByteArray) : lenP h (.sc (.string b)) = some b.size := rfl
theorem lenP_mnil (h : Heap) : lenP h (.sc (.map none)) = some 0 := rfl
theorem lenP_mp (h : Heap) (id : Nat) : lenP h (.mp id) = match h.obj id with | some (.map es) => some es.length | _ => none := rfl
theorem lenK_imm (k z : Nat) (rows : List (List PV)) : lenK k (.imm z rows) = (k == 5) := rfl
theorem lenK_emp (k : Nat) : lenK k .emp = (k == 5) := rfl
theorem lenK_nil (k : Nat) : lenK k (.sc (.slice none 0 0)) = (k == 5) := rfl
theorem lenK_own (k id off len : Nat) : lenK k (.own id off len) = (k == 5) := rfl
theorem lenK_str (k : Nat) (b : ByteArray) : lenK k (.sc (.string b)) = (k == 3) := rfl
theorem lenK_mnil (k : Nat) : lenK k (.sc (.map none)) = (k == 6) := rfl
theorem lenK_mp (k id : Nat) : lenK k (.mp id) = (k == 6) := rfl
theorem idx_imm (h : Heap) (z z' : Nat) (rows : List (List PV)) (i : Int) : idx h z (.imm z' rows) i = if 0 ≤ i then (if z' = z then (rows[i.toNat]?).map .cptr else none) else none := rfl
theorem idx_own (h : Heap) (z id off len : Nat) (i : Int) : idx h z (.own id off len) i = if 0 ≤ i then (match h.obj id with | some (.arr z' _) => if z' = z ∧ i.toNat < len then some (.ptr id (off + i.toNat) 0) else none | _ => none) else none := rfl
theorem idxA_ptr (n z id r f : Nat) (i : Int) : idxA n z (.ptr id r f) i = if 0 ≤ i ∧ i < n then some (.ptr id r (f + i.toNat * z)) else none := rfl
theorem idxA_cptr (n z : Nat) (cs : List PV) (i : Int) : idxA n z (.cptr cs) i = if 0 ≤ i ∧ i < n then (if i.toNat * z + z ≤ cs.length then some (.cptr ((cs.drop (i.toNat * z)).take z)) else none) else none := rfl
theorem fldP_ptr (off n id i f : Nat) : fldP off n (.ptr id i f) = if 0 < n then some (.ptr id i (f + off)) else none := rfl
theorem fldP_cptr (off n : Nat) (cs : List PV) : fldP off n (.cptr cs) = if 0 < n ∧ off + n ≤ cs.length then some (.cptr ((cs.drop off).take n)) else none := rfl
theorem rd_ptr (h : Heap) (id i f : Nat) : rd h (.ptr id i f) = match h.obj id with | some (.arr _ rows) => (rows[i]?).map (·.drop f) | _ => none := rfl
theorem rd_cptr (h : Heap) (cs : List PV) : rd h (.cptr cs) = some cs := rfl
theorem wr_ptr (h : Heap) (vc : List PV) (id i f : Nat) : wr h vc (.ptr id i f) = match h.obj id with | some (.arr z rows) => (match rows[i]? with | some r => if f + vc.length ≤ r.length then some (h.set id (.arr z (rows.set i (putC r f vc)))) else none | none => none) | _ => none := rfl
theorem view_imm (h : Heap) (z : Nat) (rows : List (List PV)) : view h (.imm z rows) = some rows := rfl
theorem view_emp (h : Heap) : view h .emp = some [] := rfl
theorem view_nil (h : Heap) : view h (.sc (.slice none 0 0)) = some [] := rfl
theorem view_own (h : Heap) (id off len : Nat) : view h (.own id off len) = match h.obj id with | some (.arr _ rows) => if off + len ≤ rows.length then some ((rows.drop off).take len) else none | _ => none := rfl
theorem zOk_imm (h : Heap) (z z' : Nat) (rows : List (List PV)) : zOk h z (.imm z' rows) = (z' == z) := rfl
theorem zOk_emp (h : Heap) (z : Nat) : zOk h z .emp = true := rfl
theorem zOk_nil (h : Heap) (z : Nat) : zOk h z (.sc (.slice none 0 0)) = true := rfl
theorem zOk_own (h : Heap) (z id off len : Nat) : zOk h z (.own id off len) = match h.obj id with | some (.arr z' _) => z' == z | _ => false := rfl
theorem isTail_emp (h : Heap) : isTail h .emp = some (h, []) := rfl
theorem isTail_nil (h : Heap) : isTail h (.sc (.slice none 0 0)) = some (h, []) := rfl
theorem isTail_own (h : Heap) (id off len : Nat) : isTail h (.own id off len) = match h.obj id with | some (.arr _ rows) => if off + len ≤ rows.length then some (h.kill id, (rows.drop off).take len) else none | _ => none := rfl
theorem isSl_imm (z : Nat) (rows : List (List PV)) : isSl (.imm z rows) = true := rfl
theorem isSl_own (id off len : Nat) : isSl (.own id off len) = true := rfl
theorem isSl_emp : isSl .emp = true := rfl
theorem isSl_nil : isSl (.sc (.slice none 0 0)) = true := rfl
theorem mview_nil (h : Heap) : mview h (.sc (.map none)) = some [] := rfl
theorem mview_mp (h : Heap) (id : Nat) : mview h (.mp id) = match h.obj id with | some (.map es) => some es | _ => none := rfl
theorem subL_imm (z z' : Nat) (rows : List (List PV)) (h : Heap) (lo hi : Option Int) : subL z (.imm z' rows) h lo hi = if 0 ≤ lo.getD 0 ∧ lo.getD 0 ≤ hi.getD rows.length ∧ hi.getD rows.length ≤ rows.length ∧ (z' == z) = true then some (.imm z' ((rows.drop (lo.getD 0).toNat).take (hi.getD rows.length - lo.getD 0).toNat)) else none := rfl
theorem subL_own (z id off len : Nat) (h : Heap) (lo hi : Option Int) : subL z (.own id off len) h lo hi = if 0 ≤ lo.getD 0 ∧ lo.getD 0 ≤ hi.getD len ∧ hi.getD len ≤ len ∧ zOk h z (.own id off len) = true then (match h.obj id with | some (.arr _ _) => some (.own id (off + (lo.getD 0).toNat) (hi.getD len - lo.getD 0).toNat) | _ => none) else none := rfl
theorem cells_agg (l : List PV) : PV.cells (.agg l) = l := rfl
theorem cells_sc (v : Value) : PV.cells (.sc v) = [.sc v] := rfl
theorem cells_imm (z : Nat) (l : List (List PV)) : PV.cells (.imm z l) = [.imm z l] := rfl
theorem cells_own (i o l : Nat) : PV.cells (.own i o l) = [.own i o l] := rfl
theorem cells_ptr (i o l : Nat) : PV.cells (.ptr i o l) = [.ptr i o l] := rfl
theorem cells_cptr (l : List PV) : PV.cells (.cptr l) = [.cptr l] := rfl
theorem cells_emp : PV.cells .emp = [.emp] := rfl
theorem cells_mp (i : Nat) : PV.cells (.mp i) = [.mp i] := rfl
theorem oneC_int (k : IntKind) (i : Int) : oneC (.sc (.int k i)) = true := rfl
theorem oneC_bool (b : Bool) : oneC (.sc (.bool b)) = true := rfl
theorem oneC_str (b : ByteArray) : oneC (.sc (.string b)) = true := rfl
theorem oneC_nilI : oneC (.sc .nilIface) = true := rfl
theorem oneC_if (t : TypeId) (v : Value) : oneC (.sc (.iface t v)) = true := rfl
theorem oneC_p (a : Option Addr) : oneC (.sc (.pointer a)) = true := rfl
theorem oneC_s (a : Option Addr) (l c : Nat) : oneC (.sc (.slice a l c)) = true := rfl
theorem oneC_m (a : Option Nat) : oneC (.sc (.map a)) = true := rfl
theorem oneC_imm (z : Nat) (l : List (List PV)) : oneC (.imm z l) = true := rfl
theorem oneC_own (i o l : Nat) : oneC (.own i o l) = true := rfl
theorem oneC_ptr (i o l : Nat) : oneC (.ptr i o l) = true := rfl
theorem oneC_cptr (l : List PV) : oneC (.cptr l) = true := rfl
theorem oneC_emp : oneC .emp = true := rfl
theorem oneC_mp (i : Nat) : oneC (.mp i) = true := rfl
structure Sl (h : Heap) (z : Nat) (p : PV) (rows : List (List PV)) : Prop where
  vw : view h p = some rows
  zk : zOk h z p = true
  len : lenP h p = some rows.length
  lk : lenK 5 p = true
  sl : isSl p = true
  get : ∀ (i : Nat) (r : List PV), rows[i]? = some r → ∃ q, idx h z p (i : Int) = some q ∧ rd h q = some r
theorem Sl.emp {h : Heap} {z : Nat} : Sl h z .emp [] := ⟨rfl, rfl, rfl, rfl, rfl, fun i r hr => by simp at hr⟩
theorem Sl.nil {h : Heap} {z : Nat} : Sl h z (.sc (.slice none 0 0)) [] := ⟨rfl, rfl, rfl, rfl, rfl, fun i r hr => by simp at hr⟩
theorem Sl.own {h : Heap} {z id off len : Nat} {rows : List (List PV)} (ho : h.obj id = some (.arr z rows)) (hl : off + len ≤ rows.length) : Sl h z (.own id off len) ((rows.drop off).take len) := by
  refine ⟨by simp [view, ho, hl], by simp [zOk, ho], by simp [lenP]; omega, rfl, rfl, fun i r hr => ?_⟩
  rw [List.getElem?_take] at hr
  split at hr
  · rename_i hi
    rw [List.getElem?_drop] at hr
    exact ⟨.ptr id (off + i) 0, by simp [idx, ho, hi], by simp [rd, ho, hr]⟩
  · simp at hr
theorem Sl.own0 {h : Heap} {z id : Nat} {rows : List (List PV)} (ho : h.obj id = some (.arr z rows)) : Sl h z (.own id 0 rows.length) rows := by
  have := Sl.own (off := 0) (len := rows.length) ho (by omega)
  simpa using this
def Wf (h : Heap) : Prop := ∀ id, (h.obj id).isSome = true → id < h.next
theorem pcall_wf {P : Program} {f : FuncId} {args : List PV} {h : Heap} {K : PV → Heap → Prop} (hb : hasBody P f = true) (hk : Wf h → PCall P f args h K) : PCall P f args h K :=
  fun β w vals sm hr => hk sm.lt β w vals sm hr
def rowsI (xs : List Int) : List (List PV) := xs.map fun x => [.sc (.int .i64 x)]
theorem rowsI_len (xs : List Int) : (rowsI xs).length = xs.length := by simp [rowsI]
theorem wrap64 {n : Int} (h1 : -9223372036854775808 ≤ n) (h2 : n ≤ 9223372036854775807) : IntKind.i64.wrap n = n := IntWalk.i64_in _ ⟨h1, h2⟩
mutual
def FrzTo (n : Nat) (h' : Heap) : PV → PV → Prop
  | .imm z rows, r' => (r' = .imm z rows ∧ inNR n rows) ∨ (rows = [] ∧ (r' = .emp ∨ r' = .sc (.slice none 0 0))) ∨
      ∃ id off len rows', r' = .own id off len ∧ n ≤ id ∧ h'.obj id = some (.arr z rows') ∧ off + len ≤ rows'.length ∧ FrzR n h' rows ((rows'.drop off).take len)
  | .agg cs, r' => ∃ cs', r' = .agg cs' ∧ FrzL n h' cs cs'
  | .tup cs, r' => ∃ cs', r' = .tup cs' ∧ FrzL n h' cs cs'
  | .sc v, r' => r' = .sc v
  | .ptr id i f, r' => r' = .ptr id i f ∧ id < n
  | .cptr cs, r' => (r' = .cptr cs ∧ inNL n cs) ∨ ∃ id i f z rows' q, r' = .ptr id i f ∧ n ≤ id ∧ h'.obj id = some (.arr z rows') ∧ rows'[i]? = some q ∧ FrzL n h' cs (q.drop f)
  | .own id off len, r' => r' = .own id off len ∧ id < n
  | .emp, r' => r' = .emp
  | .mp id, r' => r' = .mp id ∧ id < n
  | .fn f a b, r' => r' = .fn f a b ∧ inNL n a ∧ inNL n b
  | .ab k lo hi m r, r' => r' = .ab k lo hi m r
def FrzL (n : Nat) (h' : Heap) : List PV → List PV → Prop
  | [], [] => True
  | p :: ps, q :: qs => FrzTo n h' p q ∧ FrzL n h' ps qs
  | _, _ => False
def FrzR (n : Nat) (h' : Heap) : List (List PV) → List (List PV) → Prop
  | [], [] => True
  | p :: ps, q :: qs => FrzL n h' p q ∧ FrzR n h' ps qs
  | _, _ => False
end
section
variable {β : Env} {n m : Nat} {F F' : Nat → Prop} {w : World}
theorem FrzL.len {h' : Heap} : (l l' : List PV) → FrzL n h' l l' → l.length = l'.length
  | [], [], _ => rfl
  | [], _ :: _, h => by simp only [FrzL] at h
  | _ :: _, [], h => by simp only [FrzL] at h
  | _ :: ps, _ :: qs, h => by simp only [FrzL] at h; simp only [List.length_cons, FrzL.len ps qs h.2]
theorem FrzR.len {h' : Heap} : (l l' : List (List PV)) → FrzR n h' l l' → l.length = l'.length
  | [], [], _ => rfl
  | [], _ :: _, h => by simp only [FrzR] at h
  | _ :: _, [], h => by simp only [FrzR] at h
  | _ :: ps, _ :: qs, h => by simp only [FrzR] at h; simp only [List.length_cons, FrzR.len ps qs h.2]
mutual
theorem FrzTo.rep {h' : Heap} (sm : Sim β h' w) (hF : ∀ b, Fz β h' w b → F' b) (hB : ∀ id b, n ≤ id → (h'.obj id).isSome = true → (β id).b = some b → F' b) : (p p' : PV) → (x : Value) → FrzTo n h' p p' → Rep β h'.next (Fz β h' w) w p' x → Rep β n F' w p x
  | .imm z rows, p', x, hf, hr => by
    simp only [FrzTo] at hf
    rcases hf with ⟨rfl, hs⟩ | ⟨rfl, hf⟩ | ⟨id, off, len, rows', rfl, hid, hob, hle, hf⟩
    · exact Rep.low hF _ x (by simpa only [inN] using hs) hr
    · rcases hf with rfl | rfl
      · simp only [Rep] at hr ⊢
        obtain ⟨a, rfl⟩ := hr
        exact ⟨a, 0, rfl, Nat.le_refl _, Nat.zero_le _, .inl trivial⟩
      · simp only [Rep] at hr ⊢
        exact ⟨none, 0, hr, Nat.le_refl _, Nat.zero_le _, .inl trivial⟩
    · have hl := FrzR.len _ _ hf
      have hl2 : ((rows'.drop off).take len).length = len := by simp; omega
      simp only [Rep] at hr ⊢
      obtain ⟨_, a, cap, rfl, h2, h2', h3⟩ := hr
      refine ⟨a, cap, by rw [hl, hl2], by omega, h2', ?_⟩
      rcases h3 with h3 | ⟨b, h4, h5, h6⟩
      · left; exact List.eq_nil_of_length_eq_zero (by omega)
      · have hok := sm.ok id _ hob
        simp only [ObjOk] at hok
        rcases hok.2 with ⟨h7, h8⟩ | ⟨b', c, e, fr, g5, g6, g7, g8, g9, g10⟩
        · rw [h7] at h4; simp at h4
        · rw [h4] at g5; simp at g5; subst g5
          right
          refine ⟨b, _, hB id b hid (by rw [hob]; try rfl) h4, h5, ?_⟩
          rw [hok.1]
          exact FrzR.rep sm hF hB z rows _ b _ hf ((g10.drop off).take len)
  | .agg cs, p', x, hf, hr => by
    simp only [FrzTo] at hf
    obtain ⟨cs', rfl, hf⟩ := hf
    simp only [Rep] at hr ⊢
    obtain ⟨xs, h1, h2, h3⟩ := hr
    exact ⟨xs, h1, h2, FrzL.rep sm hF hB cs cs' xs hf h3⟩
  | .tup cs, p', x, hf, hr => by
    simp only [FrzTo] at hf
    obtain ⟨cs', rfl, hf⟩ := hf
    simp only [Rep] at hr ⊢
    obtain ⟨xs, h1, h3⟩ := hr
    exact ⟨xs, h1, FrzL.rep sm hF hB cs cs' xs hf h3⟩
  | .sc v, p', x, hf, hr => by simp only [FrzTo] at hf; subst hf; simpa only [Rep] using hr
  | .ptr _ _ _, p', x, hf, hr => by simp only [FrzTo] at hf; obtain ⟨rfl, hf⟩ := hf; exact Rep.low hF _ x (by simpa only [inN] using hf) hr
  | .cptr cs, p', x, hf, hr => by
    simp only [FrzTo] at hf
    rcases hf with ⟨rfl, hf⟩ | ⟨id, i, f, z, rows', q, rfl, hid, hob, hq, hf⟩
    · exact Rep.low hF _ x (by simpa only [inN] using hf) hr
    · simp only [Rep] at hr ⊢
      obtain ⟨_, b, hb, rfl⟩ := hr
      have hok := sm.ok id _ hob
      simp only [ObjOk] at hok
      rcases hok.2 with ⟨h7, h8⟩ | ⟨b', c, e, fr, g5, g6, g7, g8, g9, g10⟩
      · rw [h7] at hb; simp at hb
      · rw [hb] at g5; simp at g5; subst g5
        refine ⟨b, _, hB id b hid (by rw [hob]; try rfl) hb, rfl, ?_⟩
        rw [hok.1]
        exact FrzS.rep sm hF hB cs _ b _ hf (((RepR_iff.1 g10) i q hq).2.drop f)
  | .own _ _ _, p', x, hf, hr => by simp only [FrzTo] at hf; obtain ⟨rfl, hf⟩ := hf; exact Rep.low hF _ x (by simpa only [inN] using hf) hr
  | .emp, p', x, hf, hr => by simp only [FrzTo] at hf; subst hf; simpa only [Rep] using hr
  | .mp _, p', x, hf, hr => by simp only [FrzTo] at hf; obtain ⟨rfl, hf⟩ := hf; exact Rep.low hF _ x (by simpa only [inN] using hf) hr
  | .fn _ _ _, p', x, hf, hr => by simp only [FrzTo] at hf; obtain ⟨rfl, hf⟩ := hf; exact Rep.low hF _ x (by simpa only [inN] using hf) hr
  | .ab _ _ _ _ _, p', x, hf, hr => by simp only [FrzTo] at hf; subst hf; simpa only [Rep] using hr
theorem FrzL.rep {h' : Heap} (sm : Sim β h' w) (hF : ∀ b, Fz β h' w b → F' b) (hB : ∀ id b, n ≤ id → (h'.obj id).isSome = true → (β id).b = some b → F' b) : (l l' : List PV) → (xs : List Value) → FrzL n h' l l' → RepL β h'.next (Fz β h' w) w l' xs → RepL β n F' w l xs
  | [], [], [], _, _ => by simp only [RepL]
  | [], [], _ :: _, _, h => by simp only [RepL] at h
  | [], _ :: _, _, h, _ => by simp only [FrzL] at h
  | _ :: _, [], _, h, _ => by simp only [FrzL] at h
  | _ :: _, _ :: _, [], _, h => by simp only [RepL] at h
  | p :: ps, q :: qs, v :: vs, hf, hr => by
    simp only [FrzL] at hf; simp only [RepL] at hr ⊢
    exact ⟨FrzTo.rep sm hF hB p q v hf.1 hr.1, FrzL.rep sm hF hB ps qs vs hf.2 hr.2⟩
theorem FrzR.rep {h' : Heap} (sm : Sim β h' w) (hF : ∀ b, Fz β h' w b → F' b) (hB : ∀ id b, n ≤ id → (h'.obj id).isSome = true → (β id).b = some b → F' b) (z : Nat) : (l l' : List (List PV)) → (b o : Nat) → FrzR n h' l l' → RepR β h'.next (Fz β h' w) w z l' b o → RepR β n F' w z l b o
  | [], [], _, _, _, _ => by simp only [RepR]
  | [], _ :: _, _, _, h, _ => by simp only [FrzR] at h
  | _ :: _, [], _, _, h, _ => by simp only [FrzR] at h
  | p :: ps, q :: qs, b, o, hf, hr => by
    simp only [FrzR] at hf; simp only [RepR] at hr ⊢
    exact ⟨⟨by rw [FrzL.len p q hf.1]; exact hr.1.1, FrzS.rep sm hF hB p q b o hf.1 hr.1.2⟩, FrzR.rep sm hF hB z ps qs b (o + z) hf.2 hr.2⟩
theorem FrzS.rep {h' : Heap} (sm : Sim β h' w) (hF : ∀ b, Fz β h' w b → F' b) (hB : ∀ id b, n ≤ id → (h'.obj id).isSome = true → (β id).b = some b → F' b) : (l l' : List PV) → (b o : Nat) → FrzL n h' l l' → RepS β h'.next (Fz β h' w) w l' b o → RepS β n F' w l b o
  | [], [], _, _, _, _ => by simp only [RepS]
  | [], _ :: _, _, _, h, _ => by simp only [FrzL] at h
  | _ :: _, [], _, _, h, _ => by simp only [FrzL] at h
  | p :: ps, q :: qs, b, o, hf, hr => by
    simp only [FrzL] at hf; simp only [RepS] at hr ⊢
    obtain ⟨⟨v, g1, g2, g3⟩, g4⟩ := hr
    exact ⟨⟨v, g1, g2, FrzTo.rep sm hF hB p q v hf.1 g3⟩, FrzS.rep sm hF hB ps qs b (o + 1) hf.2 g4⟩
end
end
section
variable {P : Program}
theorem PCall.drop {f : FuncId} {args : List PV} {h : Heap} {K : PV → Heap → Prop}
    (hc : PCall P f args h (fun r' h' => ∃ r h2, K r h2 ∧ FrzTo h2.next h' r r' ∧ h.next ≤ h2.next ∧ (∀ id o, h2.obj id = some o → h'.obj id = some o ∧ id < h2.next ∧ (h.obj id = some o ∨ inNO h2.next o)))) : PCall P f args h K := by
  refine fun β w vals sm hr => (hc β w vals sm hr).mono ?_
  rintro e w' ⟨r', h', β', v, rfl, ⟨r, h2, hK, hf, hn, ho⟩, sm', hrep, ex⟩
  have hF : ∀ b, Fz β' h' w' b → Fz β' h2 w' b := fun b hb => ⟨hb.1, fun id hid => by
    obtain ⟨o, hoo⟩ := Option.isSome_iff_exists.1 hid
    exact hb.2.1 id (by rw [(ho id o hoo).1]; try rfl), hb.2.2⟩
  have hB : ∀ id b, h2.next ≤ id → (h'.obj id).isSome = true → (β' id).b = some b → Fz β' h2 w' b := by
    intro id b hid hs hb
    obtain ⟨o, hoo⟩ := Option.isSome_iff_exists.1 hs
    refine ⟨sm'.blk_lt hoo hb, fun j hj hjb => ?_, sm'.nx id hs b hb⟩
    obtain ⟨o2, ho2⟩ := Option.isSome_iff_exists.1 hj
    obtain ⟨h3, h4, _⟩ := ho j o2 ho2
    have := sm'.inj id j hs (by rw [h3]; try rfl) b hb hjb
    omega
  refine ⟨r, h2, β', v, rfl, hK, ⟨fun id hid => ?_, fun id o hoo => ?_, fun i j hi hj => ?_, sm'.xs, fun id hid => ?_⟩, ?_, ⟨ex.os, ex.tape, ex.output, ex.size, hn, ex.beta, ex.X, ex.xh, fun b hb => ⟨hF b (ex.fz b hb).1, (ex.fz b hb).2⟩⟩⟩
  · obtain ⟨o, hoo⟩ := Option.isSome_iff_exists.1 hid
    exact (ho id o hoo).2.1
  · obtain ⟨h3, h4, h5⟩ := ho id o hoo
    have hs : inNO h2.next o := by
      rcases h5 with h5 | h5
      · have h6 := (sm.ok id o h5).inN
        -- what is below the first next is below the second
        have up : ∀ (o : AObj), inNO h.next o → inNO h2.next o := by
          intro o hso
          cases o with
          | arr z rows => exact inNR_up hn rows hso
          | map es => exact inNL_up hn _ hso
          | glb g lo hi => simp only [inNO]
        exact up o h6
      · exact h5
    exact ObjOk.low hF hs (sm'.ok id o h3)
  · obtain ⟨o, hoo⟩ := Option.isSome_iff_exists.1 hi
    obtain ⟨o2, ho2⟩ := Option.isSome_iff_exists.1 hj
    exact sm'.inj i j (by rw [(ho i o hoo).1]; try rfl) (by rw [(ho j o2 ho2).1]; try rfl)
  · obtain ⟨o, hoo⟩ := Option.isSome_iff_exists.1 hid
    exact sm'.nx id (by rw [(ho id o hoo).1]; try rfl)
  · exact FrzTo.rep sm' hF hB r r' v hf hrep
end
theorem ex2_eq {α β : Type} {a : α} {b : β} {Q : α → β → Prop} : (∃ v h', (a = v ∧ b = h') ∧ Q v h') ↔ Q a b :=
  ⟨fun ⟨_, _, ⟨rfl, rfl⟩, q⟩ => q, fun q => ⟨a, b, ⟨rfl, rfl⟩, q⟩⟩
theorem a_past {α : Type} {A : Nat × α → Prop} {ops : List Oper} {k : Nat} {R : Prop} {l : List (Nat × α)} (is : List Nat) (h1 : l.map (·.1) = is) (h2 : is.all (fun i => pre ops i k) = true) (h3 : R) : (∀ x ∈ l, pre ops x.1 k = true ∨ A x) ∧ R :=
  ⟨fun x hx => .inl (List.all_eq_true.1 h2 x.1 (by rw [← h1]; exact List.mem_map_of_mem hx)), h3⟩
theorem a_past2 {α : Type} {A : Nat × α → Prop} {ops : List Oper} {k : Nat} {R : Prop} {l : List (Nat × α)} (h1 : ∀ x ∈ l, pre ops x.1 k = true ∨ A x) (h3 : R) : (∀ x ∈ l, pre ops x.1 k = true ∨ A x) ∧ R := ⟨h1, h3⟩
def Keep (h h' : Heap) : Prop := h.next ≤ h'.next ∧ ∀ id, id < h.next → h'.obj id = h.obj id
theorem keep_kill {h h' : Heap} {i : Nat} (hi : h.next ≤ i) (hk : Keep h h') : Keep h (h'.kill i) := by
  refine ⟨by rw [kill_next]; exact hk.1, fun id hid => ?_⟩
  rw [kill_obj, if_neg (by omega)]; exact hk.2 id hid
theorem andK_u64 (a b : Int) : andK .u64 a b = IntKind.u64.wrap (((BitVec.ofInt 64 a &&& BitVec.ofInt 64 b).toNat : Nat) : Int) := rfl
theorem orK_u64 (a b : Int) : orK .u64 a b = IntKind.u64.wrap (((BitVec.ofInt 64 a ||| BitVec.ofInt 64 b).toNat : Nat) : Int) := rfl
theorem xorK_u64 (a b : Int) : xorK .u64 a b = IntKind.u64.wrap (((BitVec.ofInt 64 a ^^^ BitVec.ofInt 64 b).toNat : Nat) : Int) := rfl
theorem andnK_u64 (a b : Int) : andnK .u64 a b = IntKind.u64.wrap (((BitVec.ofInt 64 a &&& ~~~ BitVec.ofInt 64 b).toNat : Nat) : Int) := rfl
theorem andK_i64 (a b : Int) : andK .i64 a b = IntKind.i64.wrap (((BitVec.ofInt 64 a &&& BitVec.ofInt 64 b).toNat : Nat) : Int) := rfl
theorem orK_i64 (a b : Int) : orK .i64 a b = IntKind.i64.wrap (((BitVec.ofInt 64 a ||| BitVec.ofInt 64 b).toNat : Nat) : Int) := rfl
theorem xorK_i64 (a b : Int) : xorK .i64 a b = IntKind.i64.wrap (((BitVec.ofInt 64 a ^^^ BitVec.ofInt 64 b).toNat : Nat) : Int) := rfl
theorem andnK_i64 (a b : Int) : andnK .i64 a b = IntKind.i64.wrap (((BitVec.ofInt 64 a &&& ~~~ BitVec.ofInt 64 b).toNat : Nat) : Int) := rfl
theorem andK_u8 (a b : Int) : andK .u8 a b = IntKind.u8.wrap (((BitVec.ofInt 8 a &&& BitVec.ofInt 8 b).toNat : Nat) : Int) := rfl
theorem orK_u8 (a b : Int) : orK .u8 a b = IntKind.u8.wrap (((BitVec.ofInt 8 a ||| BitVec.ofInt 8 b).toNat : Nat) : Int) := rfl
theorem xorK_u8 (a b : Int) : xorK .u8 a b = IntKind.u8.wrap (((BitVec.ofInt 8 a ^^^ BitVec.ofInt 8 b).toNat : Nat) : Int) := rfl
theorem andnK_u8 (a b : Int) : andnK .u8 a b = IntKind.u8.wrap (((BitVec.ofInt 8 a &&& ~~~ BitVec.ofInt 8 b).toNat : Nat) : Int) := rfl
end Go.AM
namespace Go.AM
set_option maxRecDepth 20000
variable {P : Program} {ow : Nat → Bool} {s : Slots} {h : Heap}
theorem am0 : type_of% (And.intro @rowsI_len (And.intro @ex2_eq (And.intro @new_obj (And.intro @kill_obj (And.intro @set_obj (And.intro @new_next (And.intro @kill_next (And.intro @set_next (And.intro @lenP_imm (And.intro @lenP_emp (And.intro @lenP_nil (And.intro @lenP_own (And.intro @lenP_str (And.intro @lenP_mnil (And.intro @lenP_mp (And.intro @lenK_imm (And.intro @lenK_emp (And.intro @lenK_nil (And.intro @lenK_own (And.intro @lenK_str (And.intro @lenK_mnil (And.intro @lenK_mp (And.intro @idx_imm (And.intro @idx_own (And.intro @idxA_ptr (And.intro @idxA_cptr (And.intro @fldP_ptr (And.intro @fldP_cptr (And.intro @rd_ptr (And.intro @rd_cptr (And.intro @wr_ptr (And.intro @view_imm (And.intro @view_emp (@view_nil)))))))))))))))))))))))))))))))))) := And.intro @rowsI_len (And.intro @ex2_eq (And.intro @new_obj (And.intro @kill_obj (And.intro @set_obj (And.intro @new_next (And.intro @kill_next (And.intro @set_next (And.intro @lenP_imm (And.intro @lenP_emp (And.intro @lenP_nil (And.intro @lenP_own (And.intro @lenP_str (And.intro @lenP_mnil (And.intro @lenP_mp (And.intro @lenK_imm (And.intro @lenK_emp (And.intro @lenK_nil (And.intro @lenK_own (And.intro @lenK_str (And.intro @lenK_mnil (And.intro @lenK_mp (And.intro @idx_imm (And.intro @idx_own (And.intro @idxA_ptr (And.intro @idxA_cptr (And.intro @fldP_ptr (And.intro @fldP_cptr (And.intro @rd_ptr (And.intro @rd_cptr (And.intro @wr_ptr (And.intro @view_imm (And.intro @view_emp (@view_nil)))))))))))))))))))))))))))))))))
theorem am1 : type_of% (And.intro @view_own (And.intro @zOk_imm (And.intro @zOk_emp (And.intro @zOk_nil (And.intro @zOk_own (And.intro @isTail_emp (And.intro @isTail_nil (And.intro @isTail_own (And.intro @isSl_imm (And.intro @isSl_own (And.intro @isSl_emp (And.intro @isSl_nil (And.intro @mview_nil (And.intro @mview_mp (And.intro @subL_imm (And.intro @subL_own (And.intro @cells_agg (And.intro @cells_sc (And.intro @cells_imm (And.intro @cells_own (And.intro @cells_ptr (And.intro @cells_cptr (And.intro @cells_emp (And.intro @cells_mp (And.intro @oneC_int (And.intro @oneC_bool (And.intro @oneC_str (And.intro @oneC_nilI (And.intro @oneC_if (And.intro @oneC_p (And.intro @oneC_s (And.intro @oneC_m (And.intro @oneC_imm (@oneC_own)))))))))))))))))))))))))))))))))) := And.intro @view_own (And.intro @zOk_imm (And.intro @zOk_emp (And.intro @zOk_nil (And.intro @zOk_own (And.intro @isTail_emp (And.intro @isTail_nil (And.intro @isTail_own (And.intro @isSl_imm (And.intro @isSl_own (And.intro @isSl_emp (And.intro @isSl_nil (And.intro @mview_nil (And.intro @mview_mp (And.intro @subL_imm (And.intro @subL_own (And.intro @cells_agg (And.intro @cells_sc (And.intro @cells_imm (And.intro @cells_own (And.intro @cells_ptr (And.intro @cells_cptr (And.intro @cells_emp (And.intro @cells_mp (And.intro @oneC_int (And.intro @oneC_bool (And.intro @oneC_str (And.intro @oneC_nilI (And.intro @oneC_if (And.intro @oneC_p (And.intro @oneC_s (And.intro @oneC_m (And.intro @oneC_imm (@oneC_own)))))))))))))))))))))))))))))))))
theorem am2 : type_of% (And.intro @oneC_ptr (And.intro @oneC_cptr (And.intro @oneC_emp (And.intro @oneC_mp (And.intro @owp_move (And.intro @owp_assign (And.intro @owp_pick (And.intro @owp_alloc (And.intro @owp_box (And.intro @owp_build (And.intro @owp_buildSlice (And.intro @owp_load (And.intro @owp_store (And.intro @owp_nilCheck (And.intro @owp_binOp (And.intro @owp_unOp (And.intro @owp_convert (And.intro @owp_makeInterface (And.intro @owp_makeMap (And.intro @owp_makeSlice (And.intro @owp_slice (And.intro @owp_fieldAddr (And.intro @owp_field (And.intro @owp_indexAddr (And.intro @owp_index (And.intro @owp_lookup (And.intro @owp_mapUpdate (And.intro @owp_typeAssert (And.intro @owp_extract (And.intro @owp_callB (And.intro @Does_move (And.intro @Does_assign (And.intro @Does_pick (@Does_alloc)))))))))))))))))))))))))))))))))) := And.intro @oneC_ptr (And.intro @oneC_cptr (And.intro @oneC_emp (And.intro @oneC_mp (And.intro @owp_move (And.intro @owp_assign (And.intro @owp_pick (And.intro @owp_alloc (And.intro @owp_box (And.intro @owp_build (And.intro @owp_buildSlice (And.intro @owp_load (And.intro @owp_store (And.intro @owp_nilCheck (And.intro @owp_binOp (And.intro @owp_unOp (And.intro @owp_convert (And.intro @owp_makeInterface (And.intro @owp_makeMap (And.intro @owp_makeSlice (And.intro @owp_slice (And.intro @owp_fieldAddr (And.intro @owp_field (And.intro @owp_indexAddr (And.intro @owp_index (And.intro @owp_lookup (And.intro @owp_mapUpdate (And.intro @owp_typeAssert (And.intro @owp_extract (And.intro @owp_callB (And.intro @Does_move (And.intro @Does_assign (And.intro @Does_pick (@Does_alloc)))))))))))))))))))))))))))))))))
theorem am3 : type_of% (And.intro @Does_box (And.intro @Does_build (And.intro @Does_buildSlice (And.intro @Does_load (And.intro @Does_store (And.intro @Does_nilCheck (And.intro @Does_binOp (And.intro @Does_unOp (And.intro @Does_convert (And.intro @Does_makeInterface (And.intro @Does_makeMap (And.intro @Does_makeSlice (And.intro @Does_slice (And.intro @Does_fieldAddr (And.intro @Does_field (And.intro @Does_indexAddr (And.intro @Does_index (And.intro @Does_lookup (And.intro @Does_mapUpdate (And.intro @Does_typeAssert (And.intro @Does_extract (And.intro @Does_callB (And.intro @constPV_int (And.intro @constPV_bool (And.intro @constPV_str (And.intro @constPV_nilI (And.intro @constPV_ptr (And.intro @constPV_slice (And.intro @constPV_map (And.intro @constPV_agg (And.intro @upd_app (And.intro @updO_some (And.intro @updO_none (@slots0_app)))))))))))))))))))))))))))))))))) := And.intro @Does_box (And.intro @Does_build (And.intro @Does_buildSlice (And.intro @Does_load (And.intro @Does_store (And.intro @Does_nilCheck (And.intro @Does_binOp (And.intro @Does_unOp (And.intro @Does_convert (And.intro @Does_makeInterface (And.intro @Does_makeMap (And.intro @Does_makeSlice (And.intro @Does_slice (And.intro @Does_fieldAddr (And.intro @Does_field (And.intro @Does_indexAddr (And.intro @Does_index (And.intro @Does_lookup (And.intro @Does_mapUpdate (And.intro @Does_typeAssert (And.intro @Does_extract (And.intro @Does_callB (And.intro @constPV_int (And.intro @constPV_bool (And.intro @constPV_str (And.intro @constPV_nilI (And.intro @constPV_ptr (And.intro @constPV_slice (And.intro @constPV_map (And.intro @constPV_agg (And.intro @upd_app (And.intro @updO_some (And.intro @updO_none (@slots0_app)))))))))))))))))))))))))))))))))
theorem amb0 : type_of% (And.intro @Nat.zero_add (And.intro @Int.natCast_nonneg (And.intro @decide_eq_true_eq (And.intro @decide_eq_false_iff_not (And.intro @Bool.not_eq_true (And.intro @Bool.not_eq_false (And.intro @not_false_eq_true (And.intro @not_true_eq_false (And.intro @Decidable.not_not (And.intro @Option.bind_some.{0, 0} (And.intro @Option.bind_none.{0, 0} (And.intro @Option.map_some.{0, 0} (And.intro @Option.map_none.{0, 0} (And.intro @Option.all_some.{0} (And.intro @Option.all_none.{0} (And.intro @Option.any_some.{0} (And.intro @Option.any_none.{0} (And.intro @Option.some.injEq.{0} (And.intro @Prod.mk.injEq.{0, 0} (And.intro @List.map_cons.{0, 0} (And.intro @List.map_nil.{0, 0} (And.intro @List.length_cons.{0} (And.intro @List.length_nil.{0} (And.intro @List.length_map.{0, 0} (And.intro @List.getD_cons_zero.{0} (And.intro @List.getD_cons_succ.{0} (And.intro @List.getElem?_cons_zero.{0} (And.intro @List.getElem?_cons_succ.{0} (And.intro @List.drop_zero.{0} (And.intro @List.drop_succ_cons.{0} (And.intro @List.drop_nil.{0} (And.intro @List.take_zero.{0} (And.intro @List.take_succ_cons.{0} (@List.take_nil.{0})))))))))))))))))))))))))))))))))) := And.intro @Nat.zero_add (And.intro @Int.natCast_nonneg (And.intro @decide_eq_true_eq (And.intro @decide_eq_false_iff_not (And.intro @Bool.not_eq_true (And.intro @Bool.not_eq_false (And.intro @not_false_eq_true (And.intro @not_true_eq_false (And.intro @Decidable.not_not (And.intro @Option.bind_some.{0, 0} (And.intro @Option.bind_none.{0, 0} (And.intro @Option.map_some.{0, 0} (And.intro @Option.map_none.{0, 0} (And.intro @Option.all_some.{0} (And.intro @Option.all_none.{0} (And.intro @Option.any_some.{0} (And.intro @Option.any_none.{0} (And.intro @Option.some.injEq.{0} (And.intro @Prod.mk.injEq.{0, 0} (And.intro @List.map_cons.{0, 0} (And.intro @List.map_nil.{0, 0} (And.intro @List.length_cons.{0} (And.intro @List.length_nil.{0} (And.intro @List.length_map.{0, 0} (And.intro @List.getD_cons_zero.{0} (And.intro @List.getD_cons_succ.{0} (And.intro @List.getElem?_cons_zero.{0} (And.intro @List.getElem?_cons_succ.{0} (And.intro @List.drop_zero.{0} (And.intro @List.drop_succ_cons.{0} (And.intro @List.drop_nil.{0} (And.intro @List.take_zero.{0} (And.intro @List.take_succ_cons.{0} (@List.take_nil.{0})))))))))))))))))))))))))))))))))
theorem amb1 : type_of% (And.intro @List.head?_cons.{0} (And.intro @List.all_cons.{0} (And.intro @List.all_nil.{0} (And.intro @List.cons_append.{0} (And.intro @List.nil_append.{0} (And.intro @List.append_nil.{0} (And.intro @List.replicate_succ.{0} (And.intro @List.replicate_zero.{0} (And.intro @List.set_cons_zero.{0} (And.intro @List.set_cons_succ.{0} (And.intro @decide_true (And.intro @decide_false (And.intro @Bool.or_true (And.intro @Bool.true_or (And.intro @Bool.or_false (And.intro @Bool.false_or (And.intro @Bool.and_true (And.intro @Bool.true_and (And.intro @Bool.and_false (And.intro @Bool.false_and (And.intro @Bool.not_true (And.intro @Bool.not_false (And.intro @Bool.false_eq_true (And.intro @and_true (And.intro @true_and (And.intro @and_false (And.intro @false_and (And.intro @and_self (And.intro @or_true (And.intro @true_or (And.intro @or_false (And.intro @false_or (And.intro @List.not_mem_nil.{0} (@false_implies)))))))))))))))))))))))))))))))))) := And.intro @List.head?_cons.{0} (And.intro @List.all_cons.{0} (And.intro @List.all_nil.{0} (And.intro @List.cons_append.{0} (And.intro @List.nil_append.{0} (And.intro @List.append_nil.{0} (And.intro @List.replicate_succ.{0} (And.intro @List.replicate_zero.{0} (And.intro @List.set_cons_zero.{0} (And.intro @List.set_cons_succ.{0} (And.intro @decide_true (And.intro @decide_false (And.intro @Bool.or_true (And.intro @Bool.true_or (And.intro @Bool.or_false (And.intro @Bool.false_or (And.intro @Bool.and_true (And.intro @Bool.true_and (And.intro @Bool.and_false (And.intro @Bool.false_and (And.intro @Bool.not_true (And.intro @Bool.not_false (And.intro @Bool.false_eq_true (And.intro @and_true (And.intro @true_and (And.intro @and_false (And.intro @false_and (And.intro @and_self (And.intro @or_true (And.intro @true_or (And.intro @or_false (And.intro @false_or (And.intro @List.not_mem_nil.{0} (@false_implies)))))))))))))))))))))))))))))))))
theorem amb2 : type_of% (And.intro @Int.toNat_natCast (@List.getElem?_map.{0, 0})) := And.intro @Int.toNat_natCast (@List.getElem?_map.{0, 0})
theorem amb3 : type_of% (And.intro @andK_u64 (And.intro @orK_u64 (And.intro @xorK_u64 (And.intro @andnK_u64 (And.intro @andK_i64 (And.intro @orK_i64 (And.intro @xorK_i64 (And.intro @andnK_i64 (And.intro @andK_u8 (And.intro @orK_u8 (And.intro @xorK_u8 (@andnK_u8)))))))))))) := And.intro @andK_u64 (And.intro @orK_u64 (And.intro @xorK_u64 (And.intro @andnK_u64 (And.intro @andK_i64 (And.intro @orK_i64 (And.intro @xorK_i64 (And.intro @andnK_i64 (And.intro @andK_u8 (And.intro @orK_u8 (And.intro @xorK_u8 (@andnK_u8)))))))))))
theorem amb4 : type_of% (And.intro @beq_iff_eq.{0} (And.intro @bne_iff_ne.{0} (And.intro @ne_eq.{1} (And.intro @beq_eq_false_iff_ne.{0} (@beq_self_eq_true.{0}))))) := And.intro @beq_iff_eq.{0} (And.intro @bne_iff_ne.{0} (And.intro @ne_eq.{1} (And.intro @beq_eq_false_iff_ne.{0} (@beq_self_eq_true.{0}))))
theorem hb0 : type_of% (And.intro @not_true_eq_false (And.intro @not_false_eq_true (And.intro @decide_eq_true_eq (And.intro @decide_eq_false_iff_not (And.intro @Bool.or_eq_true (And.intro @Bool.or_eq_false_iff (And.intro @Bool.and_eq_true (And.intro @Bool.and_eq_false_iff (And.intro @Bool.not_eq_true' (And.intro @Bool.not_eq_false' (And.intro @Bool.not_eq_true (And.intro @Bool.not_eq_false (And.intro @bne_iff_ne.{0} (And.intro @bne_eq_false_iff_eq.{0} (And.intro @beq_iff_eq.{0} (And.intro @beq_eq_false_iff_ne.{0} (And.intro @ne_eq.{1} (And.intro @gt_iff_lt.{0} (And.intro @ge_iff_le.{0} (And.intro @Int.not_lt (And.intro @Int.not_le (@Decidable.not_not)))))))))))))))))))))) := And.intro @not_true_eq_false (And.intro @not_false_eq_true (And.intro @decide_eq_true_eq (And.intro @decide_eq_false_iff_not (And.intro @Bool.or_eq_true (And.intro @Bool.or_eq_false_iff (And.intro @Bool.and_eq_true (And.intro @Bool.and_eq_false_iff (And.intro @Bool.not_eq_true' (And.intro @Bool.not_eq_false' (And.intro @Bool.not_eq_true (And.intro @Bool.not_eq_false (And.intro @bne_iff_ne.{0} (And.intro @bne_eq_false_iff_eq.{0} (And.intro @beq_iff_eq.{0} (And.intro @beq_eq_false_iff_ne.{0} (And.intro @ne_eq.{1} (And.intro @gt_iff_lt.{0} (And.intro @ge_iff_le.{0} (And.intro @Int.not_lt (And.intro @Int.not_le (@Decidable.not_not)))))))))))))))))))))
section
variable {K : Slots → Heap → Prop} {Q : Post} {i j : Nat}
theorem ps1 : Post.seq K Q .normal s h = K s h := rfl
theorem ps2 : Post.seq K Q .ret s h = Q .ret s h := rfl
theorem ps3 : Post.seq K Q (.exit i) s h = Q (.exit i) s h := rfl
theorem ps4 : Post.block j Q .normal s h = Q .normal s h := rfl
theorem ps5 : Post.block j Q .ret s h = Q .ret s h := rfl
theorem ps6 : Post.block j Q (.exit i) s h = if i = j then Q .normal s h else Q (.exit i) s h := rfl
end
theorem pst0 : type_of% (And.intro @ps1 (And.intro @ps2 (And.intro @ps3 (And.intro @ps4 (And.intro @ps5 @ps6))))) := And.intro @ps1 (And.intro @ps2 (And.intro @ps3 (And.intro @ps4 (And.intro @ps5 @ps6))))
end Go.AM
namespace Go.AM
set_option maxRecDepth 20000
theorem we0 : type_of% (And.intro @Go.undef.eq_1 (And.intro @Go.AM.lwn.eq_1 (And.intro @Go.AM.lwn.eq_2 (And.intro @Go.AM.drn.eq_1 (And.intro @Go.AM.drn.eq_2 (And.intro @Go.AM.callee.eq_1 (And.intro @Go.AM.callee.eq_2 (And.intro @Go.AM.wantedB.eq_1 (And.intro @Go.AM.isW.eq_1 (And.intro @Go.AM.eff.eq_1 (And.intro @Go.AM.eff.eq_2 (And.intro @Go.AM.eff.eq_3 (And.intro @Go.AM.eff.eq_4 (And.intro @Go.AM.eff.eq_5 (And.intro @Go.AM.eff.eq_6 (And.intro @Go.AM.eff.eq_7 (And.intro @Go.AM.eff.eq_8 (And.intro @Go.AM.eff.eq_9 (And.intro @Go.AM.eff.eq_10 (And.intro @Go.AM.eff.eq_11 (And.intro @Go.AM.eff.eq_12 (And.intro @Go.AM.eff.eq_13 (And.intro @Go.AM.eff.eq_14 (And.intro @Go.AM.eff.eq_15 (And.intro @Go.AM.eff.eq_16 (And.intro @Go.AM.eff.eq_17 (And.intro @Go.AM.eff.eq_18 (And.intro @Go.AM.eff.eq_19 (And.intro @Go.AM.eff.eq_20 (And.intro @Go.AM.eff.eq_21 (And.intro @Go.AM.eff.eq_22 (And.intro @Go.AM.eff.eq_23 (And.intro @Go.AM.eff.eq_24 @Go.AM.eff.eq_25))))))))))))))))))))))))))))))))) := And.intro @Go.undef.eq_1 (And.intro @Go.AM.lwn.eq_1 (And.intro @Go.AM.lwn.eq_2 (And.intro @Go.AM.drn.eq_1 (And.intro @Go.AM.drn.eq_2 (And.intro @Go.AM.callee.eq_1 (And.intro @Go.AM.callee.eq_2 (And.intro @Go.AM.wantedB.eq_1 (And.intro @Go.AM.isW.eq_1 (And.intro @Go.AM.eff.eq_1 (And.intro @Go.AM.eff.eq_2 (And.intro @Go.AM.eff.eq_3 (And.intro @Go.AM.eff.eq_4 (And.intro @Go.AM.eff.eq_5 (And.intro @Go.AM.eff.eq_6 (And.intro @Go.AM.eff.eq_7 (And.intro @Go.AM.eff.eq_8 (And.intro @Go.AM.eff.eq_9 (And.intro @Go.AM.eff.eq_10 (And.intro @Go.AM.eff.eq_11 (And.intro @Go.AM.eff.eq_12 (And.intro @Go.AM.eff.eq_13 (And.intro @Go.AM.eff.eq_14 (And.intro @Go.AM.eff.eq_15 (And.intro @Go.AM.eff.eq_16 (And.intro @Go.AM.eff.eq_17 (And.intro @Go.AM.eff.eq_18 (And.intro @Go.AM.eff.eq_19 (And.intro @Go.AM.eff.eq_20 (And.intro @Go.AM.eff.eq_21 (And.intro @Go.AM.eff.eq_22 (And.intro @Go.AM.eff.eq_23 (And.intro @Go.AM.eff.eq_24 @Go.AM.eff.eq_25))))))))))))))))))))))))))))))))
theorem we1 : type_of% (And.intro @Go.AM.pev.eq_1 (And.intro @Go.AM.pev.eq_2 (And.intro @Go.AM.pev.eq_3 (And.intro @Go.AM.pev.eq_4 (And.intro @Go.AM.retPost.eq_1 (And.intro @Go.AM.retPost.eq_2 (And.intro @Go.AM.retPost.eq_3 (And.intro @Go.AM.resAll.eq_1 (And.intro @Go.AM.resAll.eq_2 (And.intro @Go.AM.resP.eq_1 (And.intro @Go.AM.resP.eq_2 (And.intro @Go.AM.resV.eq_1 (And.intro @Go.AM.resV.eq_2 (And.intro @Go.AM.intP.eq_1 (And.intro @Go.AM.intP.eq_2 (And.intro @Go.AM.mkV.eq_1 (And.intro @Go.AM.putC.eq_1 (And.intro @Go.AM.pbin.eq_1 (And.intro @Go.AM.pbin.eq_2 (And.intro @Go.AM.pbin.eq_3 (And.intro @Go.AM.pbin.eq_4 (And.intro @Go.AM.pbin.eq_5 (And.intro @Go.AM.pbin.eq_6 (And.intro @Go.AM.pbin.eq_7 (And.intro @Go.AM.sbin.eq_1 (And.intro @Go.AM.sbin.eq_2 (And.intro @Go.AM.sbin.eq_3 (And.intro @Go.AM.sbin.eq_4 (And.intro @Go.AM.strsEq.eq_1 (And.intro @Go.AM.strsEq.eq_2 (And.intro @Go.AM.strsEq.eq_3 (And.intro @Go.AM.peq.eq_1 (And.intro @Go.AM.peq.eq_2 (And.intro @Go.AM.peq.eq_3 (And.intro @Go.AM.peq.eq_4 (And.intro @Go.AM.peq.eq_5 (And.intro @Go.AM.peq.eq_6 (And.intro @Go.AM.peq.eq_7 @Go.AM.peq.eq_8)))))))))))))))))))))))))))))))))))))) := And.intro @Go.AM.pev.eq_1 (And.intro @Go.AM.pev.eq_2 (And.intro @Go.AM.pev.eq_3 (And.intro @Go.AM.pev.eq_4 (And.intro @Go.AM.retPost.eq_1 (And.intro @Go.AM.retPost.eq_2 (And.intro @Go.AM.retPost.eq_3 (And.intro @Go.AM.resAll.eq_1 (And.intro @Go.AM.resAll.eq_2 (And.intro @Go.AM.resP.eq_1 (And.intro @Go.AM.resP.eq_2 (And.intro @Go.AM.resV.eq_1 (And.intro @Go.AM.resV.eq_2 (And.intro @Go.AM.intP.eq_1 (And.intro @Go.AM.intP.eq_2 (And.intro @Go.AM.mkV.eq_1 (And.intro @Go.AM.putC.eq_1 (And.intro @Go.AM.pbin.eq_1 (And.intro @Go.AM.pbin.eq_2 (And.intro @Go.AM.pbin.eq_3 (And.intro @Go.AM.pbin.eq_4 (And.intro @Go.AM.pbin.eq_5 (And.intro @Go.AM.pbin.eq_6 (And.intro @Go.AM.pbin.eq_7 (And.intro @Go.AM.sbin.eq_1 (And.intro @Go.AM.sbin.eq_2 (And.intro @Go.AM.sbin.eq_3 (And.intro @Go.AM.sbin.eq_4 (And.intro @Go.AM.strsEq.eq_1 (And.intro @Go.AM.strsEq.eq_2 (And.intro @Go.AM.strsEq.eq_3 (And.intro @Go.AM.peq.eq_1 (And.intro @Go.AM.peq.eq_2 (And.intro @Go.AM.peq.eq_3 (And.intro @Go.AM.peq.eq_4 (And.intro @Go.AM.peq.eq_5 (And.intro @Go.AM.peq.eq_6 (And.intro @Go.AM.peq.eq_7 @Go.AM.peq.eq_8)))))))))))))))))))))))))))))))))))))
theorem we2 : type_of% (And.intro @Go.AM.peq.eq_9 (And.intro @Go.AM.peq.eq_10 (And.intro @Go.AM.peq.eq_11 (And.intro @Go.AM.peq.eq_12 (And.intro @Go.AM.peq.eq_13 (And.intro @Go.AM.peq.eq_14 (And.intro @Go.AM.peq.eq_15 (And.intro @Go.AM.pint.eq_1 (And.intro @Go.AM.pint.eq_2 (And.intro @Go.AM.pint.eq_3 (And.intro @Go.AM.pint.eq_4 (And.intro @Go.AM.pint.eq_5 (And.intro @Go.AM.pint.eq_6 (And.intro @Go.AM.pint.eq_7 (And.intro @Go.AM.pint.eq_8 (And.intro @Go.AM.pint.eq_9 (And.intro @Go.AM.pint.eq_10 (And.intro @Go.AM.pint.eq_11 (And.intro @Go.AM.pint.eq_12 (And.intro @Go.AM.pint.eq_13 (And.intro @Go.AM.pint.eq_14 (And.intro @Go.AM.pint.eq_15 (And.intro @Go.AM.pint.eq_16 (And.intro @Go.AM.pshift.eq_1 (And.intro @Go.AM.pshift.eq_2 (And.intro @Go.AM.pshift.eq_3 (And.intro @Go.AM.pstr.eq_1 (And.intro @Go.AM.pstr.eq_2 (And.intro @Go.AM.pstr.eq_3 (And.intro @Go.AM.pstr.eq_4 (And.intro @Go.AM.pstr.eq_5 (And.intro @Go.AM.pstr.eq_6 (And.intro @Go.AM.pstr.eq_7 (And.intro @Go.AM.pstr.eq_8 (And.intro @Go.AM.pun.eq_1 (And.intro @Go.AM.pun.eq_2 (And.intro @Go.AM.pun.eq_3 (And.intro @Go.AM.pun.eq_4 (And.intro @Go.AM.pconv.eq_1 (@Go.AM.pconv.eq_2)))))))))))))))))))))))))))))))))))))))) := And.intro @Go.AM.peq.eq_9 (And.intro @Go.AM.peq.eq_10 (And.intro @Go.AM.peq.eq_11 (And.intro @Go.AM.peq.eq_12 (And.intro @Go.AM.peq.eq_13 (And.intro @Go.AM.peq.eq_14 (And.intro @Go.AM.peq.eq_15 (And.intro @Go.AM.pint.eq_1 (And.intro @Go.AM.pint.eq_2 (And.intro @Go.AM.pint.eq_3 (And.intro @Go.AM.pint.eq_4 (And.intro @Go.AM.pint.eq_5 (And.intro @Go.AM.pint.eq_6 (And.intro @Go.AM.pint.eq_7 (And.intro @Go.AM.pint.eq_8 (And.intro @Go.AM.pint.eq_9 (And.intro @Go.AM.pint.eq_10 (And.intro @Go.AM.pint.eq_11 (And.intro @Go.AM.pint.eq_12 (And.intro @Go.AM.pint.eq_13 (And.intro @Go.AM.pint.eq_14 (And.intro @Go.AM.pint.eq_15 (And.intro @Go.AM.pint.eq_16 (And.intro @Go.AM.pshift.eq_1 (And.intro @Go.AM.pshift.eq_2 (And.intro @Go.AM.pshift.eq_3 (And.intro @Go.AM.pstr.eq_1 (And.intro @Go.AM.pstr.eq_2 (And.intro @Go.AM.pstr.eq_3 (And.intro @Go.AM.pstr.eq_4 (And.intro @Go.AM.pstr.eq_5 (And.intro @Go.AM.pstr.eq_6 (And.intro @Go.AM.pstr.eq_7 (And.intro @Go.AM.pstr.eq_8 (And.intro @Go.AM.pun.eq_1 (And.intro @Go.AM.pun.eq_2 (And.intro @Go.AM.pun.eq_3 (And.intro @Go.AM.pun.eq_4 (And.intro @Go.AM.pconv.eq_1 (@Go.AM.pconv.eq_2)))))))))))))))))))))))))))))))))))))))
theorem we3 : type_of% (And.intro @Go.AM.pconv.eq_3 (And.intro @Go.AM.isShift.eq_1 (And.intro @Go.AM.isShift.eq_2 (And.intro @Go.AM.isShift.eq_3 (And.intro @Go.AM.isConstB.eq_1 (And.intro @Go.AM.isConstB.eq_2 (And.intro @Go.AM.app.eq_1 (And.intro @Go.AM.subS.eq_1 (And.intro @Go.AM.subS.eq_2 (And.intro @Go.AM.lay.eq_1 (And.intro @Go.AM.lay.eq_2 (And.intro @Go.AM.rowsOf.eq_1 (And.intro @Go.AM.rowsOf.eq_2 (And.intro @Go.AM.lkV.eq_1 (And.intro @Go.AM.lkV.eq_2 (And.intro @Go.AM.keyKind.eq_1 (And.intro @Go.AM.keyKind.eq_2 (And.intro @Go.AM.keyKind.eq_3 (And.intro @Go.AM.keyKind.eq_4 (And.intro @Go.AM.keyEq.eq_1 (And.intro @Go.AM.keyEq.eq_2 (And.intro @Go.AM.keyEq.eq_3 (And.intro @Go.AM.keyEq.eq_4 (And.intro @Go.AM.mfind.eq_1 (And.intro @Go.AM.mfind.eq_2 (And.intro @Go.AM.mput.eq_1 (And.intro @Go.AM.mput.eq_2 (And.intro @Go.AM.oInt.eq_1 (And.intro @Go.AM.oInt.eq_2 (And.intro @Go.AM.isZeroInt.eq_1 (And.intro @Go.AM.isZeroInt.eq_2 (And.intro @Go.IntKind.bits.eq_1 (And.intro @Go.IntKind.bits.eq_2 (And.intro @Go.IntKind.bits.eq_3 (And.intro @Go.IntKind.bits.eq_4 (And.intro @Go.IntKind.bits.eq_5 (And.intro @Go.IntKind.bits.eq_6 (And.intro @Go.IntKind.bits.eq_7 (@Go.IntKind.bits.eq_8))))))))))))))))))))))))))))))))))))))) := And.intro @Go.AM.pconv.eq_3 (And.intro @Go.AM.isShift.eq_1 (And.intro @Go.AM.isShift.eq_2 (And.intro @Go.AM.isShift.eq_3 (And.intro @Go.AM.isConstB.eq_1 (And.intro @Go.AM.isConstB.eq_2 (And.intro @Go.AM.app.eq_1 (And.intro @Go.AM.subS.eq_1 (And.intro @Go.AM.subS.eq_2 (And.intro @Go.AM.lay.eq_1 (And.intro @Go.AM.lay.eq_2 (And.intro @Go.AM.rowsOf.eq_1 (And.intro @Go.AM.rowsOf.eq_2 (And.intro @Go.AM.lkV.eq_1 (And.intro @Go.AM.lkV.eq_2 (And.intro @Go.AM.keyKind.eq_1 (And.intro @Go.AM.keyKind.eq_2 (And.intro @Go.AM.keyKind.eq_3 (And.intro @Go.AM.keyKind.eq_4 (And.intro @Go.AM.keyEq.eq_1 (And.intro @Go.AM.keyEq.eq_2 (And.intro @Go.AM.keyEq.eq_3 (And.intro @Go.AM.keyEq.eq_4 (And.intro @Go.AM.mfind.eq_1 (And.intro @Go.AM.mfind.eq_2 (And.intro @Go.AM.mput.eq_1 (And.intro @Go.AM.mput.eq_2 (And.intro @Go.AM.oInt.eq_1 (And.intro @Go.AM.oInt.eq_2 (And.intro @Go.AM.isZeroInt.eq_1 (And.intro @Go.AM.isZeroInt.eq_2 (And.intro @Go.IntKind.bits.eq_1 (And.intro @Go.IntKind.bits.eq_2 (And.intro @Go.IntKind.bits.eq_3 (And.intro @Go.IntKind.bits.eq_4 (And.intro @Go.IntKind.bits.eq_5 (And.intro @Go.IntKind.bits.eq_6 (And.intro @Go.IntKind.bits.eq_7 (@Go.IntKind.bits.eq_8))))))))))))))))))))))))))))))))))))))
theorem w0 : type_of% (And.intro @am0 (And.intro @am1 (And.intro @am2 (And.intro @am3 (And.intro @amb0 (And.intro @amb1 (And.intro @amb2 (And.intro @amb3 (And.intro @amb4 (And.intro @pst0 (And.intro @we0 (And.intro @we1 (And.intro @we2 (And.intro @we3 (And.intro @forall_const.{0} (And.intro @forall_const.{1} (And.intro @exists_eq_left'.{1} (And.intro @implies_true.{0} (@implies_true.{1}))))))))))))))))))) := And.intro @am0 (And.intro @am1 (And.intro @am2 (And.intro @am3 (And.intro @amb0 (And.intro @amb1 (And.intro @amb2 (And.intro @amb3 (And.intro @amb4 (And.intro @pst0 (And.intro @we0 (And.intro @we1 (And.intro @we2 (And.intro @we3 (And.intro @forall_const.{0} (And.intro @forall_const.{1} (And.intro @exists_eq_left'.{1} (And.intro @implies_true.{0} (@implies_true.{1}))))))))))))))))))
end Go.AM
