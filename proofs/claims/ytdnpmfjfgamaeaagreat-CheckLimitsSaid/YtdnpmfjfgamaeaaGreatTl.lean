/- Slices that grow, and results in new memory. -/
import Derived.Test.YtdnpmfjfgamaeaaGreatAmTac
set_option linter.unusedVariables false
set_option linter.unusedSimpArgs false
set_option linter.unusedSectionVars false
namespace Go.AM
/-- p shows these rows, and may be appended to: nothing, or an object of its own, numbered id0 or above -/
def Tl (h : Heap) (id0 z : Nat) (p : PV) (rows : List (List PV)) : Prop :=
  (rows = [] ∧ (p = .sc (.slice none 0 0) ∨ p = .emp)) ∨ ∃ id, id0 ≤ id ∧ id < h.next ∧ p = .own id 0 rows.length ∧ h.obj id = some (.arr z rows)
variable {h : Heap} {id0 z : Nat} {p : PV} {rows : List (List PV)}
theorem Tl.nil : Tl h id0 z (.sc (.slice none 0 0)) [] := .inl ⟨rfl, .inl rfl⟩
theorem Tl.emp : Tl h id0 z .emp [] := .inl ⟨rfl, .inr rfl⟩
theorem Tl.sl (t : Tl h id0 z p rows) : Sl h z p rows := by
  rcases t with ⟨rfl, rfl | rfl⟩ | ⟨id, _, _, rfl, ho⟩
  · exact Sl.nil
  · exact Sl.emp
  · exact Sl.own0 ho
theorem Tl.tail (t : Tl h id0 z p rows) : ∃ H, isTail h p = some (H, rows) ∧ zOk h z p = true ∧ H.next = h.next ∧ (∀ j, j < id0 → H.obj j = h.obj j) ∧ (∀ h0, Keep h0 h → h0.next ≤ id0 → Keep h0 H) := by
  rcases t with ⟨rfl, rfl | rfl⟩ | ⟨id, h1, h2, rfl, ho⟩
  · exact ⟨h, rfl, rfl, rfl, fun _ _ => rfl, fun _ hk _ => hk⟩
  · exact ⟨h, rfl, rfl, rfl, fun _ _ => rfl, fun _ hk _ => hk⟩
  · refine ⟨h.kill id, by simp [isTail, ho], by simp [zOk, ho], rfl, fun j hj => ?_, fun h0 hk hn => keep_kill (by omega) hk⟩
    rw [kill_obj, if_neg (by omega)]
theorem Tl.grow {H : Heap} {len : Nat} (hn : id0 ≤ H.next) (hl : len = rows.length) : Tl (H.new (.arr z rows)) id0 z (.own H.next 0 len) rows :=
  .inr ⟨H.next, hn, Nat.lt_succ_self _, by rw [hl], by rw [new_obj, if_pos rfl]⟩
theorem Tl.up {h' : Heap} (t : Tl h id0 z p rows) (hn : h.next ≤ h'.next) (ho : ∀ j, id0 ≤ j → j < h.next → h'.obj j = h.obj j) : Tl h' id0 z p rows := by
  rcases t with ht | ⟨id, h1, h2, rfl, h3⟩
  · exact .inl ht
  · exact .inr ⟨id, h1, by omega, rfl, by rw [ho id h1 h2]; exact h3⟩
theorem FrzL_sc {n : Nat} : (l : List PV) → (∀ p ∈ l, ∃ v, p = .sc v) → FrzL n h l l
  | [], _ => by simp only [FrzL]
  | p :: l, hp => by
    obtain ⟨v, hv⟩ := hp p (by simp)
    simp only [FrzL]
    exact ⟨by rw [hv]; simp only [FrzTo], FrzL_sc l (fun q hq => hp q (by simp [hq]))⟩
theorem FrzR_sc {n : Nat} : (l : List (List PV)) → (∀ r ∈ l, ∀ p ∈ r, ∃ v, p = .sc v) → FrzR n h l l
  | [], _ => by simp only [FrzR]
  | r :: l, hp => by
    simp only [FrzR]
    exact ⟨FrzL_sc r (hp r (by simp)), FrzR_sc l (fun q hq => hp q (by simp [hq]))⟩
theorem Tl.frz (t : Tl h id0 z p rows) (hs : ∀ r ∈ rows, ∀ p ∈ r, ∃ v, p = .sc v) : FrzTo id0 h (.imm z rows) p := by
  simp only [FrzTo]
  rcases t with ⟨h1, h2⟩ | ⟨id, h1, h2, rfl, ho⟩
  · exact .inr (.inl ⟨h1, h2.symm⟩)
  · refine .inr (.inr ⟨id, 0, _, _, rfl, h1, ho, by omega, ?_⟩)
    rw [List.drop_zero, List.take_of_length_le (by omega)]
    exact FrzR_sc _ hs
theorem drop_same {h' : Heap} (hwf : Wf h) (hk : Keep h h') : ∀ (id : Nat) (o : AObj), h.obj id = some o → h'.obj id = some o ∧ id < h.next ∧ (h.obj id = some o ∨ inNO h.next o) := fun id o ho => by
  have := hwf id (by rw [ho]; rfl)
  exact ⟨by rw [hk.2 id this]; exact ho, this, .inl ho⟩
theorem rowsI_scal (l : List Int) : ∀ r ∈ rowsI l, ∀ p ∈ r, ∃ v, p = PV.sc v := by
  intro r hr p hp
  simp only [rowsI, List.mem_map] at hr
  obtain ⟨x, _, rfl⟩ := hr
  simp only [List.mem_singleton] at hp
  exact ⟨_, hp⟩
theorem rowsU_scal (l : List (BitVec 64)) : ∀ r ∈ rowsU l, ∀ p ∈ r, ∃ v, p = PV.sc v := by
  intro r hr p hp
  simp only [rowsU, List.mem_map] at hr
  obtain ⟨x, _, rfl⟩ := hr
  simp only [List.mem_singleton] at hp
  exact ⟨_, hp⟩
theorem rowsI_set (xs : List Int) (i : Nat) (x : Int) : (rowsI xs).set i [.sc (.int .i64 x)] = rowsI (xs.set i x) := by simp [rowsI, List.map_set]
theorem rowsI_app (xs : List Int) (x : Int) : rowsI xs ++ [[.sc (.int .i64 x)]] = rowsI (xs ++ [x]) := by simp [rowsI]
theorem rowsU_app (xs : List (BitVec 64)) (x : BitVec 64) : rowsU xs ++ [[.sc (.int .u64 x.toNat)]] = rowsU (xs ++ [x]) := by simp [rowsU, uPV]
/-- a call that leaves one value and one heap -/
theorem owp_useH {P : Program} {ow : Nat → Bool} {n : Nat} {s : Slots} {f : FuncId} {dst : Option Tmp} {args : List Operand} {ts : Array TypeId} {ty : TypeId} {pos : String} {af : Array Edge} {gd : Option (Nat × Bool)} {as : List PV} {v : PV} {h1 : Heap} {K : Slots → Heap → Prop} {ops rest : List Oper}
    (hc : PCall P f as h fun r h' => r = v ∧ h' = h1) (ha : args.map (pev s) = as) (hk : lwn P ow n ops rest K (updO s dst v) h1) :
    owp P ow { dst := dst, op := .call { callee := .value (.func f), args := args.toArray, argTypes := ts }, type := ty, pos := pos, after := af, guard := gd } (lwp P ow n ops rest K) s h :=
  owp_useL hc ha fun r h' hr => by rw [hr.1, hr.2]; exact hk
end Go.AM
