/- What came in: the common shapes. -/
import Derived.Test.YtjlkapgpjamnkaaArgs2
import Derived.Test.YtjlkapgpjamnkaaArgs
import Derived.Test.YtjlkapgpjamnkaaTl
set_option linter.unusedVariables false
set_option linter.unusedSimpArgs false
set_option linter.unusedSectionVars false
namespace Go.AM
open Go.ChangeShapes Go.WideShapes
section
variable {P : Program} {c : Nat} {t e : TypeId} {ps : List PV} {a : PV}
theorem Arg_int {k : IntKind} (hu : P.underlying t = some (.int k)) (h : Arg P (c + 1) t ps) : ∃ n, (Lit.int k n).wf = true ∧ ps = [.sc (.int k n)] := by
  unfold Arg at h; rw [hu] at h; exact h
theorem Arg_slice (hu : P.underlying t = some (.slice e)) (h : Arg P (c + 1) t ps) : ∃ rows, ps = [.imm (P.cellsOf e) rows] ∧ rows.length * P.bytesOf e ≤ reachBytes ∧ rows.length ≤ maxLen ∧ ∀ r ∈ rows, r.length = P.cellsOf e ∧ Arg P c e r := by
  unfold Arg at h; rw [hu] at h; exact h
theorem Arg_struct {fs : Array Field} (hu : P.underlying t = some (.struct fs)) (h : Arg P (c + 1) t ps) : ps.length = P.cellsOf t ∧ ∀ p ∈ partsT P t, Arg P c p.2 ((ps.drop p.1).take (P.cellsOf p.2)) := by
  unfold Arg at h; rw [hu] at h; exact h
theorem Arg_array {n : Nat} (hu : P.underlying t = some (.array n e)) (h : Arg P (c + 1) t ps) : ps.length = P.cellsOf t ∧ ∀ p ∈ partsT P t, Arg P c p.2 ((ps.drop p.1).take (P.cellsOf p.2)) := by
  unfold Arg at h; rw [hu] at h; exact h
theorem rows_map {α : Type} {Q : α → Prop} {f : α → List PV} : (rows : List (List PV)) → (∀ r ∈ rows, ∃ x, Q x ∧ r = f x) → ∃ xs : List α, rows = xs.map f ∧ ∀ x ∈ xs, Q x
  | [], _ => ⟨[], rfl, by simp⟩
  | r :: rows, h => by
    obtain ⟨xs, h1, h2⟩ := rows_map rows (fun q hq => h q (by simp [hq]))
    obtain ⟨x, h3, h4⟩ := h r (by simp)
    refine ⟨x :: xs, by simp [h1, h4], fun y hy => ?_⟩
    rcases List.mem_cons.1 hy with rfl | hy
    · exact h3
    · exact h2 y hy
theorem arg_ints2 {k : IntKind} (hu : P.underlying t = some (.slice e)) (he : P.underlying e = some (.int k)) (h1 : P.cellsOf e = 1) (h : Arg P (c + 2) t ps) :
    ∃ xs : List Int, ps = [.imm 1 (xs.map fun x => [.sc (.int k x)])] ∧ xs.length * P.bytesOf e ≤ reachBytes ∧ ∀ x ∈ xs, (Lit.int k x).wf = true := by
  obtain ⟨rows, h2, h3, h4, h5⟩ := Arg_slice hu h
  obtain ⟨xs, h6, h7⟩ := rows_map (Q := fun x => (Lit.int k x).wf = true) (f := fun x => [.sc (.int k x)]) rows (fun r hr => by
    obtain ⟨n, h8, h9⟩ := Arg_int he (h5 r hr).2
    exact ⟨n, h8, h9⟩)
  subst h6
  exact ⟨xs, by rw [h2, h1], by simpa using h3, h7⟩
theorem argV_slice (hu : P.underlying t = some (.slice e)) (h : ArgV P c t a) : Arg P c t [a] := by unfold ArgV at h; rw [hu] at h; exact h
theorem argV_int {k : IntKind} (hu : P.underlying t = some (.int k)) (h : ArgV P (c + 1) t a) : ∃ n, (Lit.int k n).wf = true ∧ a = .sc (.int k n) := by
  unfold ArgV at h; rw [hu] at h
  obtain ⟨n, h1, h2⟩ := Arg_int hu h
  simp at h2
  exact ⟨n, h1, h2⟩
theorem argV_ints {k : IntKind} (hu : P.underlying t = some (.slice e)) (he : P.underlying e = some (.int k)) (h1 : P.cellsOf e = 1) (h : ArgV P (c + 2) t a) :
    ∃ xs : List Int, a = .imm 1 (xs.map fun x => [.sc (.int k x)]) ∧ xs.length * P.bytesOf e ≤ reachBytes ∧ ∀ x ∈ xs, (Lit.int k x).wf = true := by
  obtain ⟨xs, h2, h3⟩ := arg_ints2 hu he h1 (argV_slice hu h)
  simp at h2
  exact ⟨xs, h2, h3⟩
/-- an array of two integers -/
theorem arg_two {k : IntKind} (hu : P.underlying t = some (.array 2 e)) (he : P.underlying e = some (.int k)) (h1 : P.cellsOf e = 1) (h2 : P.cellsOf t = 2) (h : Arg P (c + 2) t ps) :
    ∃ x y, (Lit.int k x).wf = true ∧ (Lit.int k y).wf = true ∧ ps = [.sc (.int k x), .sc (.int k y)] := by
  obtain ⟨h3, h4⟩ := Arg_array hu h
  have hp : partsT P t = [(0, e), (1, e)] := by unfold partsT; rw [hu]; simp [h1, List.range_succ]
  rw [hp] at h4
  obtain ⟨x, hx, ex⟩ := Arg_int he (h4 (0, e) (by simp))
  obtain ⟨y, hy, ey⟩ := Arg_int he (h4 (1, e) (by simp))
  rw [h2] at h3
  match ps, h3 with
  | [u, v], _ =>
    simp [h1] at ex ey
    exact ⟨x, y, hx, hy, by rw [ex, ey]⟩
theorem rowsU_in {xs : List Int} (h : ∀ n ∈ xs, (Lit.int .u64 n).wf = true) : ∃ W : List (BitVec 64), W.length = xs.length ∧ (xs.map fun x => [PV.sc (.int .u64 x)]) = rowsU W :=
  ⟨xs.map (BitVec.ofInt 64), by simp, (rowsU_of h).symm⟩
theorem i64_in {n : Int} (h : (Lit.int .i64 n).wf = true) : -9223372036854775808 ≤ n ∧ n ≤ 9223372036854775807 := by
  simp [Lit.wf, IntKind.min, IntKind.max, IntKind.bits, IntKind.signed] at h
  omega
end
end Go.AM
