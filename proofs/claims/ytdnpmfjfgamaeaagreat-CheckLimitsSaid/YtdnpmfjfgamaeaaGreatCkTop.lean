/- What the Check laws share at the top: small integers as arguments, and the package variable that the library reads. -/
import Derived.HandedShaped
import Derived.Test.YtdnpmfjfgamaeaaGreatAmTop
set_option linter.unusedVariables false
set_option linter.unusedSimpArgs false
set_option linter.unusedSectionVars false
namespace Go.AM
section
variable {P : Program} {w : World}
/-- a variable of one int: it holds some int -/
theorem glb_of_shape {g : Nat} {t : TypeId} {zero : Array Value} (h : w.ShapedOpen P) (hg : g < P.globals.size) (h0 : ((begin P (fun _ _ => 0) default).world.heap[g]?).bind Obj.row? = some (zero, t)) (hz : zero.size = 1)
    (hb : P.buildable t = true) (hc : P.cellTypes P.depth t = some [t]) (hu : P.underlying t = some (.int .i64)) : ∃ i : Int, w.cell? ⟨g, 0, none⟩ = some (.int .i64 i) ∧ -9223372036854775808 ≤ i ∧ i ≤ 9223372036854775807 := by
  obtain ⟨cs, hh, hs, hr⟩ := h.1 g zero t hg h0
  obtain ⟨ts, hts, _, all⟩ := hr hb
  obtain rfl := Option.some.inj (hc.symm.trans hts)
  have h1 : 0 < cs.size := by omega
  obtain ⟨u, hu', ok⟩ := all 0 cs[0] (by simp [h1])
  obtain rfl : u = t := by simpa using hu'.symm
  have hcell : w.cell? ⟨g, 0, none⟩ = some cs[0] := by simp [World.cell?, hh, h1]
  rw [hcell]
  unfold Cell.ok at ok
  rw [hu] at ok
  generalize cs[0] = c at ok
  cases c <;> simp at ok
  rename_i k n
  obtain ⟨rfl, hn⟩ := ok
  unfold IntKind.has at hn
  exact ⟨n, rfl, hn⟩
/-- an integer argument -/
theorem int_arg {k : IntKind} {t : TypeId} {base : Nat} {v : Value} (hu : P.underlying t = some (.int k)) (hv : Value.okWide P w .any base t v) : ∃ n : Int, k.min ≤ n ∧ n ≤ k.max ∧ v = .int k n := by
  unfold Value.okWide at hv
  rw [hu] at hv
  simp only at hv
  unfold Cell.okWide at hv
  rw [hu] at hv
  unfold Cell.ok at hv
  rw [hu] at hv
  cases v <;> simp at hv
  rename_i k' n
  obtain ⟨rfl, hn⟩ := hv
  unfold IntKind.has at hn
  exact ⟨n, hn.1, hn.2, rfl⟩
theorem PCall.rep {f : FuncId} {args args' : List PV} {h : Heap} {K : PV → Heap → Prop} (hc : PCall P f args' h K) (hk : ∀ β n F w xs, RepL β n F w args xs → RepL β n F w args' xs) : PCall P f args h K :=
  fun β w vals sm hr => hc β w vals sm (hk _ _ _ _ _ hr)
theorem PCall.ab1 {f : FuncId} {k : IntKind} {lo hi m r n : Int} {h : Heap} {K : PV → Heap → Prop} (hc : PCall P f [.ab k lo hi m r] h K) (h1 : lo ≤ n) (h2 : n ≤ hi) (h3 : n.tmod m = r) : PCall P f [.sc (.int k n)] h K := by
  refine hc.rep fun β q F w xs hr => ?_
  match xs, hr with
  | [x], hr =>
    simp only [RepL, Rep] at hr ⊢
    exact ⟨⟨n, h1, h2, h3, hr.1⟩, trivial⟩
theorem PCall.ab2 {f : FuncId} {k k' : IntKind} {lo hi m r n lo' hi' m' r' n' : Int} {h : Heap} {K : PV → Heap → Prop} (hc : PCall P f [.ab k lo hi m r, .ab k' lo' hi' m' r'] h K) (h1 : lo ≤ n) (h2 : n ≤ hi) (h3 : n.tmod m = r) (h1' : lo' ≤ n') (h2' : n' ≤ hi') (h3' : n'.tmod m' = r') : PCall P f [.sc (.int k n), .sc (.int k' n')] h K := by
  refine hc.rep fun β q F w xs hr => ?_
  match xs, hr with
  | [x, y], hr =>
    simp only [RepL, Rep] at hr ⊢
    exact ⟨⟨n, h1, h2, h3, hr.1⟩, ⟨n', h1', h2', h3', hr.2.1⟩, trivial⟩
theorem PCall.abs {f : FuncId} {k : IntKind} {lo hi m r n : Int} {args : List PV} {h : Heap} {K : PV → Heap → Prop} (hc : PCall P f (.ab k lo hi m r :: args) h K) (h1 : lo ≤ n) (h2 : n ≤ hi) (h3 : n.tmod m = r) : PCall P f (.sc (.int k n) :: args) h K := by
  refine hc.rep fun β q F w xs hr => ?_
  match xs, hr with
  | [], hr => simp only [RepL] at hr
  | x :: xs, hr =>
    simp only [RepL, Rep] at hr ⊢
    exact ⟨⟨n, h1, h2, h3, hr.1⟩, hr.2⟩
/-- an interval is cut in two -/
theorem PCall.abSplit {f : FuncId} {k : IntKind} {lo hi : Int} (a : Int) {args : List PV} {h : Heap} {K : PV → Heap → Prop} (h1 : ∀ n, lo ≤ n → n ≤ a → PCall P f (.sc (.int k n) :: args) h K) (h2 : ∀ n, a < n → n ≤ hi → PCall P f (.sc (.int k n) :: args) h K) : PCall P f (.ab k lo hi 1 0 :: args) h K := by
  intro β w vals sm hr
  match vals, hr with
  | [], hr => simp only [RepL] at hr
  | x :: xs, hr =>
    simp only [RepL, Rep] at hr
    obtain ⟨⟨n, l1, l2, _, rfl⟩, hr⟩ := hr
    by_cases hn : n ≤ a
    · exact h1 n l1 hn β w _ sm (by simp only [RepL, Rep]; exact ⟨trivial, hr⟩)
    · exact h2 n (by omega) l2 β w _ sm (by simp only [RepL, Rep]; exact ⟨trivial, hr⟩)
end
end Go.AM
