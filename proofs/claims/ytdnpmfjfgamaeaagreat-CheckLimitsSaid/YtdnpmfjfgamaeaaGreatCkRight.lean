/- The right tasks are accepted. -/
import Derived.Test.YtdnpmfjfgamaeaaGreatCkWord
set_option linter.unusedVariables false
set_option linter.unusedSimpArgs false
set_option linter.unusedSectionVars false
namespace Go.Proofs.YtdnpmfjfgamaeaaGreat
open Go.AM
set_option maxHeartbeats 2000000
set_option maxRecDepth 20000
theorem bEq_of {a b : ByteArray} (h : bEq a b = true) : a = b := ba_ext (by simpa [bEq] using h)
def ck0Own (f t : Nat) : Bool := !(f == 11) && !(f == 17) && ckOwn f t
def ck0Keep (f : Nat) : Bool := f == 71
def ckExt2 (f : FuncId) (args : List PV) (h : Heap) : Option PV := match ckExt f args h with
  | some r => some r
  | none => if f = 50 then (match args with
    | [.sc (.string s)] => (match h.obj 0 with
      | some (.glb 0 lo hi) => if lo = minI ∧ hi = maxI ∧ (bEq s truckS || bEq s placeS || bEq s vehicleS) = true then some (.sc (.bool false)) else none
      | _ => none)
    | _ => none) else none
theorem ckExt2_ok : ExtOk2 Tryz.prog ckExt2 := by
  intro f args r h hx
  unfold ckExt2 at hx
  split at hx
  · rename_i r' hr
    simp only [Option.some.injEq] at hx
    subst hx
    exact ckExt_ok _ _ _ _ hr
  split at hx
  · rename_i hf
    split at hx
    · split at hx
      · rename_i hob
        split at hx
        · rename_i hc
          simp only [Option.some.injEq] at hx
          obtain ⟨rfl, rfl, hs⟩ := hc
          subst hx; subst hf
          simp only [Bool.or_eq_true] at hs
          rcases hs with (hs | hs) | hs
          · rw [bEq_of hs]; exact word_truck hob
          · rw [bEq_of hs]; exact word_place hob
          · rw [bEq_of hs]; exact word_vehicle hob
        · simp at hx
      · simp at hx
    · simp at hx
  · simp at hx
abbrev hG : Heap := heapG 0 minI maxI
def outV (r : Option (PV × Option Nat × Heap)) (i : Nat) : PV := match r with
  | some (.tup vs, _, _) => vs.getD i .emp
  | _ => .emp
noncomputable def smp (i : Nat) : PV := outV (xf2 Tryz.prog ckWf ck0Own ckExt2 ck0Keep 2000 40 11 [] hG) i
noncomputable def tmd (i : Nat) : PV := outV (xf2 Tryz.prog ckWf ck0Own ckExt2 ck0Keep 2000 40 17 [] hG) i
theorem right1_c : PCall Tryz.prog 16 [smp 0, smp 1] hG fun r h' => r = .sc (.bool true) ∧ h' = hG :=
  run_quiet ckExt2_ok (own := ck0Own) (keep := ck0Keep) (m := 2000) (k := 50) (by kernel_rfl)
theorem right2_c : PCall Tryz.prog 16 [tmd 0, tmd 1] hG fun r h' => r = .sc (.bool true) ∧ h' = hG :=
  run_quiet ckExt2_ok (own := ck0Own) (keep := ck0Keep) (m := 2000) (k := 50) (by kernel_rfl)
end Go.Proofs.YtdnpmfjfgamaeaaGreat
