/- The runs: their lists, and types.word whatever MaxLen is. -/
import Derived.Test.YtdnpmfjfgamaeaaGreatCkExt
set_option linter.unusedVariables false
set_option linter.unusedSimpArgs false
set_option linter.unusedSectionVars false
namespace Go.Proofs.YtdnpmfjfgamaeaaGreat
open Go.AM
set_option maxHeartbeats 2000000
set_option maxRecDepth 20000
def ckOwn (f t : Nat) : Bool := ([(43,18),(43,27),(43,51),(43,72),(44,40),(44,49),(44,67),(70,9),(59,15),(62,11),(63,11),(113,13),(171,13),(153,10),(115,5),(194,5),(40,7),(28,39),(11,44),(11,46),(11,54),(11,53),(17,25),(17,8),(17,20),(17,22)] : List (Nat × Nat)).contains (f, t)
def ckKeep (f : Nat) : Bool := ([11,17,71] : List Nat).contains f
def ckWf (f : Nat) : Bool := ([11,17,71,58,60,112,149,171,62,63,113,59,109,114,181,152,177,90,47] : List Nat).contains f
/-- what is to be computed of a call that leaves the heap -/
def xquiet (r : Option (PV × Option Nat × Heap)) (v : PV) : Bool := match r with
  | some (u, q, _) => q.isNone && pvEq u v
  | none => false
theorem run_quiet {ext : FuncId → List PV → Heap → Option PV} (hext : ExtOk2 Tryz.prog ext) {own : Nat → Nat → Bool} {keep : Nat → Bool} {m k : Nat} {f : FuncId} {args : List PV} {h : Heap} {v : PV} (hx : xquiet (xf2 Tryz.prog ckWf own ext keep m k f args h) v = true) : PCall Tryz.prog f args h fun r h' => r = v ∧ h' = h := by
  unfold xquiet at hx
  split at hx
  · rename_i u q h' hr
    simp only [Bool.and_eq_true, Option.isNone_iff_eq_none] at hx
    obtain ⟨rfl, hx⟩ := hx
    obtain ⟨h1, h2⟩ := xf_ok2 Ty.mixed hext k _ _ _ _ _ _ hr
    simp only [Tch] at h2
    refine h1.mono (fun r h'' hr => ?_)
    exact ⟨by rw [hr.1, pvEq_eq _ _ hx], by rw [hr.2, h2]⟩
  · simp at hx
abbrev minI : Int := -9223372036854775808
abbrev maxI : Int := 9223372036854775807
/-- a call that was run on the heap of the package variable alone -/
theorem part_glb {f : FuncId} {args : List PV} {h : Heap} {u : Value} {lo hi : Int} (hob : h.obj 0 = some (.glb 0 lo hi)) (hn : inNL 1 args) (hc : PCall Tryz.prog f args (heapG 0 lo hi) fun r h' => r = .sc u ∧ h' = heapG 0 lo hi) : PCall Tryz.prog f args h fun r h' => r = .sc u ∧ h' = h := by
  refine PCall.ofSim fun ⟨β, w, sm⟩ => ?_
  refine PCall.part hc (sm.lt 0 (by rw [hob]; rfl)) (fun id o ho => ?_) hn
  simp only [heapG] at ho
  split at ho
  · rename_i he
    subst he
    simp at ho; subst ho
    exact ⟨hob, by simp [heapG], by simp only [inNO]⟩
  · simp at ho
theorem split_glb {f : FuncId} {args : List PV} {u : Value} (a : Int) (h1 : minI ≤ a + 1) (h2 : a ≤ maxI) (hn : inNL 1 args) (c1 : PCall Tryz.prog f args (heapG 0 minI a) fun r h' => r = .sc u ∧ h' = heapG 0 minI a) (c2 : PCall Tryz.prog f args (heapG 0 (a + 1) maxI) fun r h' => r = .sc u ∧ h' = heapG 0 (a + 1) maxI) {h : Heap} (hob : h.obj 0 = some (.glb 0 minI maxI)) :
    PCall Tryz.prog f args h fun r h' => r = .sc u ∧ h' = h :=
  PCall.splitG a hob h1 h2 (part_glb (by simp [Heap.set]) hn c1) (part_glb (by simp [Heap.set]) hn c2)
def truckS : ByteArray := ⟨#[116, 114, 117, 99, 107]⟩
def placeS : ByteArray := ⟨#[112, 108, 97, 99, 101]⟩
def vehicleS : ByteArray := ⟨#[118, 101, 104, 105, 99, 108, 101]⟩
theorem word_truck {h : Heap} (hob : h.obj 0 = some (.glb 0 minI maxI)) : PCall Tryz.prog 50 [.sc (.string truckS)] h fun r h' => r = .sc (.bool false) ∧ h' = h :=
  split_glb 6 (by decide) (by decide) (by simp only [inNL, inN, and_self]) (run_quiet ckExt_ok (own := ckOwn) (keep := ckKeep) (m := 2000) (k := 20) (by kernel_rfl)) (run_quiet ckExt_ok (own := ckOwn) (keep := ckKeep) (m := 2000) (k := 20) (by kernel_rfl)) hob
theorem word_place {h : Heap} (hob : h.obj 0 = some (.glb 0 minI maxI)) : PCall Tryz.prog 50 [.sc (.string placeS)] h fun r h' => r = .sc (.bool false) ∧ h' = h :=
  split_glb 6 (by decide) (by decide) (by simp only [inNL, inN, and_self]) (run_quiet ckExt_ok (own := ckOwn) (keep := ckKeep) (m := 2000) (k := 20) (by kernel_rfl)) (run_quiet ckExt_ok (own := ckOwn) (keep := ckKeep) (m := 2000) (k := 20) (by kernel_rfl)) hob
theorem word_vehicle {h : Heap} (hob : h.obj 0 = some (.glb 0 minI maxI)) : PCall Tryz.prog 50 [.sc (.string vehicleS)] h fun r h' => r = .sc (.bool false) ∧ h' = h :=
  split_glb 8 (by decide) (by decide) (by simp only [inNL, inN, and_self]) (run_quiet ckExt_ok (own := ckOwn) (keep := ckKeep) (m := 2000) (k := 20) (by kernel_rfl)) (run_quiet ckExt_ok (own := ckOwn) (keep := ckKeep) (m := 2000) (k := 20) (by kernel_rfl)) hob
end Go.Proofs.YtdnpmfjfgamaeaaGreat
