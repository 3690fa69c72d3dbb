/- strings.Contains, by the library's contract: whatever internal/bytealg.MaxLen holds. -/
import Derived.Shelf.Strings.Search3
import Derived.Test.YtdnpmfjfgamaeaaGreatCkTimed0
set_option linter.unusedVariables false
set_option linter.unusedSimpArgs false
set_option linter.unusedSectionVars false
namespace Go.Proofs.YtdnpmfjfgamaeaaGreat
open Go.AM Go.Shelf
set_option maxHeartbeats 2000000
set_option maxRecDepth 20000
/-- the numbers that this program has for the library's names -/
def renC : Ren := ⟨fun x => match x with | 144 => 94 | 143 => 136 | 219 => 169 | 217 => 189 | 225 => 190 | 224 => 191 | 267 => 192 | 266 => 200 | 314 => 201 | n => n, fun x => match x with | 9 => 9 | 4 => 4 | 3 => 3 | 5 => 5 | 46 => 128 | 146 => 250 | 51 => 171 | n => n, fun x => match x with | 1 => 0 | n => n⟩
theorem lays144 : Lays.n144 Tryz.prog renC where
  mixed := by kernel_rfl
  f143 := Tryz.func136.trans (congrArg some (by kernel_rfl))
  f144 := Tryz.func94.trans (congrArg some (by kernel_rfl))
  f217 := Tryz.func189.trans (congrArg some (by kernel_rfl))
  f219 := Tryz.func169.trans (congrArg some (by kernel_rfl))
  f224 := Tryz.func191.trans (congrArg some (by kernel_rfl))
  f225 := Tryz.func190.trans (congrArg some (by kernel_rfl))
  f266 := Tryz.func200.trans (congrArg some (by kernel_rfl))
  f267 := Tryz.func192.trans (congrArg some (by kernel_rfl))
  f314 := Tryz.func201.trans (congrArg some (by kernel_rfl))
  t3 := Tryz.underlying3
  a3 := Tryz.isAgg3
  z3 := Tryz.sizeOf3
  v3 := Tryz.zeroValue3
  t4 := Tryz.underlying4
  a4 := Tryz.isAgg4
  z4 := Tryz.sizeOf4
  v4 := Tryz.zeroValue4
  t5 := Tryz.underlying5
  a5 := Tryz.isAgg5
  z5 := Tryz.sizeOf5
  v5 := Tryz.zeroValue5
  t9 := Tryz.underlying9
  a9 := Tryz.isAgg9
  z9 := Tryz.sizeOf9
  v9 := Tryz.zeroValue9
  t46 := Tryz.underlying128
  a46 := Tryz.isAgg128
  z46 := Tryz.sizeOf128
  v46 := Tryz.zeroValue128
  t51 := Tryz.underlying171
  a51 := Tryz.isAgg171
  z51 := Tryz.sizeOf171
  v51 := Tryz.zeroValue171
  t146 := Tryz.underlying250
  a146 := Tryz.isAgg250
  z146 := Tryz.sizeOf250
  v146 := Tryz.zeroValue250
  g1 := by kernel_rfl
/-- does the list hold the other one? -/
def subB : List UInt8 → List UInt8 → Bool
  | [], t => t.isEmpty
  | b :: l, t => t.isPrefixOf (b :: l) || subB l t
theorem subB_eq (t : List UInt8) : (s : List UInt8) → subB s t = Lib.contains s t
  | [] => by
    unfold subB Lib.contains Lib.index
    cases t <;> simp
  | b :: l => by
    have ih := subB_eq t l
    have ge := Lib.index_ge l t
    unfold subB
    rw [ih]
    unfold Lib.contains
    conv => rhs; unfold Lib.index
    split
    · rename_i h; simp [h]
    · rename_i h
      split
      · rename_i h2
        simp only [beq_iff_eq] at h2
        simp [h2, h]
      · rename_i h2
        simp only [beq_iff_eq] at h2
        have e1 : decide (0 ≤ Lib.index l t) = true := by simp; omega
        have e2 : decide (0 ≤ Lib.index l t + 1) = true := by simp; omega
        rw [e1, e2]; simp
theorem strContains_c {s t : ByteArray} {h : Heap} {lo hi : Int} (hs : s.size < 4294967281) (hob : h.obj 0 = some (.glb 0 lo hi)) : PCall Tryz.prog 94 [.sc (.string s), .sc (.string t)] h fun r h' => r = .sc (.bool (subB s.data.toList t.data.toList)) ∧ h' = h := by
  intro β w vals sm hr
  have hv : vals = [.string s, .string t] := by
    match vals, hr with
    | [x, y], hr => simp only [RepL, Rep] at hr; rw [hr.1, hr.2.1]
  subst hv
  have ob := sm.ok 0 _ hob
  simp only [ObjOk] at ob
  obtain ⟨_, _, i, _, _, hg⟩ := ob
  refine Or.inl ⟨by kernel_rfl, (Any.strings_Contains lays144 s t i w hs hg).mono ?_⟩
  rintro e w' ⟨rfl, rfl⟩
  exact ⟨_, h, β, _, rfl, ⟨rfl, rfl⟩, sm, by simp only [RepH, Rep]; rw [subB_eq], Ext.refl⟩
/-- with strings.Contains -/
def ckExt5 (f : FuncId) (args : List PV) (h : Heap) : Option PV :=
  if f = 94 then (match args with
    | [.sc (.string s), .sc (.string t)] => if s.size < 4294967281 then (match h.obj 0 with
      | some (.glb 0 _ _) => some (.sc (.bool (subB s.data.toList t.data.toList)))
      | _ => none) else none
    | _ => none)
  else ckExt4 f args h
theorem ckExt5_ok : ExtOk2 Tryz.prog ckExt5 := by
  intro f args r h hx
  unfold ckExt5 at hx
  split at hx
  · rename_i hf
    subst hf
    split at hx
    · rename_i s t
      split at hx
      · rename_i hs
        split at hx
        · rename_i hob
          simp only [Option.some.injEq] at hx
          subst hx
          exact strContains_c hs hob
        · simp at hx
      · simp at hx
    · simp at hx
  · exact ckExt4_ok _ _ _ _ hx
end Go.Proofs.YtdnpmfjfgamaeaaGreat
