/- Notations as plain data: their cells, when they are valid. -/
import Derived.Test.YtdnpmfjfgamaeaaGreatFmName2
set_option linter.unusedVariables false
set_option linter.unusedSimpArgs false
set_option linter.unusedSectionVars false
namespace Go.AM
inductive Sx where
  | mk (kind value line col : Int) (text : ByteArray) (kids : List Sx)
mutual
def Sx.cells : Sx → List PV
  | .mk kind value line col text kids => [.sc (.int .i64 kind), .sc (.int .i64 value), .sc (.int .i64 line), .sc (.int .i64 col), sPV text, .imm 6 (Sx.rows kids)]
def Sx.rows : List Sx → List (List PV)
  | [] => []
  | k :: ks => k.cells :: Sx.rows ks
end
theorem Sx.rows_map : ∀ l : List Sx, Sx.rows l = l.map Sx.cells
  | [] => rfl
  | k :: ks => by simp [Sx.rows, Sx.rows_map ks]
theorem Sx.cells_len (e : Sx) : e.cells.length = 6 := by cases e; rfl
theorem Sx.rows_len (l : List Sx) : (Sx.rows l).length = l.length := by simp [Sx.rows_map]
theorem Sx.rows_get {l : List Sx} {i : Nat} {k : Sx} (h : l[i]? = some k) : (Sx.rows l)[i]? = some k.cells := by simp [Sx.rows_map, h]
theorem Sx.ind {C : Sx → Prop} (hC : ∀ kind value line col text kids, (∀ k ∈ kids, C k) → C (.mk kind value line col text kids)) : ∀ e, C e
  | .mk kind value line col text kids => hC kind value line col text kids fun k hk => Sx.ind hC k
termination_by e => SizeOf.sizeOf e
decreasing_by
  have := List.sizeOf_lt_of_mem hk
  simp only [Sx.mk.sizeOf_spec]
  omega
mutual
def Sx.ok : Sx → Prop
  | .mk kind value line col text kids => (-9223372036854775808 ≤ kind ∧ kind ≤ 9223372036854775807) ∧ (-9223372036854775808 ≤ value ∧ value ≤ 9223372036854775807) ∧ text.size ≤ bigN ∧ kids.length ≤ bigN ∧ Sx.oks kids
def Sx.oks : List Sx → Prop
  | [] => True
  | k :: ks => k.ok ∧ Sx.oks ks
end
theorem Sx.oks_iff : {l : List Sx} → (Sx.oks l ↔ ∀ k ∈ l, k.ok)
  | [] => by simp [Sx.oks]
  | k :: ks => by simp [Sx.oks, Sx.oks_iff (l := ks)]
end Go.AM
namespace Go.Proofs.YtdnpmfjfgamaeaaGreat
open Go.AM
/-! Words and numbers. -/
def digB (c : UInt8) : Bool := decide (48 ≤ c.toNat) && decide (c.toNat ≤ 57)
def signs : List UInt8 := [45, 95, 63, 58, 60, 62, 61, 43, 42]
/-- a byte of a word -/
def wB (c : UInt8) : Bool := letB c || digB c || signs.contains c
def upB (c : UInt8) : Bool := decide (65 ≤ c.toNat) && decide (c.toNat ≤ 90)
def lowB (c : UInt8) : Option UInt8 := if upB c then some (c + 32) else if wB c then some c else none
def lowL : List UInt8 → Option (List UInt8)
  | [] => some []
  | c :: l => match lowB c with
    | some d => (lowL l).map (d :: ·)
    | none => none
def lowS (s : ByteArray) : ByteArray × Bool := if 0 < s.size ∧ s.size ≤ 32 then (match lowL s.data.toList with | some l => (⟨l.toArray⟩, true) | none => (⟨#[]⟩, false)) else (⟨#[]⟩, false)
def trimB (s : ByteArray) : ByteArray := match s.data.toList with
  | 45 :: l => ⟨l.toArray⟩
  | _ => s
def numB (s : ByteArray) : Bool := (trimB s).data.toList.all digB && decide (0 < (trimB s).size)
/-- is a string the text of a word? -/
def wordB (s : ByteArray) : Bool := (lowS s).2 && bEq (lowS s).1 s && !(numB (lowS s).1)
mutual
/-- what sexpr.valid gives at depth d when n nodes have been counted -/
def svalid : Sx → Nat → Nat → Bool × Nat
  | .mk kind value _ _ text kids, d, n =>
    if n + 1 > 4096 then (false, n + 1)
    else if kind = 1 then (wordB text && decide (value = 0) && kids.isEmpty, n + 1)
    else if kind = 2 then (bEq text ⟨#[]⟩ && kids.isEmpty && decide (-1099511627776 ≤ value) && decide (value ≤ 1099511627776), n + 1)
    else if kind = 3 then (if bEq text ⟨#[]⟩ = true ∧ value = 0 ∧ d ≠ 32 then svalids kids (d + 1) (n + 1) else (false, n + 1))
    else (false, n + 1)
def svalids : List Sx → Nat → Nat → Bool × Nat
  | [], _, n => (true, n)
  | k :: ks, d, n => match svalid k d n with
    | (true, n') => svalids ks d n'
    | (false, n') => (false, n')
end
end Go.Proofs.YtdnpmfjfgamaeaaGreat
