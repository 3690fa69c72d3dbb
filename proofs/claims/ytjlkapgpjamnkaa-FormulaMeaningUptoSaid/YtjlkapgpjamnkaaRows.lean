/-
  NARROWER THAN 'FOR EVERY INPUT', by the rows' own cells (each row's printed sentence says how): FormulaNormal: loops · FormulaMeaning: loops · FormulaWrites: loops · FormulaParses: loops · FormulaExprs: loops · FormulaBinds: loops · FormulaSame: loops · FormulaReturns: loops · FormulaBound: loops · FormulaShape: loops.
  DERIVED. THE GIVEN ROWS OF THIS SEAT. 11 by the template 'for every input the law returns true; each argument reads behind the call as it read before'; 0 by the template 'total and deterministic' (their statements: YtjlkapgpjamnkaaTotals.lean).
  GIVEN WITH THE SEED: the statements are not yours to turn. If you find one false, say at which input.
  Laid BY PROGRAM, IN A SANDBOX (cutbox-rows.mjs): the forced cells as the released guide's own fill.sh prints them over the translation bc1a5937e4b28912… (all of the seat's roots in one cut). By AI agents, Wed Nov 11 2026. No macro, syntax, notation, axiom, sorry.
-/
import Derived.Test.YtjlkapgpjamnkaaChecked
import GoSem.Claim
import GoSem.ClaimJoined
import GoSem.ClaimMapViews
import Derived.JoinedTies
import Derived.KernelRfl
namespace Go.Proofs.Ytjlkapgpjamnkaa
/- THE CELL 'sum', in the pinned program and in every row, IS THE sha256 OF THE DUMP (.gsa) THAT YtjlkapgpjamnkaaProg.lean LOADS. Nothing in Lean hashes anything: it is a label: what it is worth is what the hold of that sum in a sandbox is worth. -/
noncomputable def Try.pinned : Pinned := { name := "ytjlkapgpjamnkaa", sum := "bc1a5937e4b28912dad00dbd315a017e37598e936a5557c9a903b1b62d33b3a1", checked := Try.checked }
namespace Rows
def none {H : Type} : Left H := { results := [], args := [] }

/-- 'stratagemlaw08.FormulaNames': WHATEVER THE INPUT: true; the input reads as it did. -/
def formulaNamesSpec : ChangeSpec := { name := "formulaNames", fn := fun _ => fun
  | [d] => { results := [.lit (.bool true)], args := [d] }
  | _ => none }
def formulaNamesRow : OpenClaim := { program := "ytjlkapgpjamnkaa", sum := "bc1a5937e4b28912dad00dbd315a017e37598e936a5557c9a903b1b62d33b3a1", func := "stratagem/stratagemlaw08.FormulaNames", spec := "formulaNames", inPlace := ["internal/bytealg.IndexByteString"], unfollowed := true, recurses := true, apart := false }
def FormulaNamesSaid : Prop := formulaNamesRow.holds Try.pinned (OpenSpec.ofChange formulaNamesSpec)

/-- ITS FALSE NEIGHBOUR: 'it returns false'. Refute it at one input. -/
def formulaNamesWrong : ChangeSpec := { name := "formulaNames", fn := fun _ => fun
  | [d] => { results := [.lit (.bool false)], args := [d] }
  | _ => none }
def FormulaNamesWrongFalsely : Prop := formulaNamesRow.holds Try.pinned (OpenSpec.ofChange formulaNamesWrong)

/-- 'stratagemlaw08.FormulaNormal': WHATEVER THE INPUT: true; the input reads as it did. -/
def formulaNormalSpec : ChangeSpec := { name := "formulaNormal", fn := fun _ => fun
  | [d] => { results := [.lit (.bool true)], args := [d] }
  | _ => none }
def formulaNormalRow : OpenClaim := { program := "ytjlkapgpjamnkaa", sum := "bc1a5937e4b28912dad00dbd315a017e37598e936a5557c9a903b1b62d33b3a1", func := "stratagem/stratagemlaw08.FormulaNormal", spec := "formulaNormal", inPlace := ["internal/bytealg.IndexByteString"], unfollowed := true, recurses := true, loops := true, apart := false }
def FormulaNormalSaid : Prop := formulaNormalRow.holds Try.pinned (OpenSpec.ofChange formulaNormalSpec)

/-- ITS FALSE NEIGHBOUR: 'it returns false'. Refute it at one input. -/
def formulaNormalWrong : ChangeSpec := { name := "formulaNormal", fn := fun _ => fun
  | [d] => { results := [.lit (.bool false)], args := [d] }
  | _ => none }
def FormulaNormalWrongFalsely : Prop := formulaNormalRow.holds Try.pinned (OpenSpec.ofChange formulaNormalWrong)

/-- 'stratagemlaw08.FormulaMeaning': WHATEVER THE INPUT: true; the input reads as it did. -/
def formulaMeaningSpec : ChangeSpec := { name := "formulaMeaning", fn := fun _ => fun
  | [d1, d2] => { results := [.lit (.bool true)], args := [d1, d2] }
  | _ => none }
def formulaMeaningRow : OpenClaim := { program := "ytjlkapgpjamnkaa", sum := "bc1a5937e4b28912dad00dbd315a017e37598e936a5557c9a903b1b62d33b3a1", func := "stratagem/stratagemlaw08.FormulaMeaning", spec := "formulaMeaning", inPlace := ["internal/bytealg.IndexByteString"], unfollowed := true, recurses := true, loops := true, apart := false }
def FormulaMeaningSaid : Prop := formulaMeaningRow.holds Try.pinned (OpenSpec.ofChange formulaMeaningSpec)

/-- ITS FALSE NEIGHBOUR: 'it returns false'. Refute it at one input. -/
def formulaMeaningWrong : ChangeSpec := { name := "formulaMeaning", fn := fun _ => fun
  | [d1, d2] => { results := [.lit (.bool false)], args := [d1, d2] }
  | _ => none }
def FormulaMeaningWrongFalsely : Prop := formulaMeaningRow.holds Try.pinned (OpenSpec.ofChange formulaMeaningWrong)

/-- 'stratagemlaw08.FormulaWrites': WHATEVER THE INPUT: true; the input reads as it did. -/
def formulaWritesSpec : ChangeSpec := { name := "formulaWrites", fn := fun _ => fun
  | [d] => { results := [.lit (.bool true)], args := [d] }
  | _ => none }
def formulaWritesRow : OpenClaim := { program := "ytjlkapgpjamnkaa", sum := "bc1a5937e4b28912dad00dbd315a017e37598e936a5557c9a903b1b62d33b3a1", func := "stratagem/stratagemlaw08.FormulaWrites", spec := "formulaWrites", inPlace := ["internal/bytealg.IndexByteString"], unfollowed := true, recurses := true, loops := true, apart := false }
def FormulaWritesSaid : Prop := formulaWritesRow.holds Try.pinned (OpenSpec.ofChange formulaWritesSpec)

/-- ITS FALSE NEIGHBOUR: 'it returns false'. Refute it at one input. -/
def formulaWritesWrong : ChangeSpec := { name := "formulaWrites", fn := fun _ => fun
  | [d] => { results := [.lit (.bool false)], args := [d] }
  | _ => none }
def FormulaWritesWrongFalsely : Prop := formulaWritesRow.holds Try.pinned (OpenSpec.ofChange formulaWritesWrong)

/-- 'stratagemlaw08.FormulaParses': WHATEVER THE INPUT: true; the input reads as it did. -/
def formulaParsesSpec : ChangeSpec := { name := "formulaParses", fn := fun _ => fun
  | [d] => { results := [.lit (.bool true)], args := [d] }
  | _ => none }
def formulaParsesRow : OpenClaim := { program := "ytjlkapgpjamnkaa", sum := "bc1a5937e4b28912dad00dbd315a017e37598e936a5557c9a903b1b62d33b3a1", func := "stratagem/stratagemlaw08.FormulaParses", spec := "formulaParses", inPlace := ["internal/bytealg.IndexByteString"], unfollowed := true, recurses := true, loops := true, apart := false }
def FormulaParsesSaid : Prop := formulaParsesRow.holds Try.pinned (OpenSpec.ofChange formulaParsesSpec)

/-- ITS FALSE NEIGHBOUR: 'it returns false'. Refute it at one input. -/
def formulaParsesWrong : ChangeSpec := { name := "formulaParses", fn := fun _ => fun
  | [d] => { results := [.lit (.bool false)], args := [d] }
  | _ => none }
def FormulaParsesWrongFalsely : Prop := formulaParsesRow.holds Try.pinned (OpenSpec.ofChange formulaParsesWrong)

/-- 'stratagemlaw08.FormulaExprs': WHATEVER THE INPUT: true; the input reads as it did. -/
def formulaExprsSpec : ChangeSpec := { name := "formulaExprs", fn := fun _ => fun
  | [d] => { results := [.lit (.bool true)], args := [d] }
  | _ => none }
def formulaExprsRow : OpenClaim := { program := "ytjlkapgpjamnkaa", sum := "bc1a5937e4b28912dad00dbd315a017e37598e936a5557c9a903b1b62d33b3a1", func := "stratagem/stratagemlaw08.FormulaExprs", spec := "formulaExprs", inPlace := ["internal/bytealg.IndexByteString"], unfollowed := true, recurses := true, loops := true, apart := false }
def FormulaExprsSaid : Prop := formulaExprsRow.holds Try.pinned (OpenSpec.ofChange formulaExprsSpec)

/-- ITS FALSE NEIGHBOUR: 'it returns false'. Refute it at one input. -/
def formulaExprsWrong : ChangeSpec := { name := "formulaExprs", fn := fun _ => fun
  | [d] => { results := [.lit (.bool false)], args := [d] }
  | _ => none }
def FormulaExprsWrongFalsely : Prop := formulaExprsRow.holds Try.pinned (OpenSpec.ofChange formulaExprsWrong)

/-- 'stratagemlaw08.FormulaBinds': WHATEVER THE INPUT: true; the input reads as it did. -/
def formulaBindsSpec : ChangeSpec := { name := "formulaBinds", fn := fun _ => fun
  | [d1, d2, d3] => { results := [.lit (.bool true)], args := [d1, d2, d3] }
  | _ => none }
def formulaBindsRow : OpenClaim := { program := "ytjlkapgpjamnkaa", sum := "bc1a5937e4b28912dad00dbd315a017e37598e936a5557c9a903b1b62d33b3a1", func := "stratagem/stratagemlaw08.FormulaBinds", spec := "formulaBinds", inPlace := ["internal/bytealg.IndexByteString"], unfollowed := true, recurses := true, loops := true, apart := false }
def FormulaBindsSaid : Prop := formulaBindsRow.holds Try.pinned (OpenSpec.ofChange formulaBindsSpec)

/-- ITS FALSE NEIGHBOUR: 'it returns false'. Refute it at one input. -/
def formulaBindsWrong : ChangeSpec := { name := "formulaBinds", fn := fun _ => fun
  | [d1, d2, d3] => { results := [.lit (.bool false)], args := [d1, d2, d3] }
  | _ => none }
def FormulaBindsWrongFalsely : Prop := formulaBindsRow.holds Try.pinned (OpenSpec.ofChange formulaBindsWrong)

/-- 'stratagemlaw08.FormulaSame': WHATEVER THE INPUT: true; the input reads as it did. -/
def formulaSameSpec : ChangeSpec := { name := "formulaSame", fn := fun _ => fun
  | [d1, d2] => { results := [.lit (.bool true)], args := [d1, d2] }
  | _ => none }
def formulaSameRow : OpenClaim := { program := "ytjlkapgpjamnkaa", sum := "bc1a5937e4b28912dad00dbd315a017e37598e936a5557c9a903b1b62d33b3a1", func := "stratagem/stratagemlaw08.FormulaSame", spec := "formulaSame", inPlace := ["internal/bytealg.IndexByteString"], unfollowed := true, recurses := true, loops := true, apart := false }
def FormulaSameSaid : Prop := formulaSameRow.holds Try.pinned (OpenSpec.ofChange formulaSameSpec)

/-- ITS FALSE NEIGHBOUR: 'it returns false'. Refute it at one input. -/
def formulaSameWrong : ChangeSpec := { name := "formulaSame", fn := fun _ => fun
  | [d1, d2] => { results := [.lit (.bool false)], args := [d1, d2] }
  | _ => none }
def FormulaSameWrongFalsely : Prop := formulaSameRow.holds Try.pinned (OpenSpec.ofChange formulaSameWrong)

/-- 'stratagemlaw08.FormulaReturns': WHATEVER THE INPUT: true; the input reads as it did. -/
def formulaReturnsSpec : ChangeSpec := { name := "formulaReturns", fn := fun _ => fun
  | [d] => { results := [.lit (.bool true)], args := [d] }
  | _ => none }
def formulaReturnsRow : OpenClaim := { program := "ytjlkapgpjamnkaa", sum := "bc1a5937e4b28912dad00dbd315a017e37598e936a5557c9a903b1b62d33b3a1", func := "stratagem/stratagemlaw08.FormulaReturns", spec := "formulaReturns", inPlace := ["internal/bytealg.IndexByteString"], unfollowed := true, recurses := true, loops := true, apart := false }
def FormulaReturnsSaid : Prop := formulaReturnsRow.holds Try.pinned (OpenSpec.ofChange formulaReturnsSpec)

/-- ITS FALSE NEIGHBOUR: 'it returns false'. Refute it at one input. -/
def formulaReturnsWrong : ChangeSpec := { name := "formulaReturns", fn := fun _ => fun
  | [d] => { results := [.lit (.bool false)], args := [d] }
  | _ => none }
def FormulaReturnsWrongFalsely : Prop := formulaReturnsRow.holds Try.pinned (OpenSpec.ofChange formulaReturnsWrong)

/-- 'stratagemlaw08.FormulaBound': WHATEVER THE INPUT: true; the input reads as it did. -/
def formulaBoundSpec : ChangeSpec := { name := "formulaBound", fn := fun _ => fun
  | [d1, d2] => { results := [.lit (.bool true)], args := [d1, d2] }
  | _ => none }
def formulaBoundRow : OpenClaim := { program := "ytjlkapgpjamnkaa", sum := "bc1a5937e4b28912dad00dbd315a017e37598e936a5557c9a903b1b62d33b3a1", func := "stratagem/stratagemlaw08.FormulaBound", spec := "formulaBound", inPlace := ["internal/bytealg.IndexByteString"], unfollowed := true, recurses := true, loops := true, apart := false }
def FormulaBoundSaid : Prop := formulaBoundRow.holds Try.pinned (OpenSpec.ofChange formulaBoundSpec)

/-- ITS FALSE NEIGHBOUR: 'it returns false'. Refute it at one input. -/
def formulaBoundWrong : ChangeSpec := { name := "formulaBound", fn := fun _ => fun
  | [d1, d2] => { results := [.lit (.bool false)], args := [d1, d2] }
  | _ => none }
def FormulaBoundWrongFalsely : Prop := formulaBoundRow.holds Try.pinned (OpenSpec.ofChange formulaBoundWrong)

/-- 'stratagemlaw08.FormulaShape': WHATEVER THE INPUT: true; the input reads as it did. -/
def formulaShapeSpec : ChangeSpec := { name := "formulaShape", fn := fun _ => fun
  | [d] => { results := [.lit (.bool true)], args := [d] }
  | _ => none }
def formulaShapeRow : OpenClaim := { program := "ytjlkapgpjamnkaa", sum := "bc1a5937e4b28912dad00dbd315a017e37598e936a5557c9a903b1b62d33b3a1", func := "stratagem/stratagemlaw08.FormulaShape", spec := "formulaShape", inPlace := ["internal/bytealg.IndexByteString"], unfollowed := true, recurses := true, loops := true, apart := false }
def FormulaShapeSaid : Prop := formulaShapeRow.holds Try.pinned (OpenSpec.ofChange formulaShapeSpec)

/-- ITS FALSE NEIGHBOUR: 'it returns false'. Refute it at one input. -/
def formulaShapeWrong : ChangeSpec := { name := "formulaShape", fn := fun _ => fun
  | [d] => { results := [.lit (.bool false)], args := [d] }
  | _ => none }
def FormulaShapeWrongFalsely : Prop := formulaShapeRow.holds Try.pinned (OpenSpec.ofChange formulaShapeWrong)

/- THE SECOND FORM. 'bulk': how many values and letters a reading holds, each counted each time it is reached (what is shared counts as often as it is met; a slice's spare places count too). A statement '..UptoSaid' is the law's where the arguments, and the package variables that the reading takes, are together of bulk at most 1048576: NARROWER than '..Said'. Prove '..Said' where nothing that the law and all that it calls make is longer than what came in: it says more and counts as full. Else prove '..UptoSaid'. A law counts once. -/
mutual
def uptoBulk {H : Type} : DataW H → Nat
  | .lit (.string bytes) => bytes.length + 1
  | .lit _ => 1
  | .nil => 1
  | .ptr d => uptoBulk d + 1
  | .slice elems spare => uptoBulkAll elems + uptoBulkAll spare + 1
  | .agg parts => uptoBulkAll parts + 1
  | .iface _ d => uptoBulk d + 1
  | .map entries => uptoBulkEntries entries + 1
  | .held _ => 1
def uptoBulkAll {H : Type} : List (DataW H) → Nat
  | [] => 0
  | d :: r => uptoBulk d + uptoBulkAll r
def uptoBulkEntries {H : Type} : List (Lit × DataW H) → Nat
  | [] => 0
  | x :: r => uptoBulkEntry x + uptoBulkEntries r
def uptoBulkEntry {H : Type} : Lit × DataW H → Nat
  | (.string bytes, d) => bytes.length + uptoBulk d + 1
  | (_, d) => uptoBulk d + 1
 end
def uptoSmall : (H : Type) → List (DataW H) → Bool := fun _ ds => decide (uptoBulkAll ds ≤ 1048576)
def OpenSpec.upto (s : _root_.Go.ChangeSpec) : _root_.Go.OpenSpec := { _root_.Go.OpenSpec.ofChange s with cond := some uptoSmall }

/-- 'stratagemlaw08.FormulaNames', WHERE WHAT IT READS IS OF BULK AT MOST 1048576: true; the input reads as it did. -/
def formulaNamesUptoRow : OpenClaim := { program := "ytjlkapgpjamnkaa", sum := "bc1a5937e4b28912dad00dbd315a017e37598e936a5557c9a903b1b62d33b3a1", func := "stratagem/stratagemlaw08.FormulaNames", spec := "formulaNames", inPlace := ["internal/bytealg.IndexByteString"], unfollowed := true, recurses := true, apart := false, narrowed := true }
def FormulaNamesUptoSaid : Prop := formulaNamesUptoRow.holds Try.pinned (OpenSpec.upto formulaNamesSpec)

/-- 'stratagemlaw08.FormulaNormal', WHERE WHAT IT READS IS OF BULK AT MOST 1048576: true; the input reads as it did. -/
def formulaNormalUptoRow : OpenClaim := { program := "ytjlkapgpjamnkaa", sum := "bc1a5937e4b28912dad00dbd315a017e37598e936a5557c9a903b1b62d33b3a1", func := "stratagem/stratagemlaw08.FormulaNormal", spec := "formulaNormal", inPlace := ["internal/bytealg.IndexByteString"], unfollowed := true, recurses := true, loops := true, apart := false, narrowed := true }
def FormulaNormalUptoSaid : Prop := formulaNormalUptoRow.holds Try.pinned (OpenSpec.upto formulaNormalSpec)

/-- 'stratagemlaw08.FormulaMeaning', WHERE WHAT IT READS IS OF BULK AT MOST 1048576: true; the input reads as it did. -/
def formulaMeaningUptoRow : OpenClaim := { program := "ytjlkapgpjamnkaa", sum := "bc1a5937e4b28912dad00dbd315a017e37598e936a5557c9a903b1b62d33b3a1", func := "stratagem/stratagemlaw08.FormulaMeaning", spec := "formulaMeaning", inPlace := ["internal/bytealg.IndexByteString"], unfollowed := true, recurses := true, loops := true, apart := false, narrowed := true }
def FormulaMeaningUptoSaid : Prop := formulaMeaningUptoRow.holds Try.pinned (OpenSpec.upto formulaMeaningSpec)

/-- 'stratagemlaw08.FormulaWrites', WHERE WHAT IT READS IS OF BULK AT MOST 1048576: true; the input reads as it did. -/
def formulaWritesUptoRow : OpenClaim := { program := "ytjlkapgpjamnkaa", sum := "bc1a5937e4b28912dad00dbd315a017e37598e936a5557c9a903b1b62d33b3a1", func := "stratagem/stratagemlaw08.FormulaWrites", spec := "formulaWrites", inPlace := ["internal/bytealg.IndexByteString"], unfollowed := true, recurses := true, loops := true, apart := false, narrowed := true }
def FormulaWritesUptoSaid : Prop := formulaWritesUptoRow.holds Try.pinned (OpenSpec.upto formulaWritesSpec)

/-- 'stratagemlaw08.FormulaParses', WHERE WHAT IT READS IS OF BULK AT MOST 1048576: true; the input reads as it did. -/
def formulaParsesUptoRow : OpenClaim := { program := "ytjlkapgpjamnkaa", sum := "bc1a5937e4b28912dad00dbd315a017e37598e936a5557c9a903b1b62d33b3a1", func := "stratagem/stratagemlaw08.FormulaParses", spec := "formulaParses", inPlace := ["internal/bytealg.IndexByteString"], unfollowed := true, recurses := true, loops := true, apart := false, narrowed := true }
def FormulaParsesUptoSaid : Prop := formulaParsesUptoRow.holds Try.pinned (OpenSpec.upto formulaParsesSpec)

/-- 'stratagemlaw08.FormulaExprs', WHERE WHAT IT READS IS OF BULK AT MOST 1048576: true; the input reads as it did. -/
def formulaExprsUptoRow : OpenClaim := { program := "ytjlkapgpjamnkaa", sum := "bc1a5937e4b28912dad00dbd315a017e37598e936a5557c9a903b1b62d33b3a1", func := "stratagem/stratagemlaw08.FormulaExprs", spec := "formulaExprs", inPlace := ["internal/bytealg.IndexByteString"], unfollowed := true, recurses := true, loops := true, apart := false, narrowed := true }
def FormulaExprsUptoSaid : Prop := formulaExprsUptoRow.holds Try.pinned (OpenSpec.upto formulaExprsSpec)

/-- 'stratagemlaw08.FormulaBinds', WHERE WHAT IT READS IS OF BULK AT MOST 1048576: true; the input reads as it did. -/
def formulaBindsUptoRow : OpenClaim := { program := "ytjlkapgpjamnkaa", sum := "bc1a5937e4b28912dad00dbd315a017e37598e936a5557c9a903b1b62d33b3a1", func := "stratagem/stratagemlaw08.FormulaBinds", spec := "formulaBinds", inPlace := ["internal/bytealg.IndexByteString"], unfollowed := true, recurses := true, loops := true, apart := false, narrowed := true }
def FormulaBindsUptoSaid : Prop := formulaBindsUptoRow.holds Try.pinned (OpenSpec.upto formulaBindsSpec)

/-- 'stratagemlaw08.FormulaSame', WHERE WHAT IT READS IS OF BULK AT MOST 1048576: true; the input reads as it did. -/
def formulaSameUptoRow : OpenClaim := { program := "ytjlkapgpjamnkaa", sum := "bc1a5937e4b28912dad00dbd315a017e37598e936a5557c9a903b1b62d33b3a1", func := "stratagem/stratagemlaw08.FormulaSame", spec := "formulaSame", inPlace := ["internal/bytealg.IndexByteString"], unfollowed := true, recurses := true, loops := true, apart := false, narrowed := true }
def FormulaSameUptoSaid : Prop := formulaSameUptoRow.holds Try.pinned (OpenSpec.upto formulaSameSpec)

/-- 'stratagemlaw08.FormulaReturns', WHERE WHAT IT READS IS OF BULK AT MOST 1048576: true; the input reads as it did. -/
def formulaReturnsUptoRow : OpenClaim := { program := "ytjlkapgpjamnkaa", sum := "bc1a5937e4b28912dad00dbd315a017e37598e936a5557c9a903b1b62d33b3a1", func := "stratagem/stratagemlaw08.FormulaReturns", spec := "formulaReturns", inPlace := ["internal/bytealg.IndexByteString"], unfollowed := true, recurses := true, loops := true, apart := false, narrowed := true }
def FormulaReturnsUptoSaid : Prop := formulaReturnsUptoRow.holds Try.pinned (OpenSpec.upto formulaReturnsSpec)

/-- 'stratagemlaw08.FormulaBound', WHERE WHAT IT READS IS OF BULK AT MOST 1048576: true; the input reads as it did. -/
def formulaBoundUptoRow : OpenClaim := { program := "ytjlkapgpjamnkaa", sum := "bc1a5937e4b28912dad00dbd315a017e37598e936a5557c9a903b1b62d33b3a1", func := "stratagem/stratagemlaw08.FormulaBound", spec := "formulaBound", inPlace := ["internal/bytealg.IndexByteString"], unfollowed := true, recurses := true, loops := true, apart := false, narrowed := true }
def FormulaBoundUptoSaid : Prop := formulaBoundUptoRow.holds Try.pinned (OpenSpec.upto formulaBoundSpec)

/-- 'stratagemlaw08.FormulaShape', WHERE WHAT IT READS IS OF BULK AT MOST 1048576: true; the input reads as it did. -/
def formulaShapeUptoRow : OpenClaim := { program := "ytjlkapgpjamnkaa", sum := "bc1a5937e4b28912dad00dbd315a017e37598e936a5557c9a903b1b62d33b3a1", func := "stratagem/stratagemlaw08.FormulaShape", spec := "formulaShape", inPlace := ["internal/bytealg.IndexByteString"], unfollowed := true, recurses := true, loops := true, apart := false, narrowed := true }
def FormulaShapeUptoSaid : Prop := formulaShapeUptoRow.holds Try.pinned (OpenSpec.upto formulaShapeSpec)

end Rows
end Go.Proofs.Ytjlkapgpjamnkaa
