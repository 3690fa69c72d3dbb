/-
  NARROWER THAN 'FOR EVERY INPUT', by the rows' own cells (each row's printed sentence says how): ProblemWrites: loops · ProblemParses: loops · ProblemReturns: loops · ProblemParts: loops.
  DERIVED. THE GIVEN ROWS OF THIS SEAT. 4 by the template 'for every input the law returns true; each argument reads behind the call as it read before'; 0 by the template 'total and deterministic' (their statements: YtjeolbgpllbemaaGreatTotals.lean).
  GIVEN WITH THE SEED: the statements are not yours to turn. If you find one false, say at which input.
  Laid BY PROGRAM, IN A SANDBOX (cutbox-rows.mjs): the forced cells as the released guide's own fill.sh prints them over the translation b2eaa760b9cdac03… (all of the seat's roots in one cut). By AI agents, Wed Nov 11 2026. No macro, syntax, notation, axiom, sorry.
-/
import Derived.Test.YtjeolbgpllbemaaGreatChecked
import GoSem.Claim
import GoSem.ClaimJoined
import GoSem.ClaimMapViews
import Derived.JoinedTies
import Derived.KernelRfl
namespace Go.Proofs.YtjeolbgpllbemaaGreat
/- THE CELL 'sum', in the pinned program and in every row, IS THE sha256 OF THE DUMP (.gsa) THAT YtjeolbgpllbemaaGreatProg.lean LOADS. Nothing in Lean hashes anything: it is a label: what it is worth is what the hold of that sum in a sandbox is worth. -/
noncomputable def Tryz.pinned : Pinned := { name := "ytjeolbgpllbemaagreat", sum := "b2eaa760b9cdac0378e936a2927e1d21a2aa84baf176e7cfa66e3432d0515ecf", checked := Tryz.checked }
namespace Rows
def none {H : Type} : Left H := { results := [], args := [] }

/-- 'stratagemlaw10.ProblemWrites': WHATEVER THE INPUT: true; the input reads as it did. -/
def problemWritesSpec : ChangeSpec := { name := "problemWrites", fn := fun _ => fun
  | [d] => { results := [.lit (.bool true)], args := [d] }
  | _ => none }
def problemWritesRow : OpenClaim := { program := "ytjeolbgpllbemaagreat", sum := "b2eaa760b9cdac0378e936a2927e1d21a2aa84baf176e7cfa66e3432d0515ecf", func := "stratagem/stratagemlaw10.ProblemWrites", spec := "problemWrites", inPlace := ["internal/bytealg.IndexByteString"], unfollowed := true, recurses := true, loops := true, apart := false }
def ProblemWritesSaid : Prop := problemWritesRow.holds Tryz.pinned (OpenSpec.ofChange problemWritesSpec)

/-- ITS FALSE NEIGHBOUR: 'it returns false'. Refute it at one input. -/
def problemWritesWrong : ChangeSpec := { name := "problemWrites", fn := fun _ => fun
  | [d] => { results := [.lit (.bool false)], args := [d] }
  | _ => none }
def ProblemWritesWrongFalsely : Prop := problemWritesRow.holds Tryz.pinned (OpenSpec.ofChange problemWritesWrong)

/-- 'stratagemlaw10.ProblemParses': WHATEVER THE INPUT: true; the input reads as it did. -/
def problemParsesSpec : ChangeSpec := { name := "problemParses", fn := fun _ => fun
  | [d] => { results := [.lit (.bool true)], args := [d] }
  | _ => none }
def problemParsesRow : OpenClaim := { program := "ytjeolbgpllbemaagreat", sum := "b2eaa760b9cdac0378e936a2927e1d21a2aa84baf176e7cfa66e3432d0515ecf", func := "stratagem/stratagemlaw10.ProblemParses", spec := "problemParses", inPlace := ["internal/bytealg.IndexByteString"], unfollowed := true, recurses := true, loops := true, apart := false }
def ProblemParsesSaid : Prop := problemParsesRow.holds Tryz.pinned (OpenSpec.ofChange problemParsesSpec)

/-- ITS FALSE NEIGHBOUR: 'it returns false'. Refute it at one input. -/
def problemParsesWrong : ChangeSpec := { name := "problemParses", fn := fun _ => fun
  | [d] => { results := [.lit (.bool false)], args := [d] }
  | _ => none }
def ProblemParsesWrongFalsely : Prop := problemParsesRow.holds Tryz.pinned (OpenSpec.ofChange problemParsesWrong)

/-- 'stratagemlaw10.ProblemReturns': WHATEVER THE INPUT: true; the input reads as it did. -/
def problemReturnsSpec : ChangeSpec := { name := "problemReturns", fn := fun _ => fun
  | [d] => { results := [.lit (.bool true)], args := [d] }
  | _ => none }
def problemReturnsRow : OpenClaim := { program := "ytjeolbgpllbemaagreat", sum := "b2eaa760b9cdac0378e936a2927e1d21a2aa84baf176e7cfa66e3432d0515ecf", func := "stratagem/stratagemlaw10.ProblemReturns", spec := "problemReturns", inPlace := ["internal/bytealg.IndexByteString"], unfollowed := true, recurses := true, loops := true, apart := false }
def ProblemReturnsSaid : Prop := problemReturnsRow.holds Tryz.pinned (OpenSpec.ofChange problemReturnsSpec)

/-- ITS FALSE NEIGHBOUR: 'it returns false'. Refute it at one input. -/
def problemReturnsWrong : ChangeSpec := { name := "problemReturns", fn := fun _ => fun
  | [d] => { results := [.lit (.bool false)], args := [d] }
  | _ => none }
def ProblemReturnsWrongFalsely : Prop := problemReturnsRow.holds Tryz.pinned (OpenSpec.ofChange problemReturnsWrong)

/-- 'stratagemlaw10.ProblemParts': WHATEVER THE INPUT: true; the input reads as it did. -/
def problemPartsSpec : ChangeSpec := { name := "problemParts", fn := fun _ => fun
  | [d1, d2] => { results := [.lit (.bool true)], args := [d1, d2] }
  | _ => none }
def problemPartsRow : OpenClaim := { program := "ytjeolbgpllbemaagreat", sum := "b2eaa760b9cdac0378e936a2927e1d21a2aa84baf176e7cfa66e3432d0515ecf", func := "stratagem/stratagemlaw10.ProblemParts", spec := "problemParts", inPlace := ["internal/bytealg.IndexByteString"], unfollowed := true, recurses := true, loops := true, apart := false }
def ProblemPartsSaid : Prop := problemPartsRow.holds Tryz.pinned (OpenSpec.ofChange problemPartsSpec)

/-- ITS FALSE NEIGHBOUR: 'it returns false'. Refute it at one input. -/
def problemPartsWrong : ChangeSpec := { name := "problemParts", fn := fun _ => fun
  | [d1, d2] => { results := [.lit (.bool false)], args := [d1, d2] }
  | _ => none }
def ProblemPartsWrongFalsely : Prop := problemPartsRow.holds Tryz.pinned (OpenSpec.ofChange problemPartsWrong)

/- THE SECOND FORM. 'bulk': how many values and letters a reading holds, each counted each time it is reached (what is shared counts as often as it is met; a slice's spare places count too). A statement '..UptoSaid' is the law's where the arguments, and the package variables that the reading takes, are together of bulk at most 1048576: NARROWER than '..Said'. Prove '..Said' where nothing that the law and all that it calls make is longer than what came in: it says more and counts as full. Else prove '..UptoSaid'. A law counts once. -/
mutual
def uptoBulk {H : Type} : DataW H → Nat
  | .lit (.string bytes) => bytes.length + 1
  | .lit _ => 1
  | .nil => 1
  | .ptr d => uptoBulk d + 1
  | .slice elems spare => uptoBulkAll elems + uptoBulkAll spare + 1
  | .agg parts => uptoBulkAll parts + 1
  | .iface _ d => uptoBulk d + 1
  | .map entries => uptoBulkEntries entries + 1
  | .held _ => 1
def uptoBulkAll {H : Type} : List (DataW H) → Nat
  | [] => 0
  | d :: r => uptoBulk d + uptoBulkAll r
def uptoBulkEntries {H : Type} : List (Lit × DataW H) → Nat
  | [] => 0
  | x :: r => uptoBulkEntry x + uptoBulkEntries r
def uptoBulkEntry {H : Type} : Lit × DataW H → Nat
  | (.string bytes, d) => bytes.length + uptoBulk d + 1
  | (_, d) => uptoBulk d + 1
 end
def uptoSmall : (H : Type) → List (DataW H) → Bool := fun _ ds => decide (uptoBulkAll ds ≤ 1048576)
def OpenSpec.upto (s : _root_.Go.ChangeSpec) : _root_.Go.OpenSpec := { _root_.Go.OpenSpec.ofChange s with cond := some uptoSmall }

/-- 'stratagemlaw10.ProblemWrites', WHERE WHAT IT READS IS OF BULK AT MOST 1048576: true; the input reads as it did. -/
def problemWritesUptoRow : OpenClaim := { program := "ytjeolbgpllbemaagreat", sum := "b2eaa760b9cdac0378e936a2927e1d21a2aa84baf176e7cfa66e3432d0515ecf", func := "stratagem/stratagemlaw10.ProblemWrites", spec := "problemWrites", inPlace := ["internal/bytealg.IndexByteString"], unfollowed := true, recurses := true, loops := true, apart := false, narrowed := true }
def ProblemWritesUptoSaid : Prop := problemWritesUptoRow.holds Tryz.pinned (OpenSpec.upto problemWritesSpec)

/-- 'stratagemlaw10.ProblemParses', WHERE WHAT IT READS IS OF BULK AT MOST 1048576: true; the input reads as it did. -/
def problemParsesUptoRow : OpenClaim := { program := "ytjeolbgpllbemaagreat", sum := "b2eaa760b9cdac0378e936a2927e1d21a2aa84baf176e7cfa66e3432d0515ecf", func := "stratagem/stratagemlaw10.ProblemParses", spec := "problemParses", inPlace := ["internal/bytealg.IndexByteString"], unfollowed := true, recurses := true, loops := true, apart := false, narrowed := true }
def ProblemParsesUptoSaid : Prop := problemParsesUptoRow.holds Tryz.pinned (OpenSpec.upto problemParsesSpec)

/-- 'stratagemlaw10.ProblemReturns', WHERE WHAT IT READS IS OF BULK AT MOST 1048576: true; the input reads as it did. -/
def problemReturnsUptoRow : OpenClaim := { program := "ytjeolbgpllbemaagreat", sum := "b2eaa760b9cdac0378e936a2927e1d21a2aa84baf176e7cfa66e3432d0515ecf", func := "stratagem/stratagemlaw10.ProblemReturns", spec := "problemReturns", inPlace := ["internal/bytealg.IndexByteString"], unfollowed := true, recurses := true, loops := true, apart := false, narrowed := true }
def ProblemReturnsUptoSaid : Prop := problemReturnsUptoRow.holds Tryz.pinned (OpenSpec.upto problemReturnsSpec)

/-- 'stratagemlaw10.ProblemParts', WHERE WHAT IT READS IS OF BULK AT MOST 1048576: true; the input reads as it did. -/
def problemPartsUptoRow : OpenClaim := { program := "ytjeolbgpllbemaagreat", sum := "b2eaa760b9cdac0378e936a2927e1d21a2aa84baf176e7cfa66e3432d0515ecf", func := "stratagem/stratagemlaw10.ProblemParts", spec := "problemParts", inPlace := ["internal/bytealg.IndexByteString"], unfollowed := true, recurses := true, loops := true, apart := false, narrowed := true }
def ProblemPartsUptoSaid : Prop := problemPartsUptoRow.holds Tryz.pinned (OpenSpec.upto problemPartsSpec)

end Rows
end Go.Proofs.YtjeolbgpllbemaaGreat
