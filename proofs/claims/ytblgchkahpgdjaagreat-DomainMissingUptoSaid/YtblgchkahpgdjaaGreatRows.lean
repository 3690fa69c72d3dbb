/-
  NARROWER THAN 'FOR EVERY INPUT', by the rows' own cells (each row's printed sentence says how): DomainWrites: loops · DomainChanges: loops · DomainParses: loops · DomainReturns: loops · DomainNested: loops · DomainSections: loops · DomainMissing: loops.
  DERIVED. THE GIVEN ROWS OF THIS SEAT. 7 by the template 'for every input the law returns true; each argument reads behind the call as it read before'; 0 by the template 'total and deterministic' (their statements: YtblgchkahpgdjaaGreatTotals.lean).
  GIVEN WITH THE SEED: the statements are not yours to turn. If you find one false, say at which input.
  Laid BY PROGRAM, IN A SANDBOX (cutbox-rows.mjs): the forced cells as the released guide's own fill.sh prints them over the translation cb781bbe305f2659… (all of the seat's roots in one cut). By AI agents, Wed Nov 11 2026. No macro, syntax, notation, axiom, sorry.
-/
import Derived.Test.YtblgchkahpgdjaaGreatChecked
import GoSem.Claim
import GoSem.ClaimJoined
import GoSem.ClaimMapViews
import Derived.JoinedTies
import Derived.KernelRfl
namespace Go.Proofs.YtblgchkahpgdjaaGreat
/- THE CELL 'sum', in the pinned program and in every row, IS THE sha256 OF THE DUMP (.gsa) THAT YtblgchkahpgdjaaGreatProg.lean LOADS. Nothing in Lean hashes anything: it is a label: what it is worth is what the hold of that sum in a sandbox is worth. -/
noncomputable def Tryz.pinned : Pinned := { name := "ytblgchkahpgdjaagreat", sum := "cb781bbe305f265905dd6cff223322698878c15c361eb1bc784ff82643a06803", checked := Tryz.checked }
namespace Rows
def none {H : Type} : Left H := { results := [], args := [] }

/-- 'stratagemlaw09.DomainWrites': WHATEVER THE INPUT: true; the input reads as it did. -/
def domainWritesSpec : ChangeSpec := { name := "domainWrites", fn := fun _ => fun
  | [d] => { results := [.lit (.bool true)], args := [d] }
  | _ => none }
def domainWritesRow : OpenClaim := { program := "ytblgchkahpgdjaagreat", sum := "cb781bbe305f265905dd6cff223322698878c15c361eb1bc784ff82643a06803", func := "stratagem/stratagemlaw09.DomainWrites", spec := "domainWrites", inPlace := ["internal/bytealg.IndexByteString"], unfollowed := true, recurses := true, loops := true, apart := false }
def DomainWritesSaid : Prop := domainWritesRow.holds Tryz.pinned (OpenSpec.ofChange domainWritesSpec)

/-- ITS FALSE NEIGHBOUR: 'it returns false'. Refute it at one input. -/
def domainWritesWrong : ChangeSpec := { name := "domainWrites", fn := fun _ => fun
  | [d] => { results := [.lit (.bool false)], args := [d] }
  | _ => none }
def DomainWritesWrongFalsely : Prop := domainWritesRow.holds Tryz.pinned (OpenSpec.ofChange domainWritesWrong)

/-- 'stratagemlaw09.DomainChanges': WHATEVER THE INPUT: true; the input reads as it did. -/
def domainChangesSpec : ChangeSpec := { name := "domainChanges", fn := fun _ => fun
  | [d] => { results := [.lit (.bool true)], args := [d] }
  | _ => none }
def domainChangesRow : OpenClaim := { program := "ytblgchkahpgdjaagreat", sum := "cb781bbe305f265905dd6cff223322698878c15c361eb1bc784ff82643a06803", func := "stratagem/stratagemlaw09.DomainChanges", spec := "domainChanges", inPlace := ["internal/bytealg.IndexByteString"], unfollowed := true, recurses := true, loops := true, apart := false }
def DomainChangesSaid : Prop := domainChangesRow.holds Tryz.pinned (OpenSpec.ofChange domainChangesSpec)

/-- ITS FALSE NEIGHBOUR: 'it returns false'. Refute it at one input. -/
def domainChangesWrong : ChangeSpec := { name := "domainChanges", fn := fun _ => fun
  | [d] => { results := [.lit (.bool false)], args := [d] }
  | _ => none }
def DomainChangesWrongFalsely : Prop := domainChangesRow.holds Tryz.pinned (OpenSpec.ofChange domainChangesWrong)

/-- 'stratagemlaw09.DomainParses': WHATEVER THE INPUT: true; the input reads as it did. -/
def domainParsesSpec : ChangeSpec := { name := "domainParses", fn := fun _ => fun
  | [d] => { results := [.lit (.bool true)], args := [d] }
  | _ => none }
def domainParsesRow : OpenClaim := { program := "ytblgchkahpgdjaagreat", sum := "cb781bbe305f265905dd6cff223322698878c15c361eb1bc784ff82643a06803", func := "stratagem/stratagemlaw09.DomainParses", spec := "domainParses", inPlace := ["internal/bytealg.IndexByteString"], unfollowed := true, recurses := true, loops := true, apart := false }
def DomainParsesSaid : Prop := domainParsesRow.holds Tryz.pinned (OpenSpec.ofChange domainParsesSpec)

/-- ITS FALSE NEIGHBOUR: 'it returns false'. Refute it at one input. -/
def domainParsesWrong : ChangeSpec := { name := "domainParses", fn := fun _ => fun
  | [d] => { results := [.lit (.bool false)], args := [d] }
  | _ => none }
def DomainParsesWrongFalsely : Prop := domainParsesRow.holds Tryz.pinned (OpenSpec.ofChange domainParsesWrong)

/-- 'stratagemlaw09.DomainReturns': WHATEVER THE INPUT: true; the input reads as it did. -/
def domainReturnsSpec : ChangeSpec := { name := "domainReturns", fn := fun _ => fun
  | [d] => { results := [.lit (.bool true)], args := [d] }
  | _ => none }
def domainReturnsRow : OpenClaim := { program := "ytblgchkahpgdjaagreat", sum := "cb781bbe305f265905dd6cff223322698878c15c361eb1bc784ff82643a06803", func := "stratagem/stratagemlaw09.DomainReturns", spec := "domainReturns", inPlace := ["internal/bytealg.IndexByteString"], unfollowed := true, recurses := true, loops := true, apart := false }
def DomainReturnsSaid : Prop := domainReturnsRow.holds Tryz.pinned (OpenSpec.ofChange domainReturnsSpec)

/-- ITS FALSE NEIGHBOUR: 'it returns false'. Refute it at one input. -/
def domainReturnsWrong : ChangeSpec := { name := "domainReturns", fn := fun _ => fun
  | [d] => { results := [.lit (.bool false)], args := [d] }
  | _ => none }
def DomainReturnsWrongFalsely : Prop := domainReturnsRow.holds Tryz.pinned (OpenSpec.ofChange domainReturnsWrong)

/-- 'stratagemlaw09.DomainNested': WHATEVER THE INPUT: true; the input reads as it did. -/
def domainNestedSpec : ChangeSpec := { name := "domainNested", fn := fun _ => fun
  | [d1, d2] => { results := [.lit (.bool true)], args := [d1, d2] }
  | _ => none }
def domainNestedRow : OpenClaim := { program := "ytblgchkahpgdjaagreat", sum := "cb781bbe305f265905dd6cff223322698878c15c361eb1bc784ff82643a06803", func := "stratagem/stratagemlaw09.DomainNested", spec := "domainNested", inPlace := ["internal/bytealg.IndexByteString"], unfollowed := true, recurses := true, loops := true, apart := false }
def DomainNestedSaid : Prop := domainNestedRow.holds Tryz.pinned (OpenSpec.ofChange domainNestedSpec)

/-- ITS FALSE NEIGHBOUR: 'it returns false'. Refute it at one input. -/
def domainNestedWrong : ChangeSpec := { name := "domainNested", fn := fun _ => fun
  | [d1, d2] => { results := [.lit (.bool false)], args := [d1, d2] }
  | _ => none }
def DomainNestedWrongFalsely : Prop := domainNestedRow.holds Tryz.pinned (OpenSpec.ofChange domainNestedWrong)

/-- 'stratagemlaw09.DomainSections': WHATEVER THE INPUT: true; the input reads as it did. -/
def domainSectionsSpec : ChangeSpec := { name := "domainSections", fn := fun _ => fun
  | [d1, d2] => { results := [.lit (.bool true)], args := [d1, d2] }
  | _ => none }
def domainSectionsRow : OpenClaim := { program := "ytblgchkahpgdjaagreat", sum := "cb781bbe305f265905dd6cff223322698878c15c361eb1bc784ff82643a06803", func := "stratagem/stratagemlaw09.DomainSections", spec := "domainSections", inPlace := ["internal/bytealg.IndexByteString"], unfollowed := true, recurses := true, loops := true, apart := false }
def DomainSectionsSaid : Prop := domainSectionsRow.holds Tryz.pinned (OpenSpec.ofChange domainSectionsSpec)

/-- ITS FALSE NEIGHBOUR: 'it returns false'. Refute it at one input. -/
def domainSectionsWrong : ChangeSpec := { name := "domainSections", fn := fun _ => fun
  | [d1, d2] => { results := [.lit (.bool false)], args := [d1, d2] }
  | _ => none }
def DomainSectionsWrongFalsely : Prop := domainSectionsRow.holds Tryz.pinned (OpenSpec.ofChange domainSectionsWrong)

/-- 'stratagemlaw09.DomainMissing': WHATEVER THE INPUT: true; the input reads as it did. -/
def domainMissingSpec : ChangeSpec := { name := "domainMissing", fn := fun _ => fun
  | [d] => { results := [.lit (.bool true)], args := [d] }
  | _ => none }
def domainMissingRow : OpenClaim := { program := "ytblgchkahpgdjaagreat", sum := "cb781bbe305f265905dd6cff223322698878c15c361eb1bc784ff82643a06803", func := "stratagem/stratagemlaw09.DomainMissing", spec := "domainMissing", inPlace := ["internal/bytealg.IndexByteString"], unfollowed := true, recurses := true, loops := true, apart := false }
def DomainMissingSaid : Prop := domainMissingRow.holds Tryz.pinned (OpenSpec.ofChange domainMissingSpec)

/-- ITS FALSE NEIGHBOUR: 'it returns false'. Refute it at one input. -/
def domainMissingWrong : ChangeSpec := { name := "domainMissing", fn := fun _ => fun
  | [d] => { results := [.lit (.bool false)], args := [d] }
  | _ => none }
def DomainMissingWrongFalsely : Prop := domainMissingRow.holds Tryz.pinned (OpenSpec.ofChange domainMissingWrong)

/- THE SECOND FORM. 'bulk': how many values and letters a reading holds, each counted each time it is reached (what is shared counts as often as it is met; a slice's spare places count too). A statement '..UptoSaid' is the law's where the arguments, and the package variables that the reading takes, are together of bulk at most 1048576: NARROWER than '..Said'. Prove '..Said' where nothing that the law and all that it calls make is longer than what came in: it says more and counts as full. Else prove '..UptoSaid'. A law counts once. -/
mutual
def uptoBulk {H : Type} : DataW H → Nat
  | .lit (.string bytes) => bytes.length + 1
  | .lit _ => 1
  | .nil => 1
  | .ptr d => uptoBulk d + 1
  | .slice elems spare => uptoBulkAll elems + uptoBulkAll spare + 1
  | .agg parts => uptoBulkAll parts + 1
  | .iface _ d => uptoBulk d + 1
  | .map entries => uptoBulkEntries entries + 1
  | .held _ => 1
def uptoBulkAll {H : Type} : List (DataW H) → Nat
  | [] => 0
  | d :: r => uptoBulk d + uptoBulkAll r
def uptoBulkEntries {H : Type} : List (Lit × DataW H) → Nat
  | [] => 0
  | x :: r => uptoBulkEntry x + uptoBulkEntries r
def uptoBulkEntry {H : Type} : Lit × DataW H → Nat
  | (.string bytes, d) => bytes.length + uptoBulk d + 1
  | (_, d) => uptoBulk d + 1
 end
def uptoSmall : (H : Type) → List (DataW H) → Bool := fun _ ds => decide (uptoBulkAll ds ≤ 1048576)
def OpenSpec.upto (s : _root_.Go.ChangeSpec) : _root_.Go.OpenSpec := { _root_.Go.OpenSpec.ofChange s with cond := some uptoSmall }

/-- 'stratagemlaw09.DomainWrites', WHERE WHAT IT READS IS OF BULK AT MOST 1048576: true; the input reads as it did. -/
def domainWritesUptoRow : OpenClaim := { program := "ytblgchkahpgdjaagreat", sum := "cb781bbe305f265905dd6cff223322698878c15c361eb1bc784ff82643a06803", func := "stratagem/stratagemlaw09.DomainWrites", spec := "domainWrites", inPlace := ["internal/bytealg.IndexByteString"], unfollowed := true, recurses := true, loops := true, apart := false, narrowed := true }
def DomainWritesUptoSaid : Prop := domainWritesUptoRow.holds Tryz.pinned (OpenSpec.upto domainWritesSpec)

/-- 'stratagemlaw09.DomainChanges', WHERE WHAT IT READS IS OF BULK AT MOST 1048576: true; the input reads as it did. -/
def domainChangesUptoRow : OpenClaim := { program := "ytblgchkahpgdjaagreat", sum := "cb781bbe305f265905dd6cff223322698878c15c361eb1bc784ff82643a06803", func := "stratagem/stratagemlaw09.DomainChanges", spec := "domainChanges", inPlace := ["internal/bytealg.IndexByteString"], unfollowed := true, recurses := true, loops := true, apart := false, narrowed := true }
def DomainChangesUptoSaid : Prop := domainChangesUptoRow.holds Tryz.pinned (OpenSpec.upto domainChangesSpec)

/-- 'stratagemlaw09.DomainParses', WHERE WHAT IT READS IS OF BULK AT MOST 1048576: true; the input reads as it did. -/
def domainParsesUptoRow : OpenClaim := { program := "ytblgchkahpgdjaagreat", sum := "cb781bbe305f265905dd6cff223322698878c15c361eb1bc784ff82643a06803", func := "stratagem/stratagemlaw09.DomainParses", spec := "domainParses", inPlace := ["internal/bytealg.IndexByteString"], unfollowed := true, recurses := true, loops := true, apart := false, narrowed := true }
def DomainParsesUptoSaid : Prop := domainParsesUptoRow.holds Tryz.pinned (OpenSpec.upto domainParsesSpec)

/-- 'stratagemlaw09.DomainReturns', WHERE WHAT IT READS IS OF BULK AT MOST 1048576: true; the input reads as it did. -/
def domainReturnsUptoRow : OpenClaim := { program := "ytblgchkahpgdjaagreat", sum := "cb781bbe305f265905dd6cff223322698878c15c361eb1bc784ff82643a06803", func := "stratagem/stratagemlaw09.DomainReturns", spec := "domainReturns", inPlace := ["internal/bytealg.IndexByteString"], unfollowed := true, recurses := true, loops := true, apart := false, narrowed := true }
def DomainReturnsUptoSaid : Prop := domainReturnsUptoRow.holds Tryz.pinned (OpenSpec.upto domainReturnsSpec)

/-- 'stratagemlaw09.DomainNested', WHERE WHAT IT READS IS OF BULK AT MOST 1048576: true; the input reads as it did. -/
def domainNestedUptoRow : OpenClaim := { program := "ytblgchkahpgdjaagreat", sum := "cb781bbe305f265905dd6cff223322698878c15c361eb1bc784ff82643a06803", func := "stratagem/stratagemlaw09.DomainNested", spec := "domainNested", inPlace := ["internal/bytealg.IndexByteString"], unfollowed := true, recurses := true, loops := true, apart := false, narrowed := true }
def DomainNestedUptoSaid : Prop := domainNestedUptoRow.holds Tryz.pinned (OpenSpec.upto domainNestedSpec)

/-- 'stratagemlaw09.DomainSections', WHERE WHAT IT READS IS OF BULK AT MOST 1048576: true; the input reads as it did. -/
def domainSectionsUptoRow : OpenClaim := { program := "ytblgchkahpgdjaagreat", sum := "cb781bbe305f265905dd6cff223322698878c15c361eb1bc784ff82643a06803", func := "stratagem/stratagemlaw09.DomainSections", spec := "domainSections", inPlace := ["internal/bytealg.IndexByteString"], unfollowed := true, recurses := true, loops := true, apart := false, narrowed := true }
def DomainSectionsUptoSaid : Prop := domainSectionsUptoRow.holds Tryz.pinned (OpenSpec.upto domainSectionsSpec)

/-- 'stratagemlaw09.DomainMissing', WHERE WHAT IT READS IS OF BULK AT MOST 1048576: true; the input reads as it did. -/
def domainMissingUptoRow : OpenClaim := { program := "ytblgchkahpgdjaagreat", sum := "cb781bbe305f265905dd6cff223322698878c15c361eb1bc784ff82643a06803", func := "stratagem/stratagemlaw09.DomainMissing", spec := "domainMissing", inPlace := ["internal/bytealg.IndexByteString"], unfollowed := true, recurses := true, loops := true, apart := false, narrowed := true }
def DomainMissingUptoSaid : Prop := domainMissingUptoRow.holds Tryz.pinned (OpenSpec.upto domainMissingSpec)

end Rows
end Go.Proofs.YtblgchkahpgdjaaGreat
