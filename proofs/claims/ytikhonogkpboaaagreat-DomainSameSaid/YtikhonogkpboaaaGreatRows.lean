/-
  NARROWER THAN 'FOR EVERY INPUT', by the rows' own cells (each row's printed sentence says how): DomainSame: loops · DomainStatic: loops · ProblemSame: loops · DomainWrites: loops · ProblemWrites: loops · DomainChanges: loops · DomainParses: loops · ProblemParses: loops · DomainReturns: loops · ProblemReturns: loops.
  DERIVED. THE GIVEN ROWS OF THIS SEAT. 10 by the template 'for every input the law returns true; each argument reads behind the call as it read before'; 0 by the template 'total and deterministic' (their statements: YtikhonogkpboaaaGreatTotals.lean).
  GIVEN WITH THE SEED: the statements are not yours to turn. If you find one false, say at which input.
  Laid BY PROGRAM, IN A SANDBOX (cutbox-rows.mjs): the forced cells as the released guide's own fill.sh prints them over the translation ea169d4379e1c7f2… (all of the seat's roots in one cut). By AI agents, Wed Nov 11 2026. No macro, syntax, notation, axiom, sorry.
-/
import Derived.Test.YtikhonogkpboaaaGreatChecked
import GoSem.Claim
import GoSem.ClaimJoined
import GoSem.ClaimMapViews
import Derived.JoinedTies
import Derived.KernelRfl
namespace Go.Proofs.YtikhonogkpboaaaGreat
/- THE CELL 'sum', in the pinned program and in every row, IS THE sha256 OF THE DUMP (.gsa) THAT YtikhonogkpboaaaGreatProg.lean LOADS. Nothing in Lean hashes anything: it is a label: what it is worth is what the hold of that sum in a sandbox is worth. -/
noncomputable def Tryz.pinned : Pinned := { name := "ytikhonogkpboaaagreat", sum := "ea169d4379e1c7f22b05f44a77d5d64a674116206a8dda63bedd1db0f6cd0c1f", checked := Tryz.checked }
namespace Rows
def none {H : Type} : Left H := { results := [], args := [] }

/-- 'stratagemlaw09.DomainSame': WHATEVER THE INPUT: true; the input reads as it did. -/
def domainSameSpec : ChangeSpec := { name := "domainSame", fn := fun _ => fun
  | [d1, d2] => { results := [.lit (.bool true)], args := [d1, d2] }
  | _ => none }
def domainSameRow : OpenClaim := { program := "ytikhonogkpboaaagreat", sum := "ea169d4379e1c7f22b05f44a77d5d64a674116206a8dda63bedd1db0f6cd0c1f", func := "stratagem/stratagemlaw09.DomainSame", spec := "domainSame", inPlace := ["internal/bytealg.IndexByteString"], unfollowed := true, recurses := true, loops := true, apart := false }
def DomainSameSaid : Prop := domainSameRow.holds Tryz.pinned (OpenSpec.ofChange domainSameSpec)

/-- ITS FALSE NEIGHBOUR: 'it returns false'. Refute it at one input. -/
def domainSameWrong : ChangeSpec := { name := "domainSame", fn := fun _ => fun
  | [d1, d2] => { results := [.lit (.bool false)], args := [d1, d2] }
  | _ => none }
def DomainSameWrongFalsely : Prop := domainSameRow.holds Tryz.pinned (OpenSpec.ofChange domainSameWrong)

/-- 'stratagemlaw09.DomainStatic': WHATEVER THE INPUT: true; the input reads as it did. -/
def domainStaticSpec : ChangeSpec := { name := "domainStatic", fn := fun _ => fun
  | [d1, d2] => { results := [.lit (.bool true)], args := [d1, d2] }
  | _ => none }
def domainStaticRow : OpenClaim := { program := "ytikhonogkpboaaagreat", sum := "ea169d4379e1c7f22b05f44a77d5d64a674116206a8dda63bedd1db0f6cd0c1f", func := "stratagem/stratagemlaw09.DomainStatic", spec := "domainStatic", inPlace := ["internal/bytealg.IndexByteString"], unfollowed := true, recurses := true, loops := true, apart := false }
def DomainStaticSaid : Prop := domainStaticRow.holds Tryz.pinned (OpenSpec.ofChange domainStaticSpec)

/-- ITS FALSE NEIGHBOUR: 'it returns false'. Refute it at one input. -/
def domainStaticWrong : ChangeSpec := { name := "domainStatic", fn := fun _ => fun
  | [d1, d2] => { results := [.lit (.bool false)], args := [d1, d2] }
  | _ => none }
def DomainStaticWrongFalsely : Prop := domainStaticRow.holds Tryz.pinned (OpenSpec.ofChange domainStaticWrong)

/-- 'stratagemlaw10.ProblemSame': WHATEVER THE INPUT: true; the input reads as it did. -/
def problemSameSpec : ChangeSpec := { name := "problemSame", fn := fun _ => fun
  | [d1, d2] => { results := [.lit (.bool true)], args := [d1, d2] }
  | _ => none }
def problemSameRow : OpenClaim := { program := "ytikhonogkpboaaagreat", sum := "ea169d4379e1c7f22b05f44a77d5d64a674116206a8dda63bedd1db0f6cd0c1f", func := "stratagem/stratagemlaw10.ProblemSame", spec := "problemSame", inPlace := ["internal/bytealg.IndexByteString"], unfollowed := true, recurses := true, loops := true, apart := false }
def ProblemSameSaid : Prop := problemSameRow.holds Tryz.pinned (OpenSpec.ofChange problemSameSpec)

/-- ITS FALSE NEIGHBOUR: 'it returns false'. Refute it at one input. -/
def problemSameWrong : ChangeSpec := { name := "problemSame", fn := fun _ => fun
  | [d1, d2] => { results := [.lit (.bool false)], args := [d1, d2] }
  | _ => none }
def ProblemSameWrongFalsely : Prop := problemSameRow.holds Tryz.pinned (OpenSpec.ofChange problemSameWrong)

/-- 'stratagemlaw09.DomainWrites': WHATEVER THE INPUT: true; the input reads as it did. -/
def domainWritesSpec : ChangeSpec := { name := "domainWrites", fn := fun _ => fun
  | [d] => { results := [.lit (.bool true)], args := [d] }
  | _ => none }
def domainWritesRow : OpenClaim := { program := "ytikhonogkpboaaagreat", sum := "ea169d4379e1c7f22b05f44a77d5d64a674116206a8dda63bedd1db0f6cd0c1f", func := "stratagem/stratagemlaw09.DomainWrites", spec := "domainWrites", inPlace := ["internal/bytealg.IndexByteString"], unfollowed := true, recurses := true, loops := true, apart := false }
def DomainWritesSaid : Prop := domainWritesRow.holds Tryz.pinned (OpenSpec.ofChange domainWritesSpec)

/-- ITS FALSE NEIGHBOUR: 'it returns false'. Refute it at one input. -/
def domainWritesWrong : ChangeSpec := { name := "domainWrites", fn := fun _ => fun
  | [d] => { results := [.lit (.bool false)], args := [d] }
  | _ => none }
def DomainWritesWrongFalsely : Prop := domainWritesRow.holds Tryz.pinned (OpenSpec.ofChange domainWritesWrong)

/-- 'stratagemlaw10.ProblemWrites': WHATEVER THE INPUT: true; the input reads as it did. -/
def problemWritesSpec : ChangeSpec := { name := "problemWrites", fn := fun _ => fun
  | [d] => { results := [.lit (.bool true)], args := [d] }
  | _ => none }
def problemWritesRow : OpenClaim := { program := "ytikhonogkpboaaagreat", sum := "ea169d4379e1c7f22b05f44a77d5d64a674116206a8dda63bedd1db0f6cd0c1f", func := "stratagem/stratagemlaw10.ProblemWrites", spec := "problemWrites", inPlace := ["internal/bytealg.IndexByteString"], unfollowed := true, recurses := true, loops := true, apart := false }
def ProblemWritesSaid : Prop := problemWritesRow.holds Tryz.pinned (OpenSpec.ofChange problemWritesSpec)

/-- ITS FALSE NEIGHBOUR: 'it returns false'. Refute it at one input. -/
def problemWritesWrong : ChangeSpec := { name := "problemWrites", fn := fun _ => fun
  | [d] => { results := [.lit (.bool false)], args := [d] }
  | _ => none }
def ProblemWritesWrongFalsely : Prop := problemWritesRow.holds Tryz.pinned (OpenSpec.ofChange problemWritesWrong)

/-- 'stratagemlaw09.DomainChanges': WHATEVER THE INPUT: true; the input reads as it did. -/
def domainChangesSpec : ChangeSpec := { name := "domainChanges", fn := fun _ => fun
  | [d] => { results := [.lit (.bool true)], args := [d] }
  | _ => none }
def domainChangesRow : OpenClaim := { program := "ytikhonogkpboaaagreat", sum := "ea169d4379e1c7f22b05f44a77d5d64a674116206a8dda63bedd1db0f6cd0c1f", func := "stratagem/stratagemlaw09.DomainChanges", spec := "domainChanges", inPlace := ["internal/bytealg.IndexByteString"], unfollowed := true, recurses := true, loops := true, apart := false }
def DomainChangesSaid : Prop := domainChangesRow.holds Tryz.pinned (OpenSpec.ofChange domainChangesSpec)

/-- ITS FALSE NEIGHBOUR: 'it returns false'. Refute it at one input. -/
def domainChangesWrong : ChangeSpec := { name := "domainChanges", fn := fun _ => fun
  | [d] => { results := [.lit (.bool false)], args := [d] }
  | _ => none }
def DomainChangesWrongFalsely : Prop := domainChangesRow.holds Tryz.pinned (OpenSpec.ofChange domainChangesWrong)

/-- 'stratagemlaw09.DomainParses': WHATEVER THE INPUT: true; the input reads as it did. -/
def domainParsesSpec : ChangeSpec := { name := "domainParses", fn := fun _ => fun
  | [d] => { results := [.lit (.bool true)], args := [d] }
  | _ => none }
def domainParsesRow : OpenClaim := { program := "ytikhonogkpboaaagreat", sum := "ea169d4379e1c7f22b05f44a77d5d64a674116206a8dda63bedd1db0f6cd0c1f", func := "stratagem/stratagemlaw09.DomainParses", spec := "domainParses", inPlace := ["internal/bytealg.IndexByteString"], unfollowed := true, recurses := true, loops := true, apart := false }
def DomainParsesSaid : Prop := domainParsesRow.holds Tryz.pinned (OpenSpec.ofChange domainParsesSpec)

/-- ITS FALSE NEIGHBOUR: 'it returns false'. Refute it at one input. -/
def domainParsesWrong : ChangeSpec := { name := "domainParses", fn := fun _ => fun
  | [d] => { results := [.lit (.bool false)], args := [d] }
  | _ => none }
def DomainParsesWrongFalsely : Prop := domainParsesRow.holds Tryz.pinned (OpenSpec.ofChange domainParsesWrong)

/-- 'stratagemlaw10.ProblemParses': WHATEVER THE INPUT: true; the input reads as it did. -/
def problemParsesSpec : ChangeSpec := { name := "problemParses", fn := fun _ => fun
  | [d] => { results := [.lit (.bool true)], args := [d] }
  | _ => none }
def problemParsesRow : OpenClaim := { program := "ytikhonogkpboaaagreat", sum := "ea169d4379e1c7f22b05f44a77d5d64a674116206a8dda63bedd1db0f6cd0c1f", func := "stratagem/stratagemlaw10.ProblemParses", spec := "problemParses", inPlace := ["internal/bytealg.IndexByteString"], unfollowed := true, recurses := true, loops := true, apart := false }
def ProblemParsesSaid : Prop := problemParsesRow.holds Tryz.pinned (OpenSpec.ofChange problemParsesSpec)

/-- ITS FALSE NEIGHBOUR: 'it returns false'. Refute it at one input. -/
def problemParsesWrong : ChangeSpec := { name := "problemParses", fn := fun _ => fun
  | [d] => { results := [.lit (.bool false)], args := [d] }
  | _ => none }
def ProblemParsesWrongFalsely : Prop := problemParsesRow.holds Tryz.pinned (OpenSpec.ofChange problemParsesWrong)

/-- 'stratagemlaw09.DomainReturns': WHATEVER THE INPUT: true; the input reads as it did. -/
def domainReturnsSpec : ChangeSpec := { name := "domainReturns", fn := fun _ => fun
  | [d] => { results := [.lit (.bool true)], args := [d] }
  | _ => none }
def domainReturnsRow : OpenClaim := { program := "ytikhonogkpboaaagreat", sum := "ea169d4379e1c7f22b05f44a77d5d64a674116206a8dda63bedd1db0f6cd0c1f", func := "stratagem/stratagemlaw09.DomainReturns", spec := "domainReturns", inPlace := ["internal/bytealg.IndexByteString"], unfollowed := true, recurses := true, loops := true, apart := false }
def DomainReturnsSaid : Prop := domainReturnsRow.holds Tryz.pinned (OpenSpec.ofChange domainReturnsSpec)

/-- ITS FALSE NEIGHBOUR: 'it returns false'. Refute it at one input. -/
def domainReturnsWrong : ChangeSpec := { name := "domainReturns", fn := fun _ => fun
  | [d] => { results := [.lit (.bool false)], args := [d] }
  | _ => none }
def DomainReturnsWrongFalsely : Prop := domainReturnsRow.holds Tryz.pinned (OpenSpec.ofChange domainReturnsWrong)

/-- 'stratagemlaw10.ProblemReturns': WHATEVER THE INPUT: true; the input reads as it did. -/
def problemReturnsSpec : ChangeSpec := { name := "problemReturns", fn := fun _ => fun
  | [d] => { results := [.lit (.bool true)], args := [d] }
  | _ => none }
def problemReturnsRow : OpenClaim := { program := "ytikhonogkpboaaagreat", sum := "ea169d4379e1c7f22b05f44a77d5d64a674116206a8dda63bedd1db0f6cd0c1f", func := "stratagem/stratagemlaw10.ProblemReturns", spec := "problemReturns", inPlace := ["internal/bytealg.IndexByteString"], unfollowed := true, recurses := true, loops := true, apart := false }
def ProblemReturnsSaid : Prop := problemReturnsRow.holds Tryz.pinned (OpenSpec.ofChange problemReturnsSpec)

/-- ITS FALSE NEIGHBOUR: 'it returns false'. Refute it at one input. -/
def problemReturnsWrong : ChangeSpec := { name := "problemReturns", fn := fun _ => fun
  | [d] => { results := [.lit (.bool false)], args := [d] }
  | _ => none }
def ProblemReturnsWrongFalsely : Prop := problemReturnsRow.holds Tryz.pinned (OpenSpec.ofChange problemReturnsWrong)

/- THE SECOND FORM. 'bulk': how many values and letters a reading holds, each counted each time it is reached (what is shared counts as often as it is met; a slice's spare places count too). A statement '..UptoSaid' is the law's where the arguments, and the package variables that the reading takes, are together of bulk at most 1048576: NARROWER than '..Said'. Prove '..Said' where nothing that the law and all that it calls make is longer than what came in: it says more and counts as full. Else prove '..UptoSaid'. A law counts once. -/
mutual
def uptoBulk {H : Type} : DataW H → Nat
  | .lit (.string bytes) => bytes.length + 1
  | .lit _ => 1
  | .nil => 1
  | .ptr d => uptoBulk d + 1
  | .slice elems spare => uptoBulkAll elems + uptoBulkAll spare + 1
  | .agg parts => uptoBulkAll parts + 1
  | .iface _ d => uptoBulk d + 1
  | .map entries => uptoBulkEntries entries + 1
  | .held _ => 1
def uptoBulkAll {H : Type} : List (DataW H) → Nat
  | [] => 0
  | d :: r => uptoBulk d + uptoBulkAll r
def uptoBulkEntries {H : Type} : List (Lit × DataW H) → Nat
  | [] => 0
  | x :: r => uptoBulkEntry x + uptoBulkEntries r
def uptoBulkEntry {H : Type} : Lit × DataW H → Nat
  | (.string bytes, d) => bytes.length + uptoBulk d + 1
  | (_, d) => uptoBulk d + 1
 end
def uptoSmall : (H : Type) → List (DataW H) → Bool := fun _ ds => decide (uptoBulkAll ds ≤ 1048576)
def OpenSpec.upto (s : _root_.Go.ChangeSpec) : _root_.Go.OpenSpec := { _root_.Go.OpenSpec.ofChange s with cond := some uptoSmall }

/-- 'stratagemlaw09.DomainSame', WHERE WHAT IT READS IS OF BULK AT MOST 1048576: true; the input reads as it did. -/
def domainSameUptoRow : OpenClaim := { program := "ytikhonogkpboaaagreat", sum := "ea169d4379e1c7f22b05f44a77d5d64a674116206a8dda63bedd1db0f6cd0c1f", func := "stratagem/stratagemlaw09.DomainSame", spec := "domainSame", inPlace := ["internal/bytealg.IndexByteString"], unfollowed := true, recurses := true, loops := true, apart := false, narrowed := true }
def DomainSameUptoSaid : Prop := domainSameUptoRow.holds Tryz.pinned (OpenSpec.upto domainSameSpec)

/-- 'stratagemlaw09.DomainStatic', WHERE WHAT IT READS IS OF BULK AT MOST 1048576: true; the input reads as it did. -/
def domainStaticUptoRow : OpenClaim := { program := "ytikhonogkpboaaagreat", sum := "ea169d4379e1c7f22b05f44a77d5d64a674116206a8dda63bedd1db0f6cd0c1f", func := "stratagem/stratagemlaw09.DomainStatic", spec := "domainStatic", inPlace := ["internal/bytealg.IndexByteString"], unfollowed := true, recurses := true, loops := true, apart := false, narrowed := true }
def DomainStaticUptoSaid : Prop := domainStaticUptoRow.holds Tryz.pinned (OpenSpec.upto domainStaticSpec)

/-- 'stratagemlaw10.ProblemSame', WHERE WHAT IT READS IS OF BULK AT MOST 1048576: true; the input reads as it did. -/
def problemSameUptoRow : OpenClaim := { program := "ytikhonogkpboaaagreat", sum := "ea169d4379e1c7f22b05f44a77d5d64a674116206a8dda63bedd1db0f6cd0c1f", func := "stratagem/stratagemlaw10.ProblemSame", spec := "problemSame", inPlace := ["internal/bytealg.IndexByteString"], unfollowed := true, recurses := true, loops := true, apart := false, narrowed := true }
def ProblemSameUptoSaid : Prop := problemSameUptoRow.holds Tryz.pinned (OpenSpec.upto problemSameSpec)

/-- 'stratagemlaw09.DomainWrites', WHERE WHAT IT READS IS OF BULK AT MOST 1048576: true; the input reads as it did. -/
def domainWritesUptoRow : OpenClaim := { program := "ytikhonogkpboaaagreat", sum := "ea169d4379e1c7f22b05f44a77d5d64a674116206a8dda63bedd1db0f6cd0c1f", func := "stratagem/stratagemlaw09.DomainWrites", spec := "domainWrites", inPlace := ["internal/bytealg.IndexByteString"], unfollowed := true, recurses := true, loops := true, apart := false, narrowed := true }
def DomainWritesUptoSaid : Prop := domainWritesUptoRow.holds Tryz.pinned (OpenSpec.upto domainWritesSpec)

/-- 'stratagemlaw10.ProblemWrites', WHERE WHAT IT READS IS OF BULK AT MOST 1048576: true; the input reads as it did. -/
def problemWritesUptoRow : OpenClaim := { program := "ytikhonogkpboaaagreat", sum := "ea169d4379e1c7f22b05f44a77d5d64a674116206a8dda63bedd1db0f6cd0c1f", func := "stratagem/stratagemlaw10.ProblemWrites", spec := "problemWrites", inPlace := ["internal/bytealg.IndexByteString"], unfollowed := true, recurses := true, loops := true, apart := false, narrowed := true }
def ProblemWritesUptoSaid : Prop := problemWritesUptoRow.holds Tryz.pinned (OpenSpec.upto problemWritesSpec)

/-- 'stratagemlaw09.DomainChanges', WHERE WHAT IT READS IS OF BULK AT MOST 1048576: true; the input reads as it did. -/
def domainChangesUptoRow : OpenClaim := { program := "ytikhonogkpboaaagreat", sum := "ea169d4379e1c7f22b05f44a77d5d64a674116206a8dda63bedd1db0f6cd0c1f", func := "stratagem/stratagemlaw09.DomainChanges", spec := "domainChanges", inPlace := ["internal/bytealg.IndexByteString"], unfollowed := true, recurses := true, loops := true, apart := false, narrowed := true }
def DomainChangesUptoSaid : Prop := domainChangesUptoRow.holds Tryz.pinned (OpenSpec.upto domainChangesSpec)

/-- 'stratagemlaw09.DomainParses', WHERE WHAT IT READS IS OF BULK AT MOST 1048576: true; the input reads as it did. -/
def domainParsesUptoRow : OpenClaim := { program := "ytikhonogkpboaaagreat", sum := "ea169d4379e1c7f22b05f44a77d5d64a674116206a8dda63bedd1db0f6cd0c1f", func := "stratagem/stratagemlaw09.DomainParses", spec := "domainParses", inPlace := ["internal/bytealg.IndexByteString"], unfollowed := true, recurses := true, loops := true, apart := false, narrowed := true }
def DomainParsesUptoSaid : Prop := domainParsesUptoRow.holds Tryz.pinned (OpenSpec.upto domainParsesSpec)

/-- 'stratagemlaw10.ProblemParses', WHERE WHAT IT READS IS OF BULK AT MOST 1048576: true; the input reads as it did. -/
def problemParsesUptoRow : OpenClaim := { program := "ytikhonogkpboaaagreat", sum := "ea169d4379e1c7f22b05f44a77d5d64a674116206a8dda63bedd1db0f6cd0c1f", func := "stratagem/stratagemlaw10.ProblemParses", spec := "problemParses", inPlace := ["internal/bytealg.IndexByteString"], unfollowed := true, recurses := true, loops := true, apart := false, narrowed := true }
def ProblemParsesUptoSaid : Prop := problemParsesUptoRow.holds Tryz.pinned (OpenSpec.upto problemParsesSpec)

/-- 'stratagemlaw09.DomainReturns', WHERE WHAT IT READS IS OF BULK AT MOST 1048576: true; the input reads as it did. -/
def domainReturnsUptoRow : OpenClaim := { program := "ytikhonogkpboaaagreat", sum := "ea169d4379e1c7f22b05f44a77d5d64a674116206a8dda63bedd1db0f6cd0c1f", func := "stratagem/stratagemlaw09.DomainReturns", spec := "domainReturns", inPlace := ["internal/bytealg.IndexByteString"], unfollowed := true, recurses := true, loops := true, apart := false, narrowed := true }
def DomainReturnsUptoSaid : Prop := domainReturnsUptoRow.holds Tryz.pinned (OpenSpec.upto domainReturnsSpec)

/-- 'stratagemlaw10.ProblemReturns', WHERE WHAT IT READS IS OF BULK AT MOST 1048576: true; the input reads as it did. -/
def problemReturnsUptoRow : OpenClaim := { program := "ytikhonogkpboaaagreat", sum := "ea169d4379e1c7f22b05f44a77d5d64a674116206a8dda63bedd1db0f6cd0c1f", func := "stratagem/stratagemlaw10.ProblemReturns", spec := "problemReturns", inPlace := ["internal/bytealg.IndexByteString"], unfollowed := true, recurses := true, loops := true, apart := false, narrowed := true }
def ProblemReturnsUptoSaid : Prop := problemReturnsUptoRow.holds Tryz.pinned (OpenSpec.upto problemReturnsSpec)

end Rows
end Go.Proofs.YtikhonogkpboaaaGreat
