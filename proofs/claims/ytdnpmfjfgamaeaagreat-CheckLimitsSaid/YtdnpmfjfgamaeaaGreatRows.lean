/-
  No cell of these rows narrows 'for every input' (looked for: loops, veiled, ifaces, maps, wideKeys, modest, calm, conditions, laid).
  DERIVED. THE GIVEN ROWS OF THIS SEAT. 7 by the template 'for every input the law returns true; each argument reads behind the call as it read before'; 0 by the template 'total and deterministic' (their statements: YtdnpmfjfgamaeaaGreatTotals.lean).
  GIVEN WITH THE SEED: the statements are not yours to turn. If you find one false, say at which input.
  Laid BY PROGRAM, IN A SANDBOX (cutbox-rows.mjs): the forced cells as the released guide's own fill.sh prints them over the translation 99189ce7b78979b8… (all of the seat's roots in one cut). By AI agents, Wed Nov 11 2026. No macro, syntax, notation, axiom, sorry.
-/
import Derived.Test.YtdnpmfjfgamaeaaGreatChecked
import GoSem.Claim
import GoSem.ClaimJoined
import GoSem.ClaimMapViews
import Derived.JoinedTies
import Derived.KernelRfl
namespace Go.Proofs.YtdnpmfjfgamaeaaGreat
/- THE CELL 'sum', in the pinned program and in every row, IS THE sha256 OF THE DUMP (.gsa) THAT YtdnpmfjfgamaeaaGreatProg.lean LOADS. Nothing in Lean hashes anything: it is a label: what it is worth is what the hold of that sum in a sandbox is worth. -/
noncomputable def Tryz.pinned : Pinned := { name := "ytdnpmfjfgamaeaagreat", sum := "99189ce7b78979b88679613737acb8237a078203e429bd5f629bd0d3f9f2645e", checked := Tryz.checked }
namespace Rows
def none {H : Type} : Left H := { results := [], args := [] }

/-- 'stratagemlaw11.CheckAtoms': WHATEVER THE INPUT: true; the input reads as it did. -/
def checkAtomsSpec : ChangeSpec := { name := "checkAtoms", fn := fun _ => fun
  | [d1, d2] => { results := [.lit (.bool true)], args := [d1, d2] }
  | _ => none }
def checkAtomsRow : OpenClaim := { program := "ytdnpmfjfgamaeaagreat", sum := "99189ce7b78979b88679613737acb8237a078203e429bd5f629bd0d3f9f2645e", func := "stratagem/stratagemlaw11.CheckAtoms", spec := "checkAtoms", inPlace := ["internal/bytealg.IndexByteString", "internal/bytealg.IndexString", "internal/abi.NoEscape", "internal/bytealg.MakeNoZero"], unfollowed := true, recurses := true, named := ["internal/bytealg.MaxLen"], apart := false }
def CheckAtomsSaid : Prop := checkAtomsRow.holds Tryz.pinned (OpenSpec.ofChange checkAtomsSpec)

/-- ITS FALSE NEIGHBOUR: 'it returns false'. Refute it at one input. -/
def checkAtomsWrong : ChangeSpec := { name := "checkAtoms", fn := fun _ => fun
  | [d1, d2] => { results := [.lit (.bool false)], args := [d1, d2] }
  | _ => none }
def CheckAtomsWrongFalsely : Prop := checkAtomsRow.holds Tryz.pinned (OpenSpec.ofChange checkAtomsWrong)

/-- 'stratagemlaw11.CheckScopes': WHATEVER THE INPUT: true; the input reads as it did. -/
def checkScopesSpec : ChangeSpec := { name := "checkScopes", fn := fun _ => fun
  | [d] => { results := [.lit (.bool true)], args := [d] }
  | _ => none }
def checkScopesRow : OpenClaim := { program := "ytdnpmfjfgamaeaagreat", sum := "99189ce7b78979b88679613737acb8237a078203e429bd5f629bd0d3f9f2645e", func := "stratagem/stratagemlaw11.CheckScopes", spec := "checkScopes", inPlace := ["internal/bytealg.IndexByteString", "internal/bytealg.IndexString", "internal/abi.NoEscape", "internal/bytealg.MakeNoZero"], unfollowed := true, recurses := true, named := ["internal/bytealg.MaxLen"], apart := false }
def CheckScopesSaid : Prop := checkScopesRow.holds Tryz.pinned (OpenSpec.ofChange checkScopesSpec)

/-- ITS FALSE NEIGHBOUR: 'it returns false'. Refute it at one input. -/
def checkScopesWrong : ChangeSpec := { name := "checkScopes", fn := fun _ => fun
  | [d] => { results := [.lit (.bool false)], args := [d] }
  | _ => none }
def CheckScopesWrongFalsely : Prop := checkScopesRow.holds Tryz.pinned (OpenSpec.ofChange checkScopesWrong)

/-- 'stratagemlaw11.CheckTimed': WHATEVER THE INPUT: true; the input reads as it did. -/
def checkTimedSpec : ChangeSpec := { name := "checkTimed", fn := fun _ => fun
  | [d] => { results := [.lit (.bool true)], args := [d] }
  | _ => none }
def checkTimedRow : OpenClaim := { program := "ytdnpmfjfgamaeaagreat", sum := "99189ce7b78979b88679613737acb8237a078203e429bd5f629bd0d3f9f2645e", func := "stratagem/stratagemlaw11.CheckTimed", spec := "checkTimed", inPlace := ["internal/bytealg.IndexByteString", "internal/bytealg.IndexString", "internal/abi.NoEscape", "internal/bytealg.MakeNoZero"], unfollowed := true, recurses := true, named := ["internal/bytealg.MaxLen"], apart := false }
def CheckTimedSaid : Prop := checkTimedRow.holds Tryz.pinned (OpenSpec.ofChange checkTimedSpec)

/-- ITS FALSE NEIGHBOUR: 'it returns false'. Refute it at one input. -/
def checkTimedWrong : ChangeSpec := { name := "checkTimed", fn := fun _ => fun
  | [d] => { results := [.lit (.bool false)], args := [d] }
  | _ => none }
def CheckTimedWrongFalsely : Prop := checkTimedRow.holds Tryz.pinned (OpenSpec.ofChange checkTimedWrong)

/-- 'stratagemlaw11.CheckNumbers': WHATEVER THE INPUT: true; the input reads as it did. -/
def checkNumbersSpec : ChangeSpec := { name := "checkNumbers", fn := fun _ => fun
  | [d1, d2, d3] => { results := [.lit (.bool true)], args := [d1, d2, d3] }
  | _ => none }
def checkNumbersRow : OpenClaim := { program := "ytdnpmfjfgamaeaagreat", sum := "99189ce7b78979b88679613737acb8237a078203e429bd5f629bd0d3f9f2645e", func := "stratagem/stratagemlaw11.CheckNumbers", spec := "checkNumbers", inPlace := ["internal/bytealg.IndexByteString", "internal/bytealg.IndexString", "internal/abi.NoEscape", "internal/bytealg.MakeNoZero"], unfollowed := true, recurses := true, named := ["internal/bytealg.MaxLen"], apart := false }
def CheckNumbersSaid : Prop := checkNumbersRow.holds Tryz.pinned (OpenSpec.ofChange checkNumbersSpec)

/-- ITS FALSE NEIGHBOUR: 'it returns false'. Refute it at one input. -/
def checkNumbersWrong : ChangeSpec := { name := "checkNumbers", fn := fun _ => fun
  | [d1, d2, d3] => { results := [.lit (.bool false)], args := [d1, d2, d3] }
  | _ => none }
def CheckNumbersWrongFalsely : Prop := checkNumbersRow.holds Tryz.pinned (OpenSpec.ofChange checkNumbersWrong)

/-- 'stratagemlaw11.CheckValues': WHATEVER THE INPUT: true; the input reads as it did. -/
def checkValuesSpec : ChangeSpec := { name := "checkValues", fn := fun _ => fun
  | [d1, d2] => { results := [.lit (.bool true)], args := [d1, d2] }
  | _ => none }
def checkValuesRow : OpenClaim := { program := "ytdnpmfjfgamaeaagreat", sum := "99189ce7b78979b88679613737acb8237a078203e429bd5f629bd0d3f9f2645e", func := "stratagem/stratagemlaw11.CheckValues", spec := "checkValues", inPlace := ["internal/bytealg.IndexByteString", "internal/bytealg.IndexString", "internal/abi.NoEscape", "internal/bytealg.MakeNoZero"], unfollowed := true, recurses := true, named := ["internal/bytealg.MaxLen"], apart := false }
def CheckValuesSaid : Prop := checkValuesRow.holds Tryz.pinned (OpenSpec.ofChange checkValuesSpec)

/-- ITS FALSE NEIGHBOUR: 'it returns false'. Refute it at one input. -/
def checkValuesWrong : ChangeSpec := { name := "checkValues", fn := fun _ => fun
  | [d1, d2] => { results := [.lit (.bool false)], args := [d1, d2] }
  | _ => none }
def CheckValuesWrongFalsely : Prop := checkValuesRow.holds Tryz.pinned (OpenSpec.ofChange checkValuesWrong)

/-- 'stratagemlaw11.CheckLimits': WHATEVER THE INPUT: true; the input reads as it did. -/
def checkLimitsSpec : ChangeSpec := { name := "checkLimits", fn := fun _ => fun
  | [d1, d2] => { results := [.lit (.bool true)], args := [d1, d2] }
  | _ => none }
def checkLimitsRow : OpenClaim := { program := "ytdnpmfjfgamaeaagreat", sum := "99189ce7b78979b88679613737acb8237a078203e429bd5f629bd0d3f9f2645e", func := "stratagem/stratagemlaw11.CheckLimits", spec := "checkLimits", inPlace := ["internal/bytealg.IndexByteString", "internal/bytealg.IndexString", "internal/abi.NoEscape", "internal/bytealg.MakeNoZero"], unfollowed := true, recurses := true, named := ["internal/bytealg.MaxLen"], apart := false }
def CheckLimitsSaid : Prop := checkLimitsRow.holds Tryz.pinned (OpenSpec.ofChange checkLimitsSpec)

/-- ITS FALSE NEIGHBOUR: 'it returns false'. Refute it at one input. -/
def checkLimitsWrong : ChangeSpec := { name := "checkLimits", fn := fun _ => fun
  | [d1, d2] => { results := [.lit (.bool false)], args := [d1, d2] }
  | _ => none }
def CheckLimitsWrongFalsely : Prop := checkLimitsRow.holds Tryz.pinned (OpenSpec.ofChange checkLimitsWrong)

/-- 'stratagemlaw11.CheckForest': WHATEVER THE INPUT: true; the input reads as it did. -/
def checkForestSpec : ChangeSpec := { name := "checkForest", fn := fun _ => fun
  | [d] => { results := [.lit (.bool true)], args := [d] }
  | _ => none }
def checkForestRow : OpenClaim := { program := "ytdnpmfjfgamaeaagreat", sum := "99189ce7b78979b88679613737acb8237a078203e429bd5f629bd0d3f9f2645e", func := "stratagem/stratagemlaw11.CheckForest", spec := "checkForest", inPlace := ["internal/bytealg.IndexByteString", "internal/bytealg.IndexString", "internal/abi.NoEscape", "internal/bytealg.MakeNoZero"], unfollowed := true, recurses := true, named := ["internal/bytealg.MaxLen"], apart := false }
def CheckForestSaid : Prop := checkForestRow.holds Tryz.pinned (OpenSpec.ofChange checkForestSpec)

/-- ITS FALSE NEIGHBOUR: 'it returns false'. Refute it at one input. -/
def checkForestWrong : ChangeSpec := { name := "checkForest", fn := fun _ => fun
  | [d] => { results := [.lit (.bool false)], args := [d] }
  | _ => none }
def CheckForestWrongFalsely : Prop := checkForestRow.holds Tryz.pinned (OpenSpec.ofChange checkForestWrong)

/- THE SECOND FORM. 'bulk': how many values and letters a reading holds, each counted each time it is reached (what is shared counts as often as it is met; a slice's spare places count too). A statement '..UptoSaid' is the law's where the arguments, and the package variables that the reading takes, are together of bulk at most 1048576: NARROWER than '..Said'. Prove '..Said' where nothing that the law and all that it calls make is longer than what came in: it says more and counts as full. Else prove '..UptoSaid'. A law counts once. -/
mutual
def uptoBulk {H : Type} : DataW H → Nat
  | .lit (.string bytes) => bytes.length + 1
  | .lit _ => 1
  | .nil => 1
  | .ptr d => uptoBulk d + 1
  | .slice elems spare => uptoBulkAll elems + uptoBulkAll spare + 1
  | .agg parts => uptoBulkAll parts + 1
  | .iface _ d => uptoBulk d + 1
  | .map entries => uptoBulkEntries entries + 1
  | .held _ => 1
def uptoBulkAll {H : Type} : List (DataW H) → Nat
  | [] => 0
  | d :: r => uptoBulk d + uptoBulkAll r
def uptoBulkEntries {H : Type} : List (Lit × DataW H) → Nat
  | [] => 0
  | x :: r => uptoBulkEntry x + uptoBulkEntries r
def uptoBulkEntry {H : Type} : Lit × DataW H → Nat
  | (.string bytes, d) => bytes.length + uptoBulk d + 1
  | (_, d) => uptoBulk d + 1
 end
def uptoSmall : (H : Type) → List (DataW H) → Bool := fun _ ds => decide (uptoBulkAll ds ≤ 1048576)
def OpenSpec.upto (s : _root_.Go.ChangeSpec) : _root_.Go.OpenSpec := { _root_.Go.OpenSpec.ofChange s with cond := some uptoSmall }

/-- 'stratagemlaw11.CheckAtoms', WHERE WHAT IT READS IS OF BULK AT MOST 1048576: true; the input reads as it did. -/
def checkAtomsUptoRow : OpenClaim := { program := "ytdnpmfjfgamaeaagreat", sum := "99189ce7b78979b88679613737acb8237a078203e429bd5f629bd0d3f9f2645e", func := "stratagem/stratagemlaw11.CheckAtoms", spec := "checkAtoms", inPlace := ["internal/bytealg.IndexByteString", "internal/bytealg.IndexString", "internal/abi.NoEscape", "internal/bytealg.MakeNoZero"], unfollowed := true, recurses := true, named := ["internal/bytealg.MaxLen"], apart := false, narrowed := true }
def CheckAtomsUptoSaid : Prop := checkAtomsUptoRow.holds Tryz.pinned (OpenSpec.upto checkAtomsSpec)

/-- 'stratagemlaw11.CheckScopes', WHERE WHAT IT READS IS OF BULK AT MOST 1048576: true; the input reads as it did. -/
def checkScopesUptoRow : OpenClaim := { program := "ytdnpmfjfgamaeaagreat", sum := "99189ce7b78979b88679613737acb8237a078203e429bd5f629bd0d3f9f2645e", func := "stratagem/stratagemlaw11.CheckScopes", spec := "checkScopes", inPlace := ["internal/bytealg.IndexByteString", "internal/bytealg.IndexString", "internal/abi.NoEscape", "internal/bytealg.MakeNoZero"], unfollowed := true, recurses := true, named := ["internal/bytealg.MaxLen"], apart := false, narrowed := true }
def CheckScopesUptoSaid : Prop := checkScopesUptoRow.holds Tryz.pinned (OpenSpec.upto checkScopesSpec)

/-- 'stratagemlaw11.CheckTimed', WHERE WHAT IT READS IS OF BULK AT MOST 1048576: true; the input reads as it did. -/
def checkTimedUptoRow : OpenClaim := { program := "ytdnpmfjfgamaeaagreat", sum := "99189ce7b78979b88679613737acb8237a078203e429bd5f629bd0d3f9f2645e", func := "stratagem/stratagemlaw11.CheckTimed", spec := "checkTimed", inPlace := ["internal/bytealg.IndexByteString", "internal/bytealg.IndexString", "internal/abi.NoEscape", "internal/bytealg.MakeNoZero"], unfollowed := true, recurses := true, named := ["internal/bytealg.MaxLen"], apart := false, narrowed := true }
def CheckTimedUptoSaid : Prop := checkTimedUptoRow.holds Tryz.pinned (OpenSpec.upto checkTimedSpec)

/-- 'stratagemlaw11.CheckNumbers', WHERE WHAT IT READS IS OF BULK AT MOST 1048576: true; the input reads as it did. -/
def checkNumbersUptoRow : OpenClaim := { program := "ytdnpmfjfgamaeaagreat", sum := "99189ce7b78979b88679613737acb8237a078203e429bd5f629bd0d3f9f2645e", func := "stratagem/stratagemlaw11.CheckNumbers", spec := "checkNumbers", inPlace := ["internal/bytealg.IndexByteString", "internal/bytealg.IndexString", "internal/abi.NoEscape", "internal/bytealg.MakeNoZero"], unfollowed := true, recurses := true, named := ["internal/bytealg.MaxLen"], apart := false, narrowed := true }
def CheckNumbersUptoSaid : Prop := checkNumbersUptoRow.holds Tryz.pinned (OpenSpec.upto checkNumbersSpec)

/-- 'stratagemlaw11.CheckValues', WHERE WHAT IT READS IS OF BULK AT MOST 1048576: true; the input reads as it did. -/
def checkValuesUptoRow : OpenClaim := { program := "ytdnpmfjfgamaeaagreat", sum := "99189ce7b78979b88679613737acb8237a078203e429bd5f629bd0d3f9f2645e", func := "stratagem/stratagemlaw11.CheckValues", spec := "checkValues", inPlace := ["internal/bytealg.IndexByteString", "internal/bytealg.IndexString", "internal/abi.NoEscape", "internal/bytealg.MakeNoZero"], unfollowed := true, recurses := true, named := ["internal/bytealg.MaxLen"], apart := false, narrowed := true }
def CheckValuesUptoSaid : Prop := checkValuesUptoRow.holds Tryz.pinned (OpenSpec.upto checkValuesSpec)

/-- 'stratagemlaw11.CheckLimits', WHERE WHAT IT READS IS OF BULK AT MOST 1048576: true; the input reads as it did. -/
def checkLimitsUptoRow : OpenClaim := { program := "ytdnpmfjfgamaeaagreat", sum := "99189ce7b78979b88679613737acb8237a078203e429bd5f629bd0d3f9f2645e", func := "stratagem/stratagemlaw11.CheckLimits", spec := "checkLimits", inPlace := ["internal/bytealg.IndexByteString", "internal/bytealg.IndexString", "internal/abi.NoEscape", "internal/bytealg.MakeNoZero"], unfollowed := true, recurses := true, named := ["internal/bytealg.MaxLen"], apart := false, narrowed := true }
def CheckLimitsUptoSaid : Prop := checkLimitsUptoRow.holds Tryz.pinned (OpenSpec.upto checkLimitsSpec)

/-- 'stratagemlaw11.CheckForest', WHERE WHAT IT READS IS OF BULK AT MOST 1048576: true; the input reads as it did. -/
def checkForestUptoRow : OpenClaim := { program := "ytdnpmfjfgamaeaagreat", sum := "99189ce7b78979b88679613737acb8237a078203e429bd5f629bd0d3f9f2645e", func := "stratagem/stratagemlaw11.CheckForest", spec := "checkForest", inPlace := ["internal/bytealg.IndexByteString", "internal/bytealg.IndexString", "internal/abi.NoEscape", "internal/bytealg.MakeNoZero"], unfollowed := true, recurses := true, named := ["internal/bytealg.MaxLen"], apart := false, narrowed := true }
def CheckForestUptoSaid : Prop := checkForestUptoRow.holds Tryz.pinned (OpenSpec.upto checkForestSpec)

end Rows
end Go.Proofs.YtdnpmfjfgamaeaaGreat
