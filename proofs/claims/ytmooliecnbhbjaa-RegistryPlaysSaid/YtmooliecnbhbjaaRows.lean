/-
  No cell of these rows narrows 'for every input' (looked for: loops, veiled, ifaces, maps, wideKeys, modest, calm, conditions, laid).
  DERIVED. THE GIVEN ROWS OF THIS SEAT. 13 by the template 'for every input the law returns true; each argument reads behind the call as it read before'; 0 by the template 'total and deterministic' (their statements: YtmooliecnbhbjaaTotals.lean).
  GIVEN WITH THE SEED: the statements are not yours to turn. If you find one false, say at which input.
  Laid BY PROGRAM, IN A SANDBOX (cutbox-rows.mjs): the forced cells as the released guide's own fill.sh prints them over the translation 1d874039d629e1c6… (all of the seat's roots in one cut). By AI agents, Wed Nov 11 2026. No macro, syntax, notation, axiom, sorry.
-/
import Derived.Test.YtmooliecnbhbjaaChecked
import GoSem.Claim
import GoSem.ClaimJoined
import GoSem.ClaimMapViews
import Derived.JoinedTies
import Derived.KernelRfl
namespace Go.Proofs.Ytmooliecnbhbjaa
/- THE CELL 'sum', in the pinned program and in every row, IS THE sha256 OF THE DUMP (.gsa) THAT YtmooliecnbhbjaaProg.lean LOADS. Nothing in Lean hashes anything: it is a label: what it is worth is what the hold of that sum in a sandbox is worth. -/
noncomputable def Try.pinned : Pinned := { name := "ytmooliecnbhbjaa", sum := "1d874039d629e1c610a800e25121a772342a6ba9ff667305a4f1fe798b479a6e", checked := Try.checked }
namespace Rows
def none {H : Type} : Left H := { results := [], args := [] }

/-- 'stratagemlaw22.PackStates': WHATEVER THE INPUT: true; the input reads as it did. -/
def packStatesSpec : ChangeSpec := { name := "packStates", fn := fun _ => fun
  | [d1, d2] => { results := [.lit (.bool true)], args := [d1, d2] }
  | _ => none }
def packStatesRow : OpenClaim := { program := "ytmooliecnbhbjaa", sum := "1d874039d629e1c610a800e25121a772342a6ba9ff667305a4f1fe798b479a6e", func := "stratagem/stratagemlaw22.PackStates", spec := "packStates", apart := false }
def PackStatesSaid : Prop := packStatesRow.holds Try.pinned (OpenSpec.ofChange packStatesSpec)

/-- ITS FALSE NEIGHBOUR: 'it returns false'. Refute it at one input. -/
def packStatesWrong : ChangeSpec := { name := "packStates", fn := fun _ => fun
  | [d1, d2] => { results := [.lit (.bool false)], args := [d1, d2] }
  | _ => none }
def PackStatesWrongFalsely : Prop := packStatesRow.holds Try.pinned (OpenSpec.ofChange packStatesWrong)

/-- 'stratagemlaw22.PackPlaces': WHATEVER THE INPUT: true; the input reads as it did. -/
def packPlacesSpec : ChangeSpec := { name := "packPlaces", fn := fun _ => fun
  | [d1, d2] => { results := [.lit (.bool true)], args := [d1, d2] }
  | _ => none }
def packPlacesRow : OpenClaim := { program := "ytmooliecnbhbjaa", sum := "1d874039d629e1c610a800e25121a772342a6ba9ff667305a4f1fe798b479a6e", func := "stratagem/stratagemlaw22.PackPlaces", spec := "packPlaces", apart := false }
def PackPlacesSaid : Prop := packPlacesRow.holds Try.pinned (OpenSpec.ofChange packPlacesSpec)

/-- ITS FALSE NEIGHBOUR: 'it returns false'. Refute it at one input. -/
def packPlacesWrong : ChangeSpec := { name := "packPlaces", fn := fun _ => fun
  | [d1, d2] => { results := [.lit (.bool false)], args := [d1, d2] }
  | _ => none }
def PackPlacesWrongFalsely : Prop := packPlacesRow.holds Try.pinned (OpenSpec.ofChange packPlacesWrong)

/-- 'stratagemlaw22.PackWords': WHATEVER THE INPUT: true; the input reads as it did. -/
def packWordsSpec : ChangeSpec := { name := "packWords", fn := fun _ => fun
  | [d1, d2] => { results := [.lit (.bool true)], args := [d1, d2] }
  | _ => none }
def packWordsRow : OpenClaim := { program := "ytmooliecnbhbjaa", sum := "1d874039d629e1c610a800e25121a772342a6ba9ff667305a4f1fe798b479a6e", func := "stratagem/stratagemlaw22.PackWords", spec := "packWords", apart := false }
def PackWordsSaid : Prop := packWordsRow.holds Try.pinned (OpenSpec.ofChange packWordsSpec)

/-- ITS FALSE NEIGHBOUR: 'it returns false'. Refute it at one input. -/
def packWordsWrong : ChangeSpec := { name := "packWords", fn := fun _ => fun
  | [d1, d2] => { results := [.lit (.bool false)], args := [d1, d2] }
  | _ => none }
def PackWordsWrongFalsely : Prop := packWordsRow.holds Try.pinned (OpenSpec.ofChange packWordsWrong)

/-- 'stratagemlaw22.PackFields': WHATEVER THE INPUT: true; the input reads as it did. -/
def packFieldsSpec : ChangeSpec := { name := "packFields", fn := fun _ => fun
  | [d1, d2, d3] => { results := [.lit (.bool true)], args := [d1, d2, d3] }
  | _ => none }
def packFieldsRow : OpenClaim := { program := "ytmooliecnbhbjaa", sum := "1d874039d629e1c610a800e25121a772342a6ba9ff667305a4f1fe798b479a6e", func := "stratagem/stratagemlaw22.PackFields", spec := "packFields", apart := false }
def PackFieldsSaid : Prop := packFieldsRow.holds Try.pinned (OpenSpec.ofChange packFieldsSpec)

/-- ITS FALSE NEIGHBOUR: 'it returns false'. Refute it at one input. -/
def packFieldsWrong : ChangeSpec := { name := "packFields", fn := fun _ => fun
  | [d1, d2, d3] => { results := [.lit (.bool false)], args := [d1, d2, d3] }
  | _ => none }
def PackFieldsWrongFalsely : Prop := packFieldsRow.holds Try.pinned (OpenSpec.ofChange packFieldsWrong)

/-- 'stratagemlaw22.PackChanges': WHATEVER THE INPUT: true; the input reads as it did. -/
def packChangesSpec : ChangeSpec := { name := "packChanges", fn := fun _ => fun
  | [d1, d2, d3] => { results := [.lit (.bool true)], args := [d1, d2, d3] }
  | _ => none }
def packChangesRow : OpenClaim := { program := "ytmooliecnbhbjaa", sum := "1d874039d629e1c610a800e25121a772342a6ba9ff667305a4f1fe798b479a6e", func := "stratagem/stratagemlaw22.PackChanges", spec := "packChanges", apart := false }
def PackChangesSaid : Prop := packChangesRow.holds Try.pinned (OpenSpec.ofChange packChangesSpec)

/-- ITS FALSE NEIGHBOUR: 'it returns false'. Refute it at one input. -/
def packChangesWrong : ChangeSpec := { name := "packChanges", fn := fun _ => fun
  | [d1, d2, d3] => { results := [.lit (.bool false)], args := [d1, d2, d3] }
  | _ => none }
def PackChangesWrongFalsely : Prop := packChangesRow.holds Try.pinned (OpenSpec.ofChange packChangesWrong)

/-- 'stratagemlaw22.PackBack': WHATEVER THE INPUT: true; the input reads as it did. -/
def packBackSpec : ChangeSpec := { name := "packBack", fn := fun _ => fun
  | [d1, d2, d3] => { results := [.lit (.bool true)], args := [d1, d2, d3] }
  | _ => none }
def packBackRow : OpenClaim := { program := "ytmooliecnbhbjaa", sum := "1d874039d629e1c610a800e25121a772342a6ba9ff667305a4f1fe798b479a6e", func := "stratagem/stratagemlaw22.PackBack", spec := "packBack", apart := false }
def PackBackSaid : Prop := packBackRow.holds Try.pinned (OpenSpec.ofChange packBackSpec)

/-- ITS FALSE NEIGHBOUR: 'it returns false'. Refute it at one input. -/
def packBackWrong : ChangeSpec := { name := "packBack", fn := fun _ => fun
  | [d1, d2, d3] => { results := [.lit (.bool false)], args := [d1, d2, d3] }
  | _ => none }
def PackBackWrongFalsely : Prop := packBackRow.holds Try.pinned (OpenSpec.ofChange packBackWrong)

/-- 'stratagemlaw23.RegistryFull': WHATEVER THE INPUT: true; the input reads as it did. -/
def registryFullSpec : ChangeSpec := { name := "registryFull", fn := fun _ => fun
  | [d] => { results := [.lit (.bool true)], args := [d] }
  | _ => none }
def registryFullRow : OpenClaim := { program := "ytmooliecnbhbjaa", sum := "1d874039d629e1c610a800e25121a772342a6ba9ff667305a4f1fe798b479a6e", func := "stratagem/stratagemlaw23.RegistryFull", spec := "registryFull", apart := false }
def RegistryFullSaid : Prop := registryFullRow.holds Try.pinned (OpenSpec.ofChange registryFullSpec)

/-- ITS FALSE NEIGHBOUR: 'it returns false'. Refute it at one input. -/
def registryFullWrong : ChangeSpec := { name := "registryFull", fn := fun _ => fun
  | [d] => { results := [.lit (.bool false)], args := [d] }
  | _ => none }
def RegistryFullWrongFalsely : Prop := registryFullRow.holds Try.pinned (OpenSpec.ofChange registryFullWrong)

/-- 'stratagemlaw23.RegistryIds': WHATEVER THE INPUT: true; the input reads as it did. -/
def registryIdsSpec : ChangeSpec := { name := "registryIds", fn := fun _ => fun
  | [d1, d2] => { results := [.lit (.bool true)], args := [d1, d2] }
  | _ => none }
def registryIdsRow : OpenClaim := { program := "ytmooliecnbhbjaa", sum := "1d874039d629e1c610a800e25121a772342a6ba9ff667305a4f1fe798b479a6e", func := "stratagem/stratagemlaw23.RegistryIds", spec := "registryIds", apart := false }
def RegistryIdsSaid : Prop := registryIdsRow.holds Try.pinned (OpenSpec.ofChange registryIdsSpec)

/-- ITS FALSE NEIGHBOUR: 'it returns false'. Refute it at one input. -/
def registryIdsWrong : ChangeSpec := { name := "registryIds", fn := fun _ => fun
  | [d1, d2] => { results := [.lit (.bool false)], args := [d1, d2] }
  | _ => none }
def RegistryIdsWrongFalsely : Prop := registryIdsRow.holds Try.pinned (OpenSpec.ofChange registryIdsWrong)

/-- 'stratagemlaw22.PackNil': WHATEVER THE INPUT: true; the input reads as it did. -/
def packNilSpec : ChangeSpec := { name := "packNil", fn := fun _ => fun
  | [d1, d2, d3] => { results := [.lit (.bool true)], args := [d1, d2, d3] }
  | _ => none }
def packNilRow : OpenClaim := { program := "ytmooliecnbhbjaa", sum := "1d874039d629e1c610a800e25121a772342a6ba9ff667305a4f1fe798b479a6e", func := "stratagem/stratagemlaw22.PackNil", spec := "packNil", apart := false }
def PackNilSaid : Prop := packNilRow.holds Try.pinned (OpenSpec.ofChange packNilSpec)

/-- ITS FALSE NEIGHBOUR: 'it returns false'. Refute it at one input. -/
def packNilWrong : ChangeSpec := { name := "packNil", fn := fun _ => fun
  | [d1, d2, d3] => { results := [.lit (.bool false)], args := [d1, d2, d3] }
  | _ => none }
def PackNilWrongFalsely : Prop := packNilRow.holds Try.pinned (OpenSpec.ofChange packNilWrong)

/-- 'stratagemlaw23.RegistryPaths': WHATEVER THE INPUT: true; the input reads as it did. -/
def registryPathsSpec : ChangeSpec := { name := "registryPaths", fn := fun _ => fun
  | [d1, d2] => { results := [.lit (.bool true)], args := [d1, d2] }
  | _ => none }
def registryPathsRow : OpenClaim := { program := "ytmooliecnbhbjaa", sum := "1d874039d629e1c610a800e25121a772342a6ba9ff667305a4f1fe798b479a6e", func := "stratagem/stratagemlaw23.RegistryPaths", spec := "registryPaths", apart := false }
def RegistryPathsSaid : Prop := registryPathsRow.holds Try.pinned (OpenSpec.ofChange registryPathsSpec)

/-- ITS FALSE NEIGHBOUR: 'it returns false'. Refute it at one input. -/
def registryPathsWrong : ChangeSpec := { name := "registryPaths", fn := fun _ => fun
  | [d1, d2] => { results := [.lit (.bool false)], args := [d1, d2] }
  | _ => none }
def RegistryPathsWrongFalsely : Prop := registryPathsRow.holds Try.pinned (OpenSpec.ofChange registryPathsWrong)

/-- 'stratagemlaw23.RegistryCycles': WHATEVER THE INPUT: true; the input reads as it did. -/
def registryCyclesSpec : ChangeSpec := { name := "registryCycles", fn := fun _ => fun
  | [d1, d2] => { results := [.lit (.bool true)], args := [d1, d2] }
  | _ => none }
def registryCyclesRow : OpenClaim := { program := "ytmooliecnbhbjaa", sum := "1d874039d629e1c610a800e25121a772342a6ba9ff667305a4f1fe798b479a6e", func := "stratagem/stratagemlaw23.RegistryCycles", spec := "registryCycles", apart := false }
def RegistryCyclesSaid : Prop := registryCyclesRow.holds Try.pinned (OpenSpec.ofChange registryCyclesSpec)

/-- ITS FALSE NEIGHBOUR: 'it returns false'. Refute it at one input. -/
def registryCyclesWrong : ChangeSpec := { name := "registryCycles", fn := fun _ => fun
  | [d1, d2] => { results := [.lit (.bool false)], args := [d1, d2] }
  | _ => none }
def RegistryCyclesWrongFalsely : Prop := registryCyclesRow.holds Try.pinned (OpenSpec.ofChange registryCyclesWrong)

/-- 'stratagemlaw23.RegistryPlays': WHATEVER THE INPUT: true; the input reads as it did. -/
def registryPlaysSpec : ChangeSpec := { name := "registryPlays", fn := fun _ => fun
  | [d1, d2] => { results := [.lit (.bool true)], args := [d1, d2] }
  | _ => none }
def registryPlaysRow : OpenClaim := { program := "ytmooliecnbhbjaa", sum := "1d874039d629e1c610a800e25121a772342a6ba9ff667305a4f1fe798b479a6e", func := "stratagem/stratagemlaw23.RegistryPlays", spec := "registryPlays", apart := false }
def RegistryPlaysSaid : Prop := registryPlaysRow.holds Try.pinned (OpenSpec.ofChange registryPlaysSpec)

/-- ITS FALSE NEIGHBOUR: 'it returns false'. Refute it at one input. -/
def registryPlaysWrong : ChangeSpec := { name := "registryPlays", fn := fun _ => fun
  | [d1, d2] => { results := [.lit (.bool false)], args := [d1, d2] }
  | _ => none }
def RegistryPlaysWrongFalsely : Prop := registryPlaysRow.holds Try.pinned (OpenSpec.ofChange registryPlaysWrong)

/-- 'stratagemlaw23.RegistryNil': WHATEVER THE INPUT: true; the input reads as it did. -/
def registryNilSpec : ChangeSpec := { name := "registryNil", fn := fun _ => fun
  | [d1, d2, d3] => { results := [.lit (.bool true)], args := [d1, d2, d3] }
  | _ => none }
def registryNilRow : OpenClaim := { program := "ytmooliecnbhbjaa", sum := "1d874039d629e1c610a800e25121a772342a6ba9ff667305a4f1fe798b479a6e", func := "stratagem/stratagemlaw23.RegistryNil", spec := "registryNil", apart := false }
def RegistryNilSaid : Prop := registryNilRow.holds Try.pinned (OpenSpec.ofChange registryNilSpec)

/-- ITS FALSE NEIGHBOUR: 'it returns false'. Refute it at one input. -/
def registryNilWrong : ChangeSpec := { name := "registryNil", fn := fun _ => fun
  | [d1, d2, d3] => { results := [.lit (.bool false)], args := [d1, d2, d3] }
  | _ => none }
def RegistryNilWrongFalsely : Prop := registryNilRow.holds Try.pinned (OpenSpec.ofChange registryNilWrong)

/- THE SECOND FORM. 'bulk': how many values and letters a reading holds, each counted each time it is reached (what is shared counts as often as it is met; a slice's spare places count too). A statement '..UptoSaid' is the law's where the arguments, and the package variables that the reading takes, are together of bulk at most 1048576: NARROWER than '..Said'. Prove '..Said' where nothing that the law and all that it calls make is longer than what came in: it says more and counts as full. Else prove '..UptoSaid'. A law counts once. -/
mutual
def uptoBulk {H : Type} : DataW H → Nat
  | .lit (.string bytes) => bytes.length + 1
  | .lit _ => 1
  | .nil => 1
  | .ptr d => uptoBulk d + 1
  | .slice elems spare => uptoBulkAll elems + uptoBulkAll spare + 1
  | .agg parts => uptoBulkAll parts + 1
  | .iface _ d => uptoBulk d + 1
  | .map entries => uptoBulkEntries entries + 1
  | .held _ => 1
def uptoBulkAll {H : Type} : List (DataW H) → Nat
  | [] => 0
  | d :: r => uptoBulk d + uptoBulkAll r
def uptoBulkEntries {H : Type} : List (Lit × DataW H) → Nat
  | [] => 0
  | x :: r => uptoBulkEntry x + uptoBulkEntries r
def uptoBulkEntry {H : Type} : Lit × DataW H → Nat
  | (.string bytes, d) => bytes.length + uptoBulk d + 1
  | (_, d) => uptoBulk d + 1
 end
def uptoSmall : (H : Type) → List (DataW H) → Bool := fun _ ds => decide (uptoBulkAll ds ≤ 1048576)
def OpenSpec.upto (s : _root_.Go.ChangeSpec) : _root_.Go.OpenSpec := { _root_.Go.OpenSpec.ofChange s with cond := some uptoSmall }

/-- 'stratagemlaw22.PackStates', WHERE WHAT IT READS IS OF BULK AT MOST 1048576: true; the input reads as it did. -/
def packStatesUptoRow : OpenClaim := { program := "ytmooliecnbhbjaa", sum := "1d874039d629e1c610a800e25121a772342a6ba9ff667305a4f1fe798b479a6e", func := "stratagem/stratagemlaw22.PackStates", spec := "packStates", apart := false, narrowed := true }
def PackStatesUptoSaid : Prop := packStatesUptoRow.holds Try.pinned (OpenSpec.upto packStatesSpec)

/-- 'stratagemlaw22.PackPlaces', WHERE WHAT IT READS IS OF BULK AT MOST 1048576: true; the input reads as it did. -/
def packPlacesUptoRow : OpenClaim := { program := "ytmooliecnbhbjaa", sum := "1d874039d629e1c610a800e25121a772342a6ba9ff667305a4f1fe798b479a6e", func := "stratagem/stratagemlaw22.PackPlaces", spec := "packPlaces", apart := false, narrowed := true }
def PackPlacesUptoSaid : Prop := packPlacesUptoRow.holds Try.pinned (OpenSpec.upto packPlacesSpec)

/-- 'stratagemlaw22.PackWords', WHERE WHAT IT READS IS OF BULK AT MOST 1048576: true; the input reads as it did. -/
def packWordsUptoRow : OpenClaim := { program := "ytmooliecnbhbjaa", sum := "1d874039d629e1c610a800e25121a772342a6ba9ff667305a4f1fe798b479a6e", func := "stratagem/stratagemlaw22.PackWords", spec := "packWords", apart := false, narrowed := true }
def PackWordsUptoSaid : Prop := packWordsUptoRow.holds Try.pinned (OpenSpec.upto packWordsSpec)

/-- 'stratagemlaw22.PackFields', WHERE WHAT IT READS IS OF BULK AT MOST 1048576: true; the input reads as it did. -/
def packFieldsUptoRow : OpenClaim := { program := "ytmooliecnbhbjaa", sum := "1d874039d629e1c610a800e25121a772342a6ba9ff667305a4f1fe798b479a6e", func := "stratagem/stratagemlaw22.PackFields", spec := "packFields", apart := false, narrowed := true }
def PackFieldsUptoSaid : Prop := packFieldsUptoRow.holds Try.pinned (OpenSpec.upto packFieldsSpec)

/-- 'stratagemlaw22.PackChanges', WHERE WHAT IT READS IS OF BULK AT MOST 1048576: true; the input reads as it did. -/
def packChangesUptoRow : OpenClaim := { program := "ytmooliecnbhbjaa", sum := "1d874039d629e1c610a800e25121a772342a6ba9ff667305a4f1fe798b479a6e", func := "stratagem/stratagemlaw22.PackChanges", spec := "packChanges", apart := false, narrowed := true }
def PackChangesUptoSaid : Prop := packChangesUptoRow.holds Try.pinned (OpenSpec.upto packChangesSpec)

/-- 'stratagemlaw22.PackBack', WHERE WHAT IT READS IS OF BULK AT MOST 1048576: true; the input reads as it did. -/
def packBackUptoRow : OpenClaim := { program := "ytmooliecnbhbjaa", sum := "1d874039d629e1c610a800e25121a772342a6ba9ff667305a4f1fe798b479a6e", func := "stratagem/stratagemlaw22.PackBack", spec := "packBack", apart := false, narrowed := true }
def PackBackUptoSaid : Prop := packBackUptoRow.holds Try.pinned (OpenSpec.upto packBackSpec)

/-- 'stratagemlaw23.RegistryFull', WHERE WHAT IT READS IS OF BULK AT MOST 1048576: true; the input reads as it did. -/
def registryFullUptoRow : OpenClaim := { program := "ytmooliecnbhbjaa", sum := "1d874039d629e1c610a800e25121a772342a6ba9ff667305a4f1fe798b479a6e", func := "stratagem/stratagemlaw23.RegistryFull", spec := "registryFull", apart := false, narrowed := true }
def RegistryFullUptoSaid : Prop := registryFullUptoRow.holds Try.pinned (OpenSpec.upto registryFullSpec)

/-- 'stratagemlaw23.RegistryIds', WHERE WHAT IT READS IS OF BULK AT MOST 1048576: true; the input reads as it did. -/
def registryIdsUptoRow : OpenClaim := { program := "ytmooliecnbhbjaa", sum := "1d874039d629e1c610a800e25121a772342a6ba9ff667305a4f1fe798b479a6e", func := "stratagem/stratagemlaw23.RegistryIds", spec := "registryIds", apart := false, narrowed := true }
def RegistryIdsUptoSaid : Prop := registryIdsUptoRow.holds Try.pinned (OpenSpec.upto registryIdsSpec)

/-- 'stratagemlaw22.PackNil', WHERE WHAT IT READS IS OF BULK AT MOST 1048576: true; the input reads as it did. -/
def packNilUptoRow : OpenClaim := { program := "ytmooliecnbhbjaa", sum := "1d874039d629e1c610a800e25121a772342a6ba9ff667305a4f1fe798b479a6e", func := "stratagem/stratagemlaw22.PackNil", spec := "packNil", apart := false, narrowed := true }
def PackNilUptoSaid : Prop := packNilUptoRow.holds Try.pinned (OpenSpec.upto packNilSpec)

/-- 'stratagemlaw23.RegistryPaths', WHERE WHAT IT READS IS OF BULK AT MOST 1048576: true; the input reads as it did. -/
def registryPathsUptoRow : OpenClaim := { program := "ytmooliecnbhbjaa", sum := "1d874039d629e1c610a800e25121a772342a6ba9ff667305a4f1fe798b479a6e", func := "stratagem/stratagemlaw23.RegistryPaths", spec := "registryPaths", apart := false, narrowed := true }
def RegistryPathsUptoSaid : Prop := registryPathsUptoRow.holds Try.pinned (OpenSpec.upto registryPathsSpec)

/-- 'stratagemlaw23.RegistryCycles', WHERE WHAT IT READS IS OF BULK AT MOST 1048576: true; the input reads as it did. -/
def registryCyclesUptoRow : OpenClaim := { program := "ytmooliecnbhbjaa", sum := "1d874039d629e1c610a800e25121a772342a6ba9ff667305a4f1fe798b479a6e", func := "stratagem/stratagemlaw23.RegistryCycles", spec := "registryCycles", apart := false, narrowed := true }
def RegistryCyclesUptoSaid : Prop := registryCyclesUptoRow.holds Try.pinned (OpenSpec.upto registryCyclesSpec)

/-- 'stratagemlaw23.RegistryPlays', WHERE WHAT IT READS IS OF BULK AT MOST 1048576: true; the input reads as it did. -/
def registryPlaysUptoRow : OpenClaim := { program := "ytmooliecnbhbjaa", sum := "1d874039d629e1c610a800e25121a772342a6ba9ff667305a4f1fe798b479a6e", func := "stratagem/stratagemlaw23.RegistryPlays", spec := "registryPlays", apart := false, narrowed := true }
def RegistryPlaysUptoSaid : Prop := registryPlaysUptoRow.holds Try.pinned (OpenSpec.upto registryPlaysSpec)

/-- 'stratagemlaw23.RegistryNil', WHERE WHAT IT READS IS OF BULK AT MOST 1048576: true; the input reads as it did. -/
def registryNilUptoRow : OpenClaim := { program := "ytmooliecnbhbjaa", sum := "1d874039d629e1c610a800e25121a772342a6ba9ff667305a4f1fe798b479a6e", func := "stratagem/stratagemlaw23.RegistryNil", spec := "registryNil", apart := false, narrowed := true }
def RegistryNilUptoSaid : Prop := registryNilUptoRow.holds Try.pinned (OpenSpec.upto registryNilSpec)

end Rows
end Go.Proofs.Ytmooliecnbhbjaa
