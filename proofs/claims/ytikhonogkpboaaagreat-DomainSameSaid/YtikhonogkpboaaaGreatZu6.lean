/- What the claim rests on, part 6: the abstract machine, contracts of the functions, plain data. -/
import Derived.Test.YtikhonogkpboaaaGreatRows
import Derived.WalkKit
import Derived.JoinedOf
import Derived.ProofKit
import Derived.Test.YtikhonogkpboaaaGreatZu5
set_option linter.unusedVariables false
set_option linter.unusedSimpArgs false
set_option linter.unusedSectionVars false
namespace Go.Proofs.YtikhonogkpboaaaGreat.domainSame
open Go.ChangeShapes Go.WideShapes Go.ChangeAt Go.RowKit
theorem jf0 : (Rows.domainSameRow.wf (OpenSpec.ofChange Rows.domainSameSpec)) = true := by kernel_rfl
theorem jf1 : (laidOutB Tryz.pinned.checked.prog) = true := by kernel_rfl
theorem jf2 : (mapsRowed Tryz.pinned.checked.prog) = true := by kernel_rfl
theorem jf3 : (Tryz.f3.params.all (Tryz.pinned.checked.prog.readableRec ·)) = true := by kernel_rfl
theorem jf4 : (namedTie Tryz.pinned.checked.prog Rows.domainSameRow.named Rows.domainSameSpec.vars) = true := by kernel_rfl
theorem jf5 : ((Rows.domainSameRow.stops == [])) = true := by kernel_rfl
theorem jf6 : ((Tryz.pinned.checked.prog.stops == [])) = true := by kernel_rfl
theorem jf7 : ((Rows.domainSameRow.knobs == [])) = true := by kernel_rfl
theorem jf8 : ((Tryz.pinned.checked.prog.stopKnobs == [])) = true := by kernel_rfl
theorem jf9 : ((Rows.domainSameRow.inPlace == Tryz.pinned.checked.prog.inPlace 3)) = true := by kernel_rfl
theorem jf10 : ((Rows.domainSameRow.unfollowed == Tryz.pinned.checked.prog.unfollowed 3)) = true := by kernel_rfl
theorem jf11 : ((Rows.domainSameRow.recurses == Tryz.pinned.checked.prog.recurses 3)) = true := by kernel_rfl
theorem jf12 : ((Rows.domainSameRow.named == Tryz.pinned.checked.prog.varsNamed 3)) = true := by kernel_rfl
theorem jf13 : ((Rows.domainSameRow.maps == (Tryz.f3.params.toList ++ Rows.domainSameSpec.plain.varTypes Tryz.pinned.checked.prog).any (Tryz.pinned.checked.prog.mapsRec ·))) = true := by kernel_rfl
theorem jf14 : ((Rows.domainSameRow.ifaces == (Tryz.f3.params.toList ++ Rows.domainSameSpec.plain.varTypes Tryz.pinned.checked.prog).any (Tryz.pinned.checked.prog.ifacesRec ·))) = true := by kernel_rfl
theorem jf15 : ((Rows.domainSameRow.mapsOut == Tryz.pinned.checked.prog.mapsAmong Tryz.f3.resultTypes.toList)) = true := by kernel_rfl
theorem jf16 : ((Rows.domainSameRow.loops == (Tryz.f3.params.toList ++ Rows.domainSameSpec.plain.varTypes Tryz.pinned.checked.prog).any (Tryz.pinned.checked.prog.loopsFrom ·))) = true := by kernel_rfl
theorem jf17 : ((Rows.domainSameRow.wideKeys == (Tryz.f3.params.toList ++ Rows.domainSameSpec.plain.varTypes Tryz.pinned.checked.prog ++ Tryz.f3.resultTypes.toList).any (Tryz.pinned.checked.prog.wideKeysFrom ·))) = true := by kernel_rfl
theorem jf18 : (Rows.domainSameSpec.vars.all (Tryz.pinned.checked.prog.varReadable ·)) = true := by kernel_rfl
theorem jf19 : (Tryz.f3.resultTypes.all (fun t => Tryz.pinned.checked.prog.readableRec t && decide (t < Tryz.pinned.checked.prog.types.size))) = true := by kernel_rfl
theorem jf20 : ((Rows.domainSameRow.ifacesOut == Tryz.f3.resultTypes.toList.any (Tryz.pinned.checked.prog.ifacesRec ·))) = true := by kernel_rfl
theorem jf21 : ((Rows.domainSameRow.loopsOut == Tryz.f3.resultTypes.toList.any (Tryz.pinned.checked.prog.loopsFrom ·))) = true := by kernel_rfl
theorem jf22 : ((Rows.domainSameRow.plainKeys == Tryz.pinned.checked.prog.plainKeys)) = true := by kernel_rfl
theorem jf23 : (Rows.domainSameRow.shortTexts.isNone) = true := by kernel_rfl
theorem jf24 : (Tryz.pinned.checked.prog.stopsHeard) = true := by kernel_rfl
theorem jf25 : (Tryz.pinned.checked.prog.mayEnter) = true := by kernel_rfl
theorem jf26 : ((Rows.domainSameRow.lifted == Tryz.pinned.checked.prog.liftsFinal)) = true := by kernel_rfl
theorem jf27 : ((Tryz.pinned.checked.prog.make == some Rows.domainSameRow.make)) = true := by kernel_rfl
theorem jf28 : ((Rows.domainSameRow.kinds == (if Rows.domainSameRow.domain.isEmpty then [] else Tryz.f3.params.toList.map fun t => match Tryz.pinned.checked.prog.underlying t with | some (.int k) => some k | _ => none))) = true := by kernel_rfl
theorem jf29 : ((Rows.domainSameRow.pinned == Rows.domainSameRow.pinnedBy)) = true := by kernel_rfl
theorem jf30 : ((Rows.domainSameRow.veiled == (Tryz.f3.params.toList ++ Rows.domainSameSpec.plain.varTypes Tryz.pinned.checked.prog ++ Tryz.f3.resultTypes.toList).any (Tryz.pinned.checked.prog.veiledRec ·))) = true := by kernel_rfl
theorem jf31 : (Rows.domainSameRow.veiledFits Tryz.pinned.checked.prog Tryz.f3.params.toList (Tryz.f3.params.toList ++ Rows.domainSameSpec.plain.varTypes Tryz.pinned.checked.prog ++ Tryz.f3.resultTypes.toList)) = true := by kernel_rfl
theorem jand {a b : Bool} (h1 : a = true) (h2 : b = true) : (a && b) = true := by rw [h1, h2]; rfl
set_option maxRecDepth 100000 in
theorem closed : joinedFacts Tryz.pinned.checked.prog 3 Tryz.f3 Rows.domainSameSpec Rows.domainSameRow = true := by
  unfold joinedFacts
  exact (jand (jand (jand (jand (jand (jand (jand (jand (jand (jand (jand (jand (jand (jand (jand (jand (jand (jand (jand (jand (jand (jand (jand (jand (jand (jand (jand (jand (jand (jand (jand jf0 jf1) jf2) jf3) jf4) jf5) jf6) jf7) jf8) jf9) jf10) jf11) jf12) jf13) jf14) jf15) jf16) jf17) jf18) jf19) jf20) jf21) jf22) jf23) jf24) jf25) jf26) jf27) jf28) jf29) jf30) jf31)
theorem named : Tryz.pinned.checked.prog.funcNamed Rows.domainSameRow.func = some 3 := by kernel_rfl
theorem inst : Tryz.f3.isInstance Tryz.pinned.checked.prog Rows.domainSameRow.origin Rows.domainSameRow.targs := of_decide_eq_true (by kernel_rfl)
theorem wrap : Tryz.f3.isWrapper Tryz.pinned.checked.prog Rows.domainSameRow.wrapper Rows.domainSameRow.mainSum := by unfold Func.isWrapper; first | (rw [if_pos (by decide +kernel)]; kernel_rfl) | (rw [if_neg (by decide +kernel)]; exact ⟨rfl, rfl⟩)
end Go.Proofs.YtikhonogkpboaaaGreat.domainSame
