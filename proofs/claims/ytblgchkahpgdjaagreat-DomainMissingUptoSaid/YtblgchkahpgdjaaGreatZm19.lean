/- What the claim rests on, part 19: the abstract machine, contracts of the functions, plain data. -/
import Derived.Test.YtblgchkahpgdjaaGreatRows
import Derived.WalkKit
import Derived.JoinedOf
import Derived.ProofKit
set_option linter.unusedVariables false
set_option linter.unusedSimpArgs false
set_option linter.unusedSectionVars false
namespace Go.Proofs.YtblgchkahpgdjaaGreat.domainMissing
open Go.Proofs.Tryz
open Go.ChangeShapes Go.WideShapes Go.ChangeAt Go.RowKit
theorem closed:joinedFacts Tryz.pinned.checked.prog 9 Tryz.f9 Rows.domainMissingSpec Rows.domainMissingRow=true:=by kernel_rfl
theorem pI:Tryz.pinned.checked.prog.funcNamed Rows.domainMissingRow.func=some 9:=by kernel_rfl
theorem pJ:Tryz.f9.isInstance Tryz.pinned.checked.prog Rows.domainMissingRow.origin Rows.domainMissingRow.targs:=of_decide_eq_true (by kernel_rfl)
theorem pK:Tryz.f9.isWrapper Tryz.pinned.checked.prog Rows.domainMissingRow.wrapper Rows.domainMissingRow.mainSum:=by unfold Func.isWrapper;first|(rw[if_pos (by decide+kernel)];kernel_rfl)|(rw[if_neg (by decide+kernel)];exact⟨rfl,rfl⟩)
end Go.Proofs.YtblgchkahpgdjaaGreat.domainMissing
