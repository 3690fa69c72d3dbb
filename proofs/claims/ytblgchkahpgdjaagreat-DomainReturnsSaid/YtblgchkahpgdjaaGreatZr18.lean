/- What the claim rests on, part 18: the abstract machine, contracts of the functions, plain data. -/
import Derived.Test.YtblgchkahpgdjaaGreatRows
import Derived.WalkKit
import Derived.JoinedOf
import Derived.ProofKit
set_option linter.unusedVariables false
set_option linter.unusedSimpArgs false
set_option linter.unusedSectionVars false
namespace Go.Proofs.YtblgchkahpgdjaaGreat.domainReturns
open Go.Proofs.Tryz
open Go.ChangeShapes Go.WideShapes Go.ChangeAt Go.RowKit
theorem closed:joinedFacts Tryz.pinned.checked.prog 6 Tryz.f6 Rows.domainReturnsSpec Rows.domainReturnsRow=true:=by kernel_rfl
theorem lz:Tryz.pinned.checked.prog.funcNamed Rows.domainReturnsRow.func=some 6:=by kernel_rfl
theorem m8:Tryz.f6.isInstance Tryz.pinned.checked.prog Rows.domainReturnsRow.origin Rows.domainReturnsRow.targs:=of_decide_eq_true (by kernel_rfl)
theorem m9:Tryz.f6.isWrapper Tryz.pinned.checked.prog Rows.domainReturnsRow.wrapper Rows.domainReturnsRow.mainSum:=by unfold Func.isWrapper;first|(rw[if_pos (by decide+kernel)];kernel_rfl)|(rw[if_neg (by decide+kernel)];exact⟨rfl,rfl⟩)
end Go.Proofs.YtblgchkahpgdjaaGreat.domainReturns
