/- What the claim rests on, part 8: the abstract machine, contracts of the functions, plain data. -/
import Derived.Test.YtjeolbgpllbemaaGreatRows
import Derived.WalkKit
import Derived.JoinedOf
import Derived.ProofKit
import Derived.Test.YtjeolbgpllbemaaGreatZp7
set_option linter.unusedVariables false
set_option linter.unusedSimpArgs false
set_option linter.unusedSectionVars false
namespace Go.Proofs.YtjeolbgpllbemaaGreat.problemParts
open Go.ChangeShapes Go.WideShapes Go.ChangeAt Go.RowKit
theorem closed:joinedFacts Tryz.pinned.checked.prog 6 Tryz.f6 Rows.problemPartsSpec Rows.problemPartsRow=true:=by kernel_rfl
theorem named:Tryz.pinned.checked.prog.funcNamed Rows.problemPartsRow.func=some 6:=by kernel_rfl
theorem inst:Tryz.f6.isInstance Tryz.pinned.checked.prog Rows.problemPartsRow.origin Rows.problemPartsRow.targs:=of_decide_eq_true (by kernel_rfl)
theorem wrap:Tryz.f6.isWrapper Tryz.pinned.checked.prog Rows.problemPartsRow.wrapper Rows.problemPartsRow.mainSum:=by unfold Func.isWrapper;first|(rw[if_pos (by decide+kernel)];kernel_rfl)|(rw[if_neg (by decide+kernel)];exact⟨rfl,rfl⟩)
end Go.Proofs.YtjeolbgpllbemaaGreat.problemParts
