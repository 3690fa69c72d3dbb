/- What the claim rests on, part 8: the abstract machine, contracts of the functions, plain data. -/
import Derived.Test.YtjeolbgpllbemaaGreatRows
import Derived.WalkKit
import Derived.JoinedOf
import Derived.ProofKit
import Derived.Test.YtjeolbgpllbemaaGreatZp7
set_option linter.unusedVariables false
set_option linter.unusedSimpArgs false
set_option linter.unusedSectionVars false
namespace Go.Proofs.YtjeolbgpllbemaaGreat.problemParses
open Go.ChangeShapes Go.WideShapes Go.ChangeAt Go.RowKit
theorem closed:joinedFacts Tryz.pinned.checked.prog 4 Tryz.f4 Rows.problemParsesSpec Rows.problemParsesRow=true:=by kernel_rfl
theorem named:Tryz.pinned.checked.prog.funcNamed Rows.problemParsesRow.func=some 4:=by kernel_rfl
theorem inst:Tryz.f4.isInstance Tryz.pinned.checked.prog Rows.problemParsesRow.origin Rows.problemParsesRow.targs:=of_decide_eq_true (by kernel_rfl)
theorem wrap:Tryz.f4.isWrapper Tryz.pinned.checked.prog Rows.problemParsesRow.wrapper Rows.problemParsesRow.mainSum:=by unfold Func.isWrapper;first|(rw[if_pos (by decide+kernel)];kernel_rfl)|(rw[if_neg (by decide+kernel)];exact⟨rfl,rfl⟩)
end Go.Proofs.YtjeolbgpllbemaaGreat.problemParses
