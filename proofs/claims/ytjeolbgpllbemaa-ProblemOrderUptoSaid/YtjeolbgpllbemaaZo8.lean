/- What the claim rests on, part 8: the abstract machine, contracts of the functions, plain data. -/
import Derived.Test.YtjeolbgpllbemaaRows
import Derived.WalkKit
import Derived.JoinedOf
import Derived.ProofKit
import Derived.Test.YtjeolbgpllbemaaZo7
set_option linter.unusedVariables false
set_option linter.unusedSimpArgs false
set_option linter.unusedSectionVars false
namespace Go.Proofs.Ytjeolbgpllbemaa.problemOrder
open Go.ChangeShapes Go.WideShapes Go.ChangeAt Go.RowKit
theorem closed:joinedFacts Try.pinned.checked.prog 3 Try.f3 Rows.problemOrderSpec Rows.problemOrderRow=true:=by kernel_rfl
theorem named:Try.pinned.checked.prog.funcNamed Rows.problemOrderRow.func=some 3:=by kernel_rfl
theorem inst:Try.f3.isInstance Try.pinned.checked.prog Rows.problemOrderRow.origin Rows.problemOrderRow.targs:=of_decide_eq_true (by kernel_rfl)
theorem wrap:Try.f3.isWrapper Try.pinned.checked.prog Rows.problemOrderRow.wrapper Rows.problemOrderRow.mainSum:=by unfold Func.isWrapper;first|(rw[if_pos (by decide+kernel)];kernel_rfl)|(rw[if_neg (by decide+kernel)];exact⟨rfl,rfl⟩)
end Go.Proofs.Ytjeolbgpllbemaa.problemOrder
