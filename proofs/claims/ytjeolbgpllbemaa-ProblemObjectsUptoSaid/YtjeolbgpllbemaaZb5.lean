/- What the claim rests on, part 5: the abstract machine, contracts of the functions, plain data. -/
import Derived.Test.YtjeolbgpllbemaaRows
import Derived.WalkKit
import Derived.JoinedOf
import Derived.ProofKit
import Derived.Test.YtjeolbgpllbemaaZb4
set_option linter.unusedVariables false
set_option linter.unusedSimpArgs false
set_option linter.unusedSectionVars false
namespace Go.Proofs.Ytjeolbgpllbemaa.problemObjects
open Go.ChangeShapes Go.WideShapes Go.ChangeAt Go.RowKit
theorem closed:joinedFacts Try.pinned.checked.prog 5 Try.f5 Rows.problemObjectsSpec Rows.problemObjectsRow=true:=by kernel_rfl
theorem named:Try.pinned.checked.prog.funcNamed Rows.problemObjectsRow.func=some 5:=by kernel_rfl
theorem inst:Try.f5.isInstance Try.pinned.checked.prog Rows.problemObjectsRow.origin Rows.problemObjectsRow.targs:=of_decide_eq_true (by kernel_rfl)
theorem wrap:Try.f5.isWrapper Try.pinned.checked.prog Rows.problemObjectsRow.wrapper Rows.problemObjectsRow.mainSum:=by unfold Func.isWrapper;first|(rw[if_pos (by decide+kernel)];kernel_rfl)|(rw[if_neg (by decide+kernel)];exact⟨rfl,rfl⟩)
end Go.Proofs.Ytjeolbgpllbemaa.problemObjects
