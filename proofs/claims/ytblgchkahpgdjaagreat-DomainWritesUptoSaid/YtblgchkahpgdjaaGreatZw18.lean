/- What the claim rests on, part 18: the abstract machine, contracts of the functions, plain data. -/
import Derived.Test.YtblgchkahpgdjaaGreatRows
import Derived.WalkKit
import Derived.JoinedOf
import Derived.ProofKit
set_option linter.unusedVariables false
set_option linter.unusedSimpArgs false
set_option linter.unusedSectionVars false
namespace Go.Proofs.YtblgchkahpgdjaaGreat.domainWrites
open Go.Proofs.Tryz
open Go.ChangeShapes Go.WideShapes Go.ChangeAt Go.RowKit
theorem closed:joinedFacts Tryz.pinned.checked.prog 3 Tryz.f3 Rows.domainWritesSpec Rows.domainWritesRow=true:=by kernel_rfl
theorem dU:Tryz.pinned.checked.prog.funcNamed Rows.domainWritesRow.func=some 3:=by kernel_rfl
theorem dV:Tryz.f3.isInstance Tryz.pinned.checked.prog Rows.domainWritesRow.origin Rows.domainWritesRow.targs:=of_decide_eq_true (by kernel_rfl)
theorem dW:Tryz.f3.isWrapper Tryz.pinned.checked.prog Rows.domainWritesRow.wrapper Rows.domainWritesRow.mainSum:=by unfold Func.isWrapper;first|(rw[if_pos (by decide+kernel)];kernel_rfl)|(rw[if_neg (by decide+kernel)];exact⟨rfl,rfl⟩)
end Go.Proofs.YtblgchkahpgdjaaGreat.domainWrites
