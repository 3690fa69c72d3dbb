/- What the claim rests on, part 7: the abstract machine, contracts of the functions, plain data. -/
import Derived.Test.YtdekkbdlcblhcaaRows
import Derived.WalkKit
import Derived.JoinedOf
import Derived.ProofKit
import Derived.Test.YtdekkbdlcblhcaaZi6
set_option linter.unusedVariables false
set_option linter.unusedSimpArgs false
set_option linter.unusedSectionVars false
namespace Go.Proofs.Ytdekkbdlcblhcaa.problemInit
open Go.ChangeShapes Go.WideShapes Go.ChangeAt Go.RowKit
theorem closed:joinedFacts Try.pinned.checked.prog 3 Try.f3 Rows.problemInitSpec Rows.problemInitRow=true:=by kernel_rfl
theorem named:Try.pinned.checked.prog.funcNamed Rows.problemInitRow.func=some 3:=by kernel_rfl
theorem inst:Try.f3.isInstance Try.pinned.checked.prog Rows.problemInitRow.origin Rows.problemInitRow.targs:=of_decide_eq_true (by kernel_rfl)
theorem wrap:Try.f3.isWrapper Try.pinned.checked.prog Rows.problemInitRow.wrapper Rows.problemInitRow.mainSum:=by unfold Func.isWrapper;first|(rw[if_pos (by decide+kernel)];kernel_rfl)|(rw[if_neg (by decide+kernel)];exact⟨rfl,rfl⟩)
end Go.Proofs.Ytdekkbdlcblhcaa.problemInit
