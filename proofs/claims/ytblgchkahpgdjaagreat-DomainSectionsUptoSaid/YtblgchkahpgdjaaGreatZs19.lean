/- What the claim rests on, part 19: the abstract machine, contracts of the functions, plain data. -/
import Derived.Test.YtblgchkahpgdjaaGreatRows
import Derived.WalkKit
import Derived.JoinedOf
import Derived.ProofKit
set_option linter.unusedVariables false
set_option linter.unusedSimpArgs false
set_option linter.unusedSectionVars false
namespace Go.Proofs.YtblgchkahpgdjaaGreat.domainSections
open Go.Proofs.Tryz
open Go.ChangeShapes Go.WideShapes Go.ChangeAt Go.RowKit
theorem closed:joinedFacts Tryz.pinned.checked.prog 8 Tryz.f8 Rows.domainSectionsSpec Rows.domainSectionsRow=true:=by kernel_rfl
theorem oI:Tryz.pinned.checked.prog.funcNamed Rows.domainSectionsRow.func=some 8:=by kernel_rfl
theorem oJ:Tryz.f8.isInstance Tryz.pinned.checked.prog Rows.domainSectionsRow.origin Rows.domainSectionsRow.targs:=of_decide_eq_true (by kernel_rfl)
theorem oK:Tryz.f8.isWrapper Tryz.pinned.checked.prog Rows.domainSectionsRow.wrapper Rows.domainSectionsRow.mainSum:=by unfold Func.isWrapper;first|(rw[if_pos (by decide+kernel)];kernel_rfl)|(rw[if_neg (by decide+kernel)];exact⟨rfl,rfl⟩)
end Go.Proofs.YtblgchkahpgdjaaGreat.domainSections
