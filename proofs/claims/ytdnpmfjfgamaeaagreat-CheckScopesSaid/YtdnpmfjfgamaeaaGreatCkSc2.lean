/- CheckScopes: cases. -/
import Derived.Test.YtdnpmfjfgamaeaaGreatCkTimed0
set_option linter.unusedVariables false
set_option linter.unusedSimpArgs false
set_option linter.unusedSectionVars false
namespace Go.Proofs.YtdnpmfjfgamaeaaGreat
open Go.AM
set_option maxHeartbeats 2000000
set_option maxRecDepth 20000
theorem scopes3 : PCall Tryz.prog 4 [.ab .u8 0 255 9 3] hG fun r _ => r = .sc (.bool true) :=
  pcall_run2 (wf := ckWf) (own := ckOwn) (keep := ckKeep) Ty.mixed ckExt4_ok (m := 2000) (k := 60) (by kernel_rfl)
theorem scopes4 : PCall Tryz.prog 4 [.ab .u8 0 255 9 4] hG fun r _ => r = .sc (.bool true) :=
  pcall_run2 (wf := ckWf) (own := ckOwn) (keep := ckKeep) Ty.mixed ckExt4_ok (m := 2000) (k := 60) (by kernel_rfl)
theorem scopes5 : PCall Tryz.prog 4 [.ab .u8 0 255 9 5] hG fun r _ => r = .sc (.bool true) :=
  pcall_run2 (wf := ckWf) (own := ckOwn) (keep := ckKeep) Ty.mixed ckExt4_ok (m := 2000) (k := 60) (by kernel_rfl)
end Go.Proofs.YtdnpmfjfgamaeaaGreat
