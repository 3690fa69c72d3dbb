/- CheckLimits: cases. -/
import Derived.Test.YtdnpmfjfgamaeaaGreatCkLim0
set_option linter.unusedVariables false
set_option linter.unusedSimpArgs false
set_option linter.unusedSectionVars false
namespace Go.Proofs.YtdnpmfjfgamaeaaGreat
open Go.AM
set_option maxHeartbeats 2000000
set_option maxRecDepth 20000
theorem limits2a : PCall Tryz.prog 8 [.ab .u8 0 255 4 2, .ab .i64 minI (-2) 1 0] hG fun r _ => r = .sc (.bool true) :=
  pcall_run2 (wf := ckWf) (own := ckOwn) (keep := ckKeep) Ty.mixed ckExt6_ok (m := 2000) (k := 60) (by kernel_rfl)
theorem limits2b : PCall Tryz.prog 8 [.ab .u8 0 255 4 2, .sc (.int .i64 (-1))] hG fun r _ => r = .sc (.bool true) :=
  pcall_run2 (wf := ckWf) (own := ckOwn) (keep := ckKeep) Ty.mixed ckExt6_ok (m := 2000) (k := 60) (by kernel_rfl)
theorem limits2c : PCall Tryz.prog 8 [.ab .u8 0 255 4 2, .sc (.int .i64 0)] hG fun r _ => r = .sc (.bool true) :=
  pcall_run2 (wf := ckWf) (own := ckOwn) (keep := ckKeep) Ty.mixed ckExt6_ok (m := 2000) (k := 60) (by kernel_rfl)
theorem limits2d : PCall Tryz.prog 8 [.ab .u8 0 255 4 2, .sc (.int .i64 1)] hG fun r _ => r = .sc (.bool true) :=
  pcall_run2 (wf := ckWf) (own := ckOwn) (keep := ckKeep) Ty.mixed ckExt6_ok (m := 2000) (k := 60) (by kernel_rfl)
theorem limits2e : PCall Tryz.prog 8 [.ab .u8 0 255 4 2, .ab .i64 2 maxI 1 0] hG fun r _ => r = .sc (.bool true) :=
  pcall_run2 (wf := ckWf) (own := ckOwn) (keep := ckKeep) Ty.mixed ckExt6_ok (m := 2000) (k := 60) (by kernel_rfl)
end Go.Proofs.YtdnpmfjfgamaeaaGreat
