/- CheckAtoms: cases. -/
import Derived.Test.YtdnpmfjfgamaeaaGreatCkTimed0
set_option linter.unusedVariables false
set_option linter.unusedSimpArgs false
set_option linter.unusedSectionVars false
namespace Go.Proofs.YtdnpmfjfgamaeaaGreat
open Go.AM
set_option maxHeartbeats 2000000
set_option maxRecDepth 20000
theorem atoms6_0 : PCall Tryz.prog 3 [.ab .u8 0 255 10 6, .ab .u8 0 255 5 0] hG fun r _ => r = .sc (.bool true) :=
  pcall_run2 (wf := ckWf) (own := ckOwn) (keep := ckKeep) Ty.mixed ckExt4_ok (m := 2000) (k := 60) (by kernel_rfl)
theorem atoms6_1 : PCall Tryz.prog 3 [.ab .u8 0 255 10 6, .ab .u8 0 255 5 1] hG fun r _ => r = .sc (.bool true) :=
  pcall_run2 (wf := ckWf) (own := ckOwn) (keep := ckKeep) Ty.mixed ckExt4_ok (m := 2000) (k := 60) (by kernel_rfl)
theorem atoms6_2 : PCall Tryz.prog 3 [.ab .u8 0 255 10 6, .ab .u8 0 255 5 2] hG fun r _ => r = .sc (.bool true) :=
  pcall_run2 (wf := ckWf) (own := ckOwn) (keep := ckKeep) Ty.mixed ckExt4_ok (m := 2000) (k := 60) (by kernel_rfl)
theorem atoms6_3 : PCall Tryz.prog 3 [.ab .u8 0 255 10 6, .ab .u8 0 255 5 3] hG fun r _ => r = .sc (.bool true) :=
  pcall_run2 (wf := ckWf) (own := ckOwn) (keep := ckKeep) Ty.mixed ckExt4_ok (m := 2000) (k := 60) (by kernel_rfl)
theorem atoms6_4 : PCall Tryz.prog 3 [.ab .u8 0 255 10 6, .ab .u8 0 255 5 4] hG fun r _ => r = .sc (.bool true) :=
  pcall_run2 (wf := ckWf) (own := ckOwn) (keep := ckKeep) Ty.mixed ckExt4_ok (m := 2000) (k := 60) (by kernel_rfl)
theorem atoms7_0 : PCall Tryz.prog 3 [.ab .u8 0 255 10 7, .ab .u8 0 255 5 0] hG fun r _ => r = .sc (.bool true) :=
  pcall_run2 (wf := ckWf) (own := ckOwn) (keep := ckKeep) Ty.mixed ckExt4_ok (m := 2000) (k := 60) (by kernel_rfl)
theorem atoms7_1 : PCall Tryz.prog 3 [.ab .u8 0 255 10 7, .ab .u8 0 255 5 1] hG fun r _ => r = .sc (.bool true) :=
  pcall_run2 (wf := ckWf) (own := ckOwn) (keep := ckKeep) Ty.mixed ckExt4_ok (m := 2000) (k := 60) (by kernel_rfl)
theorem atoms7_2 : PCall Tryz.prog 3 [.ab .u8 0 255 10 7, .ab .u8 0 255 5 2] hG fun r _ => r = .sc (.bool true) :=
  pcall_run2 (wf := ckWf) (own := ckOwn) (keep := ckKeep) Ty.mixed ckExt4_ok (m := 2000) (k := 60) (by kernel_rfl)
theorem atoms7_3 : PCall Tryz.prog 3 [.ab .u8 0 255 10 7, .ab .u8 0 255 5 3] hG fun r _ => r = .sc (.bool true) :=
  pcall_run2 (wf := ckWf) (own := ckOwn) (keep := ckKeep) Ty.mixed ckExt4_ok (m := 2000) (k := 60) (by kernel_rfl)
theorem atoms7_4 : PCall Tryz.prog 3 [.ab .u8 0 255 10 7, .ab .u8 0 255 5 4] hG fun r _ => r = .sc (.bool true) :=
  pcall_run2 (wf := ckWf) (own := ckOwn) (keep := ckKeep) Ty.mixed ckExt4_ok (m := 2000) (k := 60) (by kernel_rfl)
end Go.Proofs.YtdnpmfjfgamaeaaGreat
