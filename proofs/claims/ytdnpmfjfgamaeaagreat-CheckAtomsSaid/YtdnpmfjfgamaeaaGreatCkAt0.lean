/- CheckAtoms: cases. -/
import Derived.Test.YtdnpmfjfgamaeaaGreatCkTimed0
set_option linter.unusedVariables false
set_option linter.unusedSimpArgs false
set_option linter.unusedSectionVars false
namespace Go.Proofs.YtdnpmfjfgamaeaaGreat
open Go.AM
set_option maxHeartbeats 2000000
set_option maxRecDepth 20000
theorem atoms0_0 : PCall Tryz.prog 3 [.ab .u8 0 255 10 0, .ab .u8 0 255 5 0] hG fun r _ => r = .sc (.bool true) :=
  pcall_run2 (wf := ckWf) (own := ckOwn) (keep := ckKeep) Ty.mixed ckExt4_ok (m := 2000) (k := 60) (by kernel_rfl)
theorem atoms0_1 : PCall Tryz.prog 3 [.ab .u8 0 255 10 0, .ab .u8 0 255 5 1] hG fun r _ => r = .sc (.bool true) :=
  pcall_run2 (wf := ckWf) (own := ckOwn) (keep := ckKeep) Ty.mixed ckExt4_ok (m := 2000) (k := 60) (by kernel_rfl)
theorem atoms0_2 : PCall Tryz.prog 3 [.ab .u8 0 255 10 0, .ab .u8 0 255 5 2] hG fun r _ => r = .sc (.bool true) :=
  pcall_run2 (wf := ckWf) (own := ckOwn) (keep := ckKeep) Ty.mixed ckExt4_ok (m := 2000) (k := 60) (by kernel_rfl)
theorem atoms0_3 : PCall Tryz.prog 3 [.ab .u8 0 255 10 0, .ab .u8 0 255 5 3] hG fun r _ => r = .sc (.bool true) :=
  pcall_run2 (wf := ckWf) (own := ckOwn) (keep := ckKeep) Ty.mixed ckExt4_ok (m := 2000) (k := 60) (by kernel_rfl)
theorem atoms0_4 : PCall Tryz.prog 3 [.ab .u8 0 255 10 0, .ab .u8 0 255 5 4] hG fun r _ => r = .sc (.bool true) :=
  pcall_run2 (wf := ckWf) (own := ckOwn) (keep := ckKeep) Ty.mixed ckExt4_ok (m := 2000) (k := 60) (by kernel_rfl)
theorem atoms1_0 : PCall Tryz.prog 3 [.ab .u8 0 255 10 1, .ab .u8 0 255 5 0] hG fun r _ => r = .sc (.bool true) :=
  pcall_run2 (wf := ckWf) (own := ckOwn) (keep := ckKeep) Ty.mixed ckExt4_ok (m := 2000) (k := 60) (by kernel_rfl)
theorem atoms1_1 : PCall Tryz.prog 3 [.ab .u8 0 255 10 1, .ab .u8 0 255 5 1] hG fun r _ => r = .sc (.bool true) :=
  pcall_run2 (wf := ckWf) (own := ckOwn) (keep := ckKeep) Ty.mixed ckExt4_ok (m := 2000) (k := 60) (by kernel_rfl)
theorem atoms1_2 : PCall Tryz.prog 3 [.ab .u8 0 255 10 1, .ab .u8 0 255 5 2] hG fun r _ => r = .sc (.bool true) :=
  pcall_run2 (wf := ckWf) (own := ckOwn) (keep := ckKeep) Ty.mixed ckExt4_ok (m := 2000) (k := 60) (by kernel_rfl)
theorem atoms1_3 : PCall Tryz.prog 3 [.ab .u8 0 255 10 1, .ab .u8 0 255 5 3] hG fun r _ => r = .sc (.bool true) :=
  pcall_run2 (wf := ckWf) (own := ckOwn) (keep := ckKeep) Ty.mixed ckExt4_ok (m := 2000) (k := 60) (by kernel_rfl)
theorem atoms1_4 : PCall Tryz.prog 3 [.ab .u8 0 255 10 1, .ab .u8 0 255 5 4] hG fun r _ => r = .sc (.bool true) :=
  pcall_run2 (wf := ckWf) (own := ckOwn) (keep := ckKeep) Ty.mixed ckExt4_ok (m := 2000) (k := 60) (by kernel_rfl)
end Go.Proofs.YtdnpmfjfgamaeaaGreat
