/- What the claim rests on, part 15: the abstract machine, contracts of the functions, plain data. -/
import Derived.Test.YtjgkmmjnbcbmpaaGreatZn11
set_option linter.unusedVariables false
set_option linter.unusedSimpArgs false
set_option linter.unusedSectionVars false
namespace Go.Proofs.YtjgkmmjnbcbmpaaGreat
open Go.AM
set_option maxHeartbeats 2000000
set_option maxRecDepth 20000
theorem nr3_0_0:PCall Tryz.prog 3 [.ab .i64 (-9223372036854775808) (-1001) 1 0,.ab .i64 1001 9223372036854775807 1 0,.agg [.ab .i64 (-9223372036854775808) 0 1 0,.ab .i64 (-9223372036854775808) 0 1 0]] hG fun r _=>r= .sc (.bool true):=
 pcall_run2 (wf:=nbWf) (own:=nbOwn) (keep:=nbKeep) Ty.mixed nbExt_ok (m:=2000) (k:=60) (by kernel_rfl)
theorem nr3_0_1:PCall Tryz.prog 3 [.ab .i64 (-9223372036854775808) (-1001) 1 0,.ab .i64 1001 9223372036854775807 1 0,.agg [.ab .i64 (-9223372036854775808) 0 1 0,.sc (.int .i64 1)]] hG fun r _=>r= .sc (.bool true):=
 pcall_run2 (wf:=nbWf) (own:=nbOwn) (keep:=nbKeep) Ty.mixed nbExt_ok (m:=2000) (k:=60) (by kernel_rfl)
theorem nr3_0_2:PCall Tryz.prog 3 [.ab .i64 (-9223372036854775808) (-1001) 1 0,.ab .i64 1001 9223372036854775807 1 0,.agg [.ab .i64 (-9223372036854775808) 0 1 0,.ab .i64 2 62 1 0]] hG fun r _=>r= .sc (.bool true):=
 pcall_run2 (wf:=nbWf) (own:=nbOwn) (keep:=nbKeep) Ty.mixed nbExt_ok (m:=2000) (k:=60) (by kernel_rfl)
theorem nr3_0_3:PCall Tryz.prog 3 [.ab .i64 (-9223372036854775808) (-1001) 1 0,.ab .i64 1001 9223372036854775807 1 0,.agg [.ab .i64 (-9223372036854775808) 0 1 0,.ab .i64 63 9223372036854775807 1 0]] hG fun r _=>r= .sc (.bool true):=
 pcall_run2 (wf:=nbWf) (own:=nbOwn) (keep:=nbKeep) Ty.mixed nbExt_ok (m:=2000) (k:=60) (by kernel_rfl)
theorem nr3_1_0:PCall Tryz.prog 3 [.ab .i64 (-9223372036854775808) (-1001) 1 0,.ab .i64 1001 9223372036854775807 1 0,.agg [.sc (.int .i64 1),.ab .i64 (-9223372036854775808) 0 1 0]] hG fun r _=>r= .sc (.bool true):=
 pcall_run2 (wf:=nbWf) (own:=nbOwn) (keep:=nbKeep) Ty.mixed nbExt_ok (m:=2000) (k:=60) (by kernel_rfl)
theorem nr3_1_1:PCall Tryz.prog 3 [.ab .i64 (-9223372036854775808) (-1001) 1 0,.ab .i64 1001 9223372036854775807 1 0,.agg [.sc (.int .i64 1),.sc (.int .i64 1)]] hG fun r _=>r= .sc (.bool true):=
 pcall_run2 (wf:=nbWf) (own:=nbOwn) (keep:=nbKeep) Ty.mixed nbExt_ok (m:=2000) (k:=60) (by kernel_rfl)
theorem nr3_1_2:PCall Tryz.prog 3 [.ab .i64 (-9223372036854775808) (-1001) 1 0,.ab .i64 1001 9223372036854775807 1 0,.agg [.sc (.int .i64 1),.ab .i64 2 62 1 0]] hG fun r _=>r= .sc (.bool true):=
 pcall_run2 (wf:=nbWf) (own:=nbOwn) (keep:=nbKeep) Ty.mixed nbExt_ok (m:=2000) (k:=60) (by kernel_rfl)
theorem nr3_1_3:PCall Tryz.prog 3 [.ab .i64 (-9223372036854775808) (-1001) 1 0,.ab .i64 1001 9223372036854775807 1 0,.agg [.sc (.int .i64 1),.ab .i64 63 9223372036854775807 1 0]] hG fun r _=>r= .sc (.bool true):=
 pcall_run2 (wf:=nbWf) (own:=nbOwn) (keep:=nbKeep) Ty.mixed nbExt_ok (m:=2000) (k:=60) (by kernel_rfl)
theorem nr3_2_0:PCall Tryz.prog 3 [.ab .i64 (-9223372036854775808) (-1001) 1 0,.ab .i64 1001 9223372036854775807 1 0,.agg [.ab .i64 2 1048576 1 0,.ab .i64 (-9223372036854775808) 0 1 0]] hG fun r _=>r= .sc (.bool true):=
 pcall_run2 (wf:=nbWf) (own:=nbOwn) (keep:=nbKeep) Ty.mixed nbExt_ok (m:=2000) (k:=60) (by kernel_rfl)
theorem nr3_2_1:PCall Tryz.prog 3 [.ab .i64 (-9223372036854775808) (-1001) 1 0,.ab .i64 1001 9223372036854775807 1 0,.agg [.ab .i64 2 1048576 1 0,.sc (.int .i64 1)]] hG fun r _=>r= .sc (.bool true):=
 pcall_run2 (wf:=nbWf) (own:=nbOwn) (keep:=nbKeep) Ty.mixed nbExt_ok (m:=2000) (k:=60) (by kernel_rfl)
theorem nr3_2_2:PCall Tryz.prog 3 [.ab .i64 (-9223372036854775808) (-1001) 1 0,.ab .i64 1001 9223372036854775807 1 0,.agg [.ab .i64 2 1048576 1 0,.ab .i64 2 62 1 0]] hG fun r _=>r= .sc (.bool true):=
 pcall_run2 (wf:=nbWf) (own:=nbOwn) (keep:=nbKeep) Ty.mixed nbExt_ok (m:=2000) (k:=60) (by kernel_rfl)
theorem nr3_2_3:PCall Tryz.prog 3 [.ab .i64 (-9223372036854775808) (-1001) 1 0,.ab .i64 1001 9223372036854775807 1 0,.agg [.ab .i64 2 1048576 1 0,.ab .i64 63 9223372036854775807 1 0]] hG fun r _=>r= .sc (.bool true):=
 pcall_run2 (wf:=nbWf) (own:=nbOwn) (keep:=nbKeep) Ty.mixed nbExt_ok (m:=2000) (k:=60) (by kernel_rfl)
theorem nr3_3_0:PCall Tryz.prog 3 [.ab .i64 (-9223372036854775808) (-1001) 1 0,.ab .i64 1001 9223372036854775807 1 0,.agg [.ab .i64 1048577 9223372036854775807 1 0,.ab .i64 (-9223372036854775808) 0 1 0]] hG fun r _=>r= .sc (.bool true):=
 pcall_run2 (wf:=nbWf) (own:=nbOwn) (keep:=nbKeep) Ty.mixed nbExt_ok (m:=2000) (k:=60) (by kernel_rfl)
theorem nr3_3_1:PCall Tryz.prog 3 [.ab .i64 (-9223372036854775808) (-1001) 1 0,.ab .i64 1001 9223372036854775807 1 0,.agg [.ab .i64 1048577 9223372036854775807 1 0,.sc (.int .i64 1)]] hG fun r _=>r= .sc (.bool true):=
 pcall_run2 (wf:=nbWf) (own:=nbOwn) (keep:=nbKeep) Ty.mixed nbExt_ok (m:=2000) (k:=60) (by kernel_rfl)
theorem nr3_3_2:PCall Tryz.prog 3 [.ab .i64 (-9223372036854775808) (-1001) 1 0,.ab .i64 1001 9223372036854775807 1 0,.agg [.ab .i64 1048577 9223372036854775807 1 0,.ab .i64 2 62 1 0]] hG fun r _=>r= .sc (.bool true):=
 pcall_run2 (wf:=nbWf) (own:=nbOwn) (keep:=nbKeep) Ty.mixed nbExt_ok (m:=2000) (k:=60) (by kernel_rfl)
theorem nr3_3_3:PCall Tryz.prog 3 [.ab .i64 (-9223372036854775808) (-1001) 1 0,.ab .i64 1001 9223372036854775807 1 0,.agg [.ab .i64 1048577 9223372036854775807 1 0,.ab .i64 63 9223372036854775807 1 0]] hG fun r _=>r= .sc (.bool true):=
 pcall_run2 (wf:=nbWf) (own:=nbOwn) (keep:=nbKeep) Ty.mixed nbExt_ok (m:=2000) (k:=60) (by kernel_rfl)
end Go.Proofs.YtjgkmmjnbcbmpaaGreat
