/- What the claim rests on, part 6: the abstract machine, contracts of the functions, plain data. -/
import Derived.Test.YtjgkmmjnbcbmpaaGreatZn5
set_option linter.unusedVariables false
set_option linter.unusedSimpArgs false
set_option linter.unusedSectionVars false
namespace Go.Proofs.YtjgkmmjnbcbmpaaGreat
open Go.AM
set_option maxHeartbeats 2000000
set_option maxRecDepth 20000
theorem kc0:PCall Tryz.prog 13 [dCost (.sc (.int .i64 0)),smp 1] hG fun r h'=>r=okR∧h'=hG:=
 taRun ubExt_ok (own:=taOwn) (keep:=taKeep) (m:=2000) (k:=50) (by kernel_rfl)
theorem kl0:PCall Tryz.prog 13 [dLoHi (.sc (.int .i64 (-1000))) (.sc (.int .i64 (-1000))),smp 1] hG fun r h'=>r=bouR∧h'=hG:=
 taRun ubExt_ok (own:=taOwn) (keep:=taKeep) (m:=2000) (k:=50) (by kernel_rfl)
theorem kl4:PCall Tryz.prog 13 [dLoHi (.sc (.int .i64 1000)) (.sc (.int .i64 (-1000))),smp 1] hG fun r h'=>r=ordR∧h'=hG:=
 taRun ubExt_ok (own:=taOwn) (keep:=taKeep) (m:=2000) (k:=50) (by kernel_rfl)
theorem kl10:PCall Tryz.prog 13 [dLoHi (.ab .i64 (-1000) (936) 1 0) (.sc (.int .i64 1000)),smp 1] hG fun r h'=>r=larR∧h'=hG:=
 taRun ubExt_ok (own:=taOwn) (keep:=taKeep) (m:=2000) (k:=50) (by kernel_rfl)
theorem kl14:PCall Tryz.prog 13 [dLoHi (.lin (0) (0) (4) (1000)) (.lin (0) (63) (4) (1000)),smp 1] hG fun r h'=>r=bouR∧h'=hG:=
 taRun ubExt_ok (own:=taOwn) (keep:=taKeep) (m:=2000) (k:=50) (by kernel_rfl)
theorem kd1:PCall Tryz.prog 13 [dDur (.sc (.int .i64 1)),tmd 1] hG fun r h'=>r=okR∧h'=hG:=
 taRun ubExt_ok (own:=taOwn) (keep:=taKeep) (m:=2000) (k:=50) (by kernel_rfl)
end Go.Proofs.YtjgkmmjnbcbmpaaGreat
