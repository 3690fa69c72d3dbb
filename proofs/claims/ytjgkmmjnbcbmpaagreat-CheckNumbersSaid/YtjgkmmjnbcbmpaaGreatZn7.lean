/- What the claim rests on, part 7: the abstract machine, contracts of the functions, plain data. -/
import Derived.Test.YtjgkmmjnbcbmpaaGreatZn5
set_option linter.unusedVariables false
set_option linter.unusedSimpArgs false
set_option linter.unusedSectionVars false
namespace Go.Proofs.YtjgkmmjnbcbmpaaGreat
open Go.AM
set_option maxHeartbeats 2000000
set_option maxRecDepth 20000
theorem kc1:PCall Tryz.prog 13 [dCost (.sc (.int .i64 1)),smp 1] hG fun r h'=>r=okR∧h'=hG:=
 taRun ubExt_ok (own:=taOwn) (keep:=taKeep) (m:=2000) (k:=50) (by kernel_rfl)
theorem kl1:PCall Tryz.prog 13 [dLoHi (.sc (.int .i64 (-1000))) (.ab .i64 (-1000) (-937) 1 0),smp 1] hG fun r h'=>r=bouR∧h'=hG:=
 taRun ubExt_ok (own:=taOwn) (keep:=taKeep) (m:=2000) (k:=50) (by kernel_rfl)
theorem kl5:PCall Tryz.prog 13 [dLoHi (.sc (.int .i64 1000)) (.ab .i64 (-1000) (999) 1 0),smp 1] hG fun r h'=>r=ordR∧h'=hG:=
 taRun ubExt_ok (own:=taOwn) (keep:=taKeep) (m:=2000) (k:=50) (by kernel_rfl)
theorem kl11:PCall Tryz.prog 13 [dLoHi (.ab .i64 (937) (1000) 1 0) (.sc (.int .i64 1000)),smp 1] hG fun r h'=>r=bouR∧h'=hG:=
 taRun ubExt_ok (own:=taOwn) (keep:=taKeep) (m:=2000) (k:=50) (by kernel_rfl)
theorem kl15:PCall Tryz.prog 13 [dLoHi (.lin (0) (0) (-1000) (3)) (.lin (0) (63) (-1000) (2)),smp 1] hG fun r h'=>r=bouR∧h'=hG:=
 taRun ubExt_ok (own:=taOwn) (keep:=taKeep) (m:=2000) (k:=50) (by kernel_rfl)
theorem kd2:PCall Tryz.prog 13 [dDur (.ab .i64 2 62 1 0),tmd 1] hG fun r h'=>r=okR∧h'=hG:=
 taRun ubExt_ok (own:=taOwn) (keep:=taKeep) (m:=2000) (k:=50) (by kernel_rfl)
end Go.Proofs.YtjgkmmjnbcbmpaaGreat
