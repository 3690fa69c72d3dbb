/- What the claim rests on, part 9: the abstract machine, contracts of the functions, plain data. -/
import Derived.Test.YtjgkmmjnbcbmpaaGreatZn5
set_option linter.unusedVariables false
set_option linter.unusedSimpArgs false
set_option linter.unusedSectionVars false
namespace Go.Proofs.YtjgkmmjnbcbmpaaGreat
open Go.AM
set_option maxHeartbeats 2000000
set_option maxRecDepth 20000
theorem kc3:PCall Tryz.prog 13 [dCost (.ab .i64 1048577 1099511627776 1 0),smp 1] hG fun r h'=>r=costR∧h'=hG:=
 taRun ubExt_ok (own:=taOwn) (keep:=taKeep) (m:=2000) (k:=50) (by kernel_rfl)
theorem kl3:PCall Tryz.prog 13 [dLoHi (.sc (.int .i64 (-1000))) (.sc (.int .i64 1000)),smp 1] hG fun r h'=>r=larR∧h'=hG:=
 taRun ubExt_ok (own:=taOwn) (keep:=taKeep) (m:=2000) (k:=50) (by kernel_rfl)
theorem kl9:PCall Tryz.prog 13 [dLoHi (.ab .i64 (-999) (1000) 1 0) (.sc (.int .i64 (-1000))),smp 1] hG fun r h'=>r=ordR∧h'=hG:=
 taRun ubExt_ok (own:=taOwn) (keep:=taKeep) (m:=2000) (k:=50) (by kernel_rfl)
theorem kl13:PCall Tryz.prog 13 [dLoHi (.lin (0) (0) (-1000) (1000)) (.lin (64) (2000) (-1000) (1000)),smp 1] hG fun r h'=>r=larR∧h'=hG:=
 taRun ubExt_ok (own:=taOwn) (keep:=taKeep) (m:=2000) (k:=50) (by kernel_rfl)
theorem kd0:PCall Tryz.prog 13 [dDur (.ab .i64 (-10) 0 1 0),tmd 1] hG fun r h'=>r=durR∧h'=hG:=
 taRun ubExt_ok (own:=taOwn) (keep:=taKeep) (m:=2000) (k:=50) (by kernel_rfl)
end Go.Proofs.YtjgkmmjnbcbmpaaGreat
