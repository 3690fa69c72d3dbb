/- What the claim rests on, part 8: the abstract machine, contracts of the functions, plain data. -/
import Derived.Test.YtjgkmmjnbcbmpaaGreatZn5
set_option linter.unusedVariables false
set_option linter.unusedSimpArgs false
set_option linter.unusedSectionVars false
namespace Go.Proofs.YtjgkmmjnbcbmpaaGreat
open Go.AM
set_option maxHeartbeats 2000000
set_option maxRecDepth 20000
theorem kc2:PCall Tryz.prog 13 [dCost (.ab .i64 2 1048576 1 0),smp 1] hG fun r h'=>r=okR∧h'=hG:=
 taRun ubExt_ok (own:=taOwn) (keep:=taKeep) (m:=2000) (k:=50) (by kernel_rfl)
theorem kl2:PCall Tryz.prog 13 [dLoHi (.sc (.int .i64 (-1000))) (.ab .i64 (-936) (1000) 1 0),smp 1] hG fun r h'=>r=larR∧h'=hG:=
 taRun ubExt_ok (own:=taOwn) (keep:=taKeep) (m:=2000) (k:=50) (by kernel_rfl)
theorem kl6:PCall Tryz.prog 13 [dLoHi (.sc (.int .i64 1000)) (.sc (.int .i64 1000)),smp 1] hG fun r h'=>r=bouR∧h'=hG:=
 taRun ubExt_ok (own:=taOwn) (keep:=taKeep) (m:=2000) (k:=50) (by kernel_rfl)
theorem kl12:PCall Tryz.prog 13 [dLoHi (.lin (0) (0) (-1000) (1000)) (.lin (-2000) (-1) (-1000) (1000)),smp 1] hG fun r h'=>r=ordR∧h'=hG:=
 taRun ubExt_ok (own:=taOwn) (keep:=taKeep) (m:=2000) (k:=50) (by kernel_rfl)
theorem kl16:PCall Tryz.prog 13 [dLoHi (.lin (0) (0) (-1000) (3)) (.lin (0) (63) (3) (1000)),smp 1] hG fun r h'=>r=okR∧h'=hG:=
 taRun ubExt_ok (own:=taOwn) (keep:=taKeep) (m:=2000) (k:=50) (by kernel_rfl)
theorem kd3:PCall Tryz.prog 13 [dDur (.ab .i64 63 1000 1 0),tmd 1] hG fun r h'=>r=durR∧h'=hG:=
 taRun ubExt_ok (own:=taOwn) (keep:=taKeep) (m:=2000) (k:=50) (by kernel_rfl)
end Go.Proofs.YtjgkmmjnbcbmpaaGreat
