/- What the claim rests on, part 29: the abstract machine, contracts of the functions, plain data. -/
import Derived.Test.YtjgkmmjnbcbmpaaGreatZn12
import Derived.Test.YtjgkmmjnbcbmpaaGreatZn13
import Derived.Test.YtjgkmmjnbcbmpaaGreatZn14
import Derived.Test.YtjgkmmjnbcbmpaaGreatZn15
import Derived.Test.YtjgkmmjnbcbmpaaGreatZn16
import Derived.Test.YtjgkmmjnbcbmpaaGreatZn17
import Derived.Test.YtjgkmmjnbcbmpaaGreatZn18
import Derived.Test.YtjgkmmjnbcbmpaaGreatZn19
import Derived.Test.YtjgkmmjnbcbmpaaGreatZn20
import Derived.Test.YtjgkmmjnbcbmpaaGreatZn21
import Derived.Test.YtjgkmmjnbcbmpaaGreatZn22
import Derived.Test.YtjgkmmjnbcbmpaaGreatZn23
import Derived.Test.YtjgkmmjnbcbmpaaGreatZn24
import Derived.Test.YtjgkmmjnbcbmpaaGreatZn25
import Derived.Test.YtjgkmmjnbcbmpaaGreatZn26
import Derived.Test.YtjgkmmjnbcbmpaaGreatZn27
import Derived.Test.YtjgkmmjnbcbmpaaGreatZn28
set_option linter.unusedVariables false
set_option linter.unusedSimpArgs false
set_option linter.unusedSectionVars false
namespace Go.Proofs.YtjgkmmjnbcbmpaaGreat
open Go.AM
set_option maxHeartbeats 2000000
set_option maxRecDepth 20000
def Stand(x:Int)(pargs:List PV)(vals:List Value):Prop:= ∀ (F:Nat→Prop)(w:World),RepL ⟨fun _=>⟨none,0,0,0⟩,⟨fun _=>False,x⟩⟩ 0 F w pargs vals
def StandP(x:Int)(p:PV)(v:Value):Prop:= ∀ (F:Nat→Prop)(w:World),Rep ⟨fun _=>⟨none,0,0,0⟩,⟨fun _=>False,x⟩⟩ 0 F w p v
theorem stand_sc(x n:Int):StandP x (.sc (.int .i64 n)) (.int .i64 n):=fun F w=>by simp only[Rep]
theorem stand_ab{x n lo hi:Int}(h1:lo≤n)(h2:n≤hi):StandP x (.ab .i64 lo hi 1 0) (.int .i64 n):=fun F w=>by simp only[Rep];exact⟨n,h1,h2,Int.tmod_one _,rfl⟩
theorem stand_lin{x n a b lo hi:Int}(h1:a≤n-x)(h2:n-x≤b)(h3:lo≤n)(h4:n≤hi):StandP x (.lin a b lo hi) (.int .i64 n):=fun F w=>by simp only[Rep];exact⟨n-x,h1,h2,by omega,by omega,by rw[show x+(n-x)=n by omega]⟩
theorem stand_agg{x:Int}{p q:PV}{c d:Int}(h1:StandP x p (.int .i64 c))(h2:StandP x q (.int .i64 d)):StandP x (.agg [p,q]) (.agg #[.int .i64 c,.int .i64 d]):=fun F w=>by
 simp only[Rep,RepL];exact⟨[.int .i64 c,.int .i64 d],rfl,by simp[Value.oneCell'],h1 F w,h2 F w,trivial⟩
theorem stand_all{x:Int}{p q r:PV}{u v z:Value}(h1:StandP x p u)(h2:StandP x q v)(h3:StandP x r z):Stand x [p,q,r] [u,v,z]:=fun F w=>by
 simp only[RepL];exact⟨h1 F w,h2 F w,h3 F w,trivial⟩
abbrev lawN:FuncId:=3
theorem nk0{x c d:Int}(hc1:minI≤c)(hc2:c≤maxI)(hd1:minI≤d)(hd2:d≤maxI): ∃ r,PCall Tryz.prog lawN [.ab .i64 (-9223372036854775808) (-1001) 1 0,.ab .i64 (-9223372036854775808) (-1001) 1 0,r] hG (fun r _=>r= .sc (.bool true))∧StandP x r (.agg #[.int .i64 c,.int .i64 d]):=by
 rcases(show c≤0∨c=1∨(2≤c∧c≤1048576)∨1048577≤c by omega)with g|rfl|g|g<;>rcases(show d≤0∨d=1∨(2≤d∧d≤62)∨63≤d by omega)with f|rfl|f|f
 ·exact ⟨_,nr0_0_0,stand_agg (stand_ab hc1 g) (stand_ab hd1 f)⟩
 ·exact ⟨_,nr0_0_1,stand_agg (stand_ab hc1 g) (stand_sc _ _)⟩
 ·exact ⟨_,nr0_0_2,stand_agg (stand_ab hc1 g) (stand_ab f.1 f.2)⟩
 ·exact ⟨_,nr0_0_3,stand_agg (stand_ab hc1 g) (stand_ab f hd2)⟩
 ·exact ⟨_,nr0_1_0,stand_agg (stand_sc _ _) (stand_ab hd1 f)⟩
 ·exact ⟨_,nr0_1_1,stand_agg (stand_sc _ _) (stand_sc _ _)⟩
 ·exact ⟨_,nr0_1_2,stand_agg (stand_sc _ _) (stand_ab f.1 f.2)⟩
 ·exact ⟨_,nr0_1_3,stand_agg (stand_sc _ _) (stand_ab f hd2)⟩
 ·exact ⟨_,nr0_2_0,stand_agg (stand_ab g.1 g.2) (stand_ab hd1 f)⟩
 ·exact ⟨_,nr0_2_1,stand_agg (stand_ab g.1 g.2) (stand_sc _ _)⟩
 ·exact ⟨_,nr0_2_2,stand_agg (stand_ab g.1 g.2) (stand_ab f.1 f.2)⟩
 ·exact ⟨_,nr0_2_3,stand_agg (stand_ab g.1 g.2) (stand_ab f hd2)⟩
 ·exact ⟨_,nr0_3_0,stand_agg (stand_ab g hc2) (stand_ab hd1 f)⟩
 ·exact ⟨_,nr0_3_1,stand_agg (stand_ab g hc2) (stand_sc _ _)⟩
 ·exact ⟨_,nr0_3_2,stand_agg (stand_ab g hc2) (stand_ab f.1 f.2)⟩
 ·exact ⟨_,nr0_3_3,stand_agg (stand_ab g hc2) (stand_ab f hd2)⟩
theorem nk1{x c d:Int}(hc1:minI≤c)(hc2:c≤maxI)(hd1:minI≤d)(hd2:d≤maxI): ∃ r,PCall Tryz.prog lawN [.ab .i64 (-9223372036854775808) (-1001) 1 0,.ab .i64 (-1000) (-937) 1 0,r] hG (fun r _=>r= .sc (.bool true))∧StandP x r (.agg #[.int .i64 c,.int .i64 d]):=by
 rcases(show c≤0∨c=1∨(2≤c∧c≤1048576)∨1048577≤c by omega)with g|rfl|g|g<;>rcases(show d≤0∨d=1∨(2≤d∧d≤62)∨63≤d by omega)with f|rfl|f|f
 ·exact ⟨_,nr1_0_0,stand_agg (stand_ab hc1 g) (stand_ab hd1 f)⟩
 ·exact ⟨_,nr1_0_1,stand_agg (stand_ab hc1 g) (stand_sc _ _)⟩
 ·exact ⟨_,nr1_0_2,stand_agg (stand_ab hc1 g) (stand_ab f.1 f.2)⟩
 ·exact ⟨_,nr1_0_3,stand_agg (stand_ab hc1 g) (stand_ab f hd2)⟩
 ·exact ⟨_,nr1_1_0,stand_agg (stand_sc _ _) (stand_ab hd1 f)⟩
 ·exact ⟨_,nr1_1_1,stand_agg (stand_sc _ _) (stand_sc _ _)⟩
 ·exact ⟨_,nr1_1_2,stand_agg (stand_sc _ _) (stand_ab f.1 f.2)⟩
 ·exact ⟨_,nr1_1_3,stand_agg (stand_sc _ _) (stand_ab f hd2)⟩
 ·exact ⟨_,nr1_2_0,stand_agg (stand_ab g.1 g.2) (stand_ab hd1 f)⟩
 ·exact ⟨_,nr1_2_1,stand_agg (stand_ab g.1 g.2) (stand_sc _ _)⟩
 ·exact ⟨_,nr1_2_2,stand_agg (stand_ab g.1 g.2) (stand_ab f.1 f.2)⟩
 ·exact ⟨_,nr1_2_3,stand_agg (stand_ab g.1 g.2) (stand_ab f hd2)⟩
 ·exact ⟨_,nr1_3_0,stand_agg (stand_ab g hc2) (stand_ab hd1 f)⟩
 ·exact ⟨_,nr1_3_1,stand_agg (stand_ab g hc2) (stand_sc _ _)⟩
 ·exact ⟨_,nr1_3_2,stand_agg (stand_ab g hc2) (stand_ab f.1 f.2)⟩
 ·exact ⟨_,nr1_3_3,stand_agg (stand_ab g hc2) (stand_ab f hd2)⟩
theorem nk2{x c d:Int}(hc1:minI≤c)(hc2:c≤maxI)(hd1:minI≤d)(hd2:d≤maxI): ∃ r,PCall Tryz.prog lawN [.ab .i64 (-9223372036854775808) (-1001) 1 0,.ab .i64 (-936) (1000) 1 0,r] hG (fun r _=>r= .sc (.bool true))∧StandP x r (.agg #[.int .i64 c,.int .i64 d]):=by
 rcases(show c≤0∨c=1∨(2≤c∧c≤1048576)∨1048577≤c by omega)with g|rfl|g|g<;>rcases(show d≤0∨d=1∨(2≤d∧d≤62)∨63≤d by omega)with f|rfl|f|f
 ·exact ⟨_,nr2_0_0,stand_agg (stand_ab hc1 g) (stand_ab hd1 f)⟩
 ·exact ⟨_,nr2_0_1,stand_agg (stand_ab hc1 g) (stand_sc _ _)⟩
 ·exact ⟨_,nr2_0_2,stand_agg (stand_ab hc1 g) (stand_ab f.1 f.2)⟩
 ·exact ⟨_,nr2_0_3,stand_agg (stand_ab hc1 g) (stand_ab f hd2)⟩
 ·exact ⟨_,nr2_1_0,stand_agg (stand_sc _ _) (stand_ab hd1 f)⟩
 ·exact ⟨_,nr2_1_1,stand_agg (stand_sc _ _) (stand_sc _ _)⟩
 ·exact ⟨_,nr2_1_2,stand_agg (stand_sc _ _) (stand_ab f.1 f.2)⟩
 ·exact ⟨_,nr2_1_3,stand_agg (stand_sc _ _) (stand_ab f hd2)⟩
 ·exact ⟨_,nr2_2_0,stand_agg (stand_ab g.1 g.2) (stand_ab hd1 f)⟩
 ·exact ⟨_,nr2_2_1,stand_agg (stand_ab g.1 g.2) (stand_sc _ _)⟩
 ·exact ⟨_,nr2_2_2,stand_agg (stand_ab g.1 g.2) (stand_ab f.1 f.2)⟩
 ·exact ⟨_,nr2_2_3,stand_agg (stand_ab g.1 g.2) (stand_ab f hd2)⟩
 ·exact ⟨_,nr2_3_0,stand_agg (stand_ab g hc2) (stand_ab hd1 f)⟩
 ·exact ⟨_,nr2_3_1,stand_agg (stand_ab g hc2) (stand_sc _ _)⟩
 ·exact ⟨_,nr2_3_2,stand_agg (stand_ab g hc2) (stand_ab f.1 f.2)⟩
 ·exact ⟨_,nr2_3_3,stand_agg (stand_ab g hc2) (stand_ab f hd2)⟩
theorem nk3{x c d:Int}(hc1:minI≤c)(hc2:c≤maxI)(hd1:minI≤d)(hd2:d≤maxI): ∃ r,PCall Tryz.prog lawN [.ab .i64 (-9223372036854775808) (-1001) 1 0,.ab .i64 1001 9223372036854775807 1 0,r] hG (fun r _=>r= .sc (.bool true))∧StandP x r (.agg #[.int .i64 c,.int .i64 d]):=by
 rcases(show c≤0∨c=1∨(2≤c∧c≤1048576)∨1048577≤c by omega)with g|rfl|g|g<;>rcases(show d≤0∨d=1∨(2≤d∧d≤62)∨63≤d by omega)with f|rfl|f|f
 ·exact ⟨_,nr3_0_0,stand_agg (stand_ab hc1 g) (stand_ab hd1 f)⟩
 ·exact ⟨_,nr3_0_1,stand_agg (stand_ab hc1 g) (stand_sc _ _)⟩
 ·exact ⟨_,nr3_0_2,stand_agg (stand_ab hc1 g) (stand_ab f.1 f.2)⟩
 ·exact ⟨_,nr3_0_3,stand_agg (stand_ab hc1 g) (stand_ab f hd2)⟩
 ·exact ⟨_,nr3_1_0,stand_agg (stand_sc _ _) (stand_ab hd1 f)⟩
 ·exact ⟨_,nr3_1_1,stand_agg (stand_sc _ _) (stand_sc _ _)⟩
 ·exact ⟨_,nr3_1_2,stand_agg (stand_sc _ _) (stand_ab f.1 f.2)⟩
 ·exact ⟨_,nr3_1_3,stand_agg (stand_sc _ _) (stand_ab f hd2)⟩
 ·exact ⟨_,nr3_2_0,stand_agg (stand_ab g.1 g.2) (stand_ab hd1 f)⟩
 ·exact ⟨_,nr3_2_1,stand_agg (stand_ab g.1 g.2) (stand_sc _ _)⟩
 ·exact ⟨_,nr3_2_2,stand_agg (stand_ab g.1 g.2) (stand_ab f.1 f.2)⟩
 ·exact ⟨_,nr3_2_3,stand_agg (stand_ab g.1 g.2) (stand_ab f hd2)⟩
 ·exact ⟨_,nr3_3_0,stand_agg (stand_ab g hc2) (stand_ab hd1 f)⟩
 ·exact ⟨_,nr3_3_1,stand_agg (stand_ab g hc2) (stand_sc _ _)⟩
 ·exact ⟨_,nr3_3_2,stand_agg (stand_ab g hc2) (stand_ab f.1 f.2)⟩
 ·exact ⟨_,nr3_3_3,stand_agg (stand_ab g hc2) (stand_ab f hd2)⟩
theorem nk4{x c d:Int}(hc1:minI≤c)(hc2:c≤maxI)(hd1:minI≤d)(hd2:d≤maxI): ∃ r,PCall Tryz.prog lawN [.ab .i64 1001 9223372036854775807 1 0,.ab .i64 (-9223372036854775808) (-1001) 1 0,r] hG (fun r _=>r= .sc (.bool true))∧StandP x r (.agg #[.int .i64 c,.int .i64 d]):=by
 rcases(show c≤0∨c=1∨(2≤c∧c≤1048576)∨1048577≤c by omega)with g|rfl|g|g<;>rcases(show d≤0∨d=1∨(2≤d∧d≤62)∨63≤d by omega)with f|rfl|f|f
 ·exact ⟨_,nr4_0_0,stand_agg (stand_ab hc1 g) (stand_ab hd1 f)⟩
 ·exact ⟨_,nr4_0_1,stand_agg (stand_ab hc1 g) (stand_sc _ _)⟩
 ·exact ⟨_,nr4_0_2,stand_agg (stand_ab hc1 g) (stand_ab f.1 f.2)⟩
 ·exact ⟨_,nr4_0_3,stand_agg (stand_ab hc1 g) (stand_ab f hd2)⟩
 ·exact ⟨_,nr4_1_0,stand_agg (stand_sc _ _) (stand_ab hd1 f)⟩
 ·exact ⟨_,nr4_1_1,stand_agg (stand_sc _ _) (stand_sc _ _)⟩
 ·exact ⟨_,nr4_1_2,stand_agg (stand_sc _ _) (stand_ab f.1 f.2)⟩
 ·exact ⟨_,nr4_1_3,stand_agg (stand_sc _ _) (stand_ab f hd2)⟩
 ·exact ⟨_,nr4_2_0,stand_agg (stand_ab g.1 g.2) (stand_ab hd1 f)⟩
 ·exact ⟨_,nr4_2_1,stand_agg (stand_ab g.1 g.2) (stand_sc _ _)⟩
 ·exact ⟨_,nr4_2_2,stand_agg (stand_ab g.1 g.2) (stand_ab f.1 f.2)⟩
 ·exact ⟨_,nr4_2_3,stand_agg (stand_ab g.1 g.2) (stand_ab f hd2)⟩
 ·exact ⟨_,nr4_3_0,stand_agg (stand_ab g hc2) (stand_ab hd1 f)⟩
 ·exact ⟨_,nr4_3_1,stand_agg (stand_ab g hc2) (stand_sc _ _)⟩
 ·exact ⟨_,nr4_3_2,stand_agg (stand_ab g hc2) (stand_ab f.1 f.2)⟩
 ·exact ⟨_,nr4_3_3,stand_agg (stand_ab g hc2) (stand_ab f hd2)⟩
theorem nk5{x c d:Int}(hc1:minI≤c)(hc2:c≤maxI)(hd1:minI≤d)(hd2:d≤maxI): ∃ r,PCall Tryz.prog lawN [.ab .i64 1001 9223372036854775807 1 0,.ab .i64 (-1000) (999) 1 0,r] hG (fun r _=>r= .sc (.bool true))∧StandP x r (.agg #[.int .i64 c,.int .i64 d]):=by
 rcases(show c≤0∨c=1∨(2≤c∧c≤1048576)∨1048577≤c by omega)with g|rfl|g|g<;>rcases(show d≤0∨d=1∨(2≤d∧d≤62)∨63≤d by omega)with f|rfl|f|f
 ·exact ⟨_,nr5_0_0,stand_agg (stand_ab hc1 g) (stand_ab hd1 f)⟩
 ·exact ⟨_,nr5_0_1,stand_agg (stand_ab hc1 g) (stand_sc _ _)⟩
 ·exact ⟨_,nr5_0_2,stand_agg (stand_ab hc1 g) (stand_ab f.1 f.2)⟩
 ·exact ⟨_,nr5_0_3,stand_agg (stand_ab hc1 g) (stand_ab f hd2)⟩
 ·exact ⟨_,nr5_1_0,stand_agg (stand_sc _ _) (stand_ab hd1 f)⟩
 ·exact ⟨_,nr5_1_1,stand_agg (stand_sc _ _) (stand_sc _ _)⟩
 ·exact ⟨_,nr5_1_2,stand_agg (stand_sc _ _) (stand_ab f.1 f.2)⟩
 ·exact ⟨_,nr5_1_3,stand_agg (stand_sc _ _) (stand_ab f hd2)⟩
 ·exact ⟨_,nr5_2_0,stand_agg (stand_ab g.1 g.2) (stand_ab hd1 f)⟩
 ·exact ⟨_,nr5_2_1,stand_agg (stand_ab g.1 g.2) (stand_sc _ _)⟩
 ·exact ⟨_,nr5_2_2,stand_agg (stand_ab g.1 g.2) (stand_ab f.1 f.2)⟩
 ·exact ⟨_,nr5_2_3,stand_agg (stand_ab g.1 g.2) (stand_ab f hd2)⟩
 ·exact ⟨_,nr5_3_0,stand_agg (stand_ab g hc2) (stand_ab hd1 f)⟩
 ·exact ⟨_,nr5_3_1,stand_agg (stand_ab g hc2) (stand_sc _ _)⟩
 ·exact ⟨_,nr5_3_2,stand_agg (stand_ab g hc2) (stand_ab f.1 f.2)⟩
 ·exact ⟨_,nr5_3_3,stand_agg (stand_ab g hc2) (stand_ab f hd2)⟩
theorem nk6{x c d:Int}(hc1:minI≤c)(hc2:c≤maxI)(hd1:minI≤d)(hd2:d≤maxI): ∃ r,PCall Tryz.prog lawN [.ab .i64 1001 9223372036854775807 1 0,.sc (.int .i64 1000),r] hG (fun r _=>r= .sc (.bool true))∧StandP x r (.agg #[.int .i64 c,.int .i64 d]):=by
 rcases(show c≤0∨c=1∨(2≤c∧c≤1048576)∨1048577≤c by omega)with g|rfl|g|g<;>rcases(show d≤0∨d=1∨(2≤d∧d≤62)∨63≤d by omega)with f|rfl|f|f
 ·exact ⟨_,nr6_0_0,stand_agg (stand_ab hc1 g) (stand_ab hd1 f)⟩
 ·exact ⟨_,nr6_0_1,stand_agg (stand_ab hc1 g) (stand_sc _ _)⟩
 ·exact ⟨_,nr6_0_2,stand_agg (stand_ab hc1 g) (stand_ab f.1 f.2)⟩
 ·exact ⟨_,nr6_0_3,stand_agg (stand_ab hc1 g) (stand_ab f hd2)⟩
 ·exact ⟨_,nr6_1_0,stand_agg (stand_sc _ _) (stand_ab hd1 f)⟩
 ·exact ⟨_,nr6_1_1,stand_agg (stand_sc _ _) (stand_sc _ _)⟩
 ·exact ⟨_,nr6_1_2,stand_agg (stand_sc _ _) (stand_ab f.1 f.2)⟩
 ·exact ⟨_,nr6_1_3,stand_agg (stand_sc _ _) (stand_ab f hd2)⟩
 ·exact ⟨_,nr6_2_0,stand_agg (stand_ab g.1 g.2) (stand_ab hd1 f)⟩
 ·exact ⟨_,nr6_2_1,stand_agg (stand_ab g.1 g.2) (stand_sc _ _)⟩
 ·exact ⟨_,nr6_2_2,stand_agg (stand_ab g.1 g.2) (stand_ab f.1 f.2)⟩
 ·exact ⟨_,nr6_2_3,stand_agg (stand_ab g.1 g.2) (stand_ab f hd2)⟩
 ·exact ⟨_,nr6_3_0,stand_agg (stand_ab g hc2) (stand_ab hd1 f)⟩
 ·exact ⟨_,nr6_3_1,stand_agg (stand_ab g hc2) (stand_sc _ _)⟩
 ·exact ⟨_,nr6_3_2,stand_agg (stand_ab g hc2) (stand_ab f.1 f.2)⟩
 ·exact ⟨_,nr6_3_3,stand_agg (stand_ab g hc2) (stand_ab f hd2)⟩
theorem nk7{x c d:Int}(hc1:minI≤c)(hc2:c≤maxI)(hd1:minI≤d)(hd2:d≤maxI): ∃ r,PCall Tryz.prog lawN [.ab .i64 1001 9223372036854775807 1 0,.ab .i64 1001 9223372036854775807 1 0,r] hG (fun r _=>r= .sc (.bool true))∧StandP x r (.agg #[.int .i64 c,.int .i64 d]):=by
 rcases(show c≤0∨c=1∨(2≤c∧c≤1048576)∨1048577≤c by omega)with g|rfl|g|g<;>rcases(show d≤0∨d=1∨(2≤d∧d≤62)∨63≤d by omega)with f|rfl|f|f
 ·exact ⟨_,nr7_0_0,stand_agg (stand_ab hc1 g) (stand_ab hd1 f)⟩
 ·exact ⟨_,nr7_0_1,stand_agg (stand_ab hc1 g) (stand_sc _ _)⟩
 ·exact ⟨_,nr7_0_2,stand_agg (stand_ab hc1 g) (stand_ab f.1 f.2)⟩
 ·exact ⟨_,nr7_0_3,stand_agg (stand_ab hc1 g) (stand_ab f hd2)⟩
 ·exact ⟨_,nr7_1_0,stand_agg (stand_sc _ _) (stand_ab hd1 f)⟩
 ·exact ⟨_,nr7_1_1,stand_agg (stand_sc _ _) (stand_sc _ _)⟩
 ·exact ⟨_,nr7_1_2,stand_agg (stand_sc _ _) (stand_ab f.1 f.2)⟩
 ·exact ⟨_,nr7_1_3,stand_agg (stand_sc _ _) (stand_ab f hd2)⟩
 ·exact ⟨_,nr7_2_0,stand_agg (stand_ab g.1 g.2) (stand_ab hd1 f)⟩
 ·exact ⟨_,nr7_2_1,stand_agg (stand_ab g.1 g.2) (stand_sc _ _)⟩
 ·exact ⟨_,nr7_2_2,stand_agg (stand_ab g.1 g.2) (stand_ab f.1 f.2)⟩
 ·exact ⟨_,nr7_2_3,stand_agg (stand_ab g.1 g.2) (stand_ab f hd2)⟩
 ·exact ⟨_,nr7_3_0,stand_agg (stand_ab g hc2) (stand_ab hd1 f)⟩
 ·exact ⟨_,nr7_3_1,stand_agg (stand_ab g hc2) (stand_sc _ _)⟩
 ·exact ⟨_,nr7_3_2,stand_agg (stand_ab g hc2) (stand_ab f.1 f.2)⟩
 ·exact ⟨_,nr7_3_3,stand_agg (stand_ab g hc2) (stand_ab f hd2)⟩
theorem nk8{x c d:Int}(hc1:minI≤c)(hc2:c≤maxI)(hd1:minI≤d)(hd2:d≤maxI): ∃ r,PCall Tryz.prog lawN [.sc (.int .i64 (-1000)),.ab .i64 (-9223372036854775808) (-1001) 1 0,r] hG (fun r _=>r= .sc (.bool true))∧StandP x r (.agg #[.int .i64 c,.int .i64 d]):=by
 rcases(show c≤0∨c=1∨(2≤c∧c≤1048576)∨1048577≤c by omega)with g|rfl|g|g<;>rcases(show d≤0∨d=1∨(2≤d∧d≤62)∨63≤d by omega)with f|rfl|f|f
 ·exact ⟨_,nr8_0_0,stand_agg (stand_ab hc1 g) (stand_ab hd1 f)⟩
 ·exact ⟨_,nr8_0_1,stand_agg (stand_ab hc1 g) (stand_sc _ _)⟩
 ·exact ⟨_,nr8_0_2,stand_agg (stand_ab hc1 g) (stand_ab f.1 f.2)⟩
 ·exact ⟨_,nr8_0_3,stand_agg (stand_ab hc1 g) (stand_ab f hd2)⟩
 ·exact ⟨_,nr8_1_0,stand_agg (stand_sc _ _) (stand_ab hd1 f)⟩
 ·exact ⟨_,nr8_1_1,stand_agg (stand_sc _ _) (stand_sc _ _)⟩
 ·exact ⟨_,nr8_1_2,stand_agg (stand_sc _ _) (stand_ab f.1 f.2)⟩
 ·exact ⟨_,nr8_1_3,stand_agg (stand_sc _ _) (stand_ab f hd2)⟩
 ·exact ⟨_,nr8_2_0,stand_agg (stand_ab g.1 g.2) (stand_ab hd1 f)⟩
 ·exact ⟨_,nr8_2_1,stand_agg (stand_ab g.1 g.2) (stand_sc _ _)⟩
 ·exact ⟨_,nr8_2_2,stand_agg (stand_ab g.1 g.2) (stand_ab f.1 f.2)⟩
 ·exact ⟨_,nr8_2_3,stand_agg (stand_ab g.1 g.2) (stand_ab f hd2)⟩
 ·exact ⟨_,nr8_3_0,stand_agg (stand_ab g hc2) (stand_ab hd1 f)⟩
 ·exact ⟨_,nr8_3_1,stand_agg (stand_ab g hc2) (stand_sc _ _)⟩
 ·exact ⟨_,nr8_3_2,stand_agg (stand_ab g hc2) (stand_ab f.1 f.2)⟩
 ·exact ⟨_,nr8_3_3,stand_agg (stand_ab g hc2) (stand_ab f hd2)⟩
theorem nk9{x c d:Int}(hc1:minI≤c)(hc2:c≤maxI)(hd1:minI≤d)(hd2:d≤maxI): ∃ r,PCall Tryz.prog lawN [.ab .i64 (-999) (1000) 1 0,.ab .i64 (-9223372036854775808) (-1001) 1 0,r] hG (fun r _=>r= .sc (.bool true))∧StandP x r (.agg #[.int .i64 c,.int .i64 d]):=by
 rcases(show c≤0∨c=1∨(2≤c∧c≤1048576)∨1048577≤c by omega)with g|rfl|g|g<;>rcases(show d≤0∨d=1∨(2≤d∧d≤62)∨63≤d by omega)with f|rfl|f|f
 ·exact ⟨_,nr9_0_0,stand_agg (stand_ab hc1 g) (stand_ab hd1 f)⟩
 ·exact ⟨_,nr9_0_1,stand_agg (stand_ab hc1 g) (stand_sc _ _)⟩
 ·exact ⟨_,nr9_0_2,stand_agg (stand_ab hc1 g) (stand_ab f.1 f.2)⟩
 ·exact ⟨_,nr9_0_3,stand_agg (stand_ab hc1 g) (stand_ab f hd2)⟩
 ·exact ⟨_,nr9_1_0,stand_agg (stand_sc _ _) (stand_ab hd1 f)⟩
 ·exact ⟨_,nr9_1_1,stand_agg (stand_sc _ _) (stand_sc _ _)⟩
 ·exact ⟨_,nr9_1_2,stand_agg (stand_sc _ _) (stand_ab f.1 f.2)⟩
 ·exact ⟨_,nr9_1_3,stand_agg (stand_sc _ _) (stand_ab f hd2)⟩
 ·exact ⟨_,nr9_2_0,stand_agg (stand_ab g.1 g.2) (stand_ab hd1 f)⟩
 ·exact ⟨_,nr9_2_1,stand_agg (stand_ab g.1 g.2) (stand_sc _ _)⟩
 ·exact ⟨_,nr9_2_2,stand_agg (stand_ab g.1 g.2) (stand_ab f.1 f.2)⟩
 ·exact ⟨_,nr9_2_3,stand_agg (stand_ab g.1 g.2) (stand_ab f hd2)⟩
 ·exact ⟨_,nr9_3_0,stand_agg (stand_ab g hc2) (stand_ab hd1 f)⟩
 ·exact ⟨_,nr9_3_1,stand_agg (stand_ab g hc2) (stand_sc _ _)⟩
 ·exact ⟨_,nr9_3_2,stand_agg (stand_ab g hc2) (stand_ab f.1 f.2)⟩
 ·exact ⟨_,nr9_3_3,stand_agg (stand_ab g hc2) (stand_ab f hd2)⟩
theorem nk10{x c d:Int}(hc1:minI≤c)(hc2:c≤maxI)(hd1:minI≤d)(hd2:d≤maxI): ∃ r,PCall Tryz.prog lawN [.ab .i64 (-1000) (936) 1 0,.ab .i64 1001 9223372036854775807 1 0,r] hG (fun r _=>r= .sc (.bool true))∧StandP x r (.agg #[.int .i64 c,.int .i64 d]):=by
 rcases(show c≤0∨c=1∨(2≤c∧c≤1048576)∨1048577≤c by omega)with g|rfl|g|g<;>rcases(show d≤0∨d=1∨(2≤d∧d≤62)∨63≤d by omega)with f|rfl|f|f
 ·exact ⟨_,nr10_0_0,stand_agg (stand_ab hc1 g) (stand_ab hd1 f)⟩
 ·exact ⟨_,nr10_0_1,stand_agg (stand_ab hc1 g) (stand_sc _ _)⟩
 ·exact ⟨_,nr10_0_2,stand_agg (stand_ab hc1 g) (stand_ab f.1 f.2)⟩
 ·exact ⟨_,nr10_0_3,stand_agg (stand_ab hc1 g) (stand_ab f hd2)⟩
 ·exact ⟨_,nr10_1_0,stand_agg (stand_sc _ _) (stand_ab hd1 f)⟩
 ·exact ⟨_,nr10_1_1,stand_agg (stand_sc _ _) (stand_sc _ _)⟩
 ·exact ⟨_,nr10_1_2,stand_agg (stand_sc _ _) (stand_ab f.1 f.2)⟩
 ·exact ⟨_,nr10_1_3,stand_agg (stand_sc _ _) (stand_ab f hd2)⟩
 ·exact ⟨_,nr10_2_0,stand_agg (stand_ab g.1 g.2) (stand_ab hd1 f)⟩
 ·exact ⟨_,nr10_2_1,stand_agg (stand_ab g.1 g.2) (stand_sc _ _)⟩
 ·exact ⟨_,nr10_2_2,stand_agg (stand_ab g.1 g.2) (stand_ab f.1 f.2)⟩
 ·exact ⟨_,nr10_2_3,stand_agg (stand_ab g.1 g.2) (stand_ab f hd2)⟩
 ·exact ⟨_,nr10_3_0,stand_agg (stand_ab g hc2) (stand_ab hd1 f)⟩
 ·exact ⟨_,nr10_3_1,stand_agg (stand_ab g hc2) (stand_sc _ _)⟩
 ·exact ⟨_,nr10_3_2,stand_agg (stand_ab g hc2) (stand_ab f.1 f.2)⟩
 ·exact ⟨_,nr10_3_3,stand_agg (stand_ab g hc2) (stand_ab f hd2)⟩
theorem nk11{x c d:Int}(hc1:minI≤c)(hc2:c≤maxI)(hd1:minI≤d)(hd2:d≤maxI): ∃ r,PCall Tryz.prog lawN [.ab .i64 (937) (1000) 1 0,.ab .i64 1001 9223372036854775807 1 0,r] hG (fun r _=>r= .sc (.bool true))∧StandP x r (.agg #[.int .i64 c,.int .i64 d]):=by
 rcases(show c≤0∨c=1∨(2≤c∧c≤1048576)∨1048577≤c by omega)with g|rfl|g|g<;>rcases(show d≤0∨d=1∨(2≤d∧d≤62)∨63≤d by omega)with f|rfl|f|f
 ·exact ⟨_,nr11_0_0,stand_agg (stand_ab hc1 g) (stand_ab hd1 f)⟩
 ·exact ⟨_,nr11_0_1,stand_agg (stand_ab hc1 g) (stand_sc _ _)⟩
 ·exact ⟨_,nr11_0_2,stand_agg (stand_ab hc1 g) (stand_ab f.1 f.2)⟩
 ·exact ⟨_,nr11_0_3,stand_agg (stand_ab hc1 g) (stand_ab f hd2)⟩
 ·exact ⟨_,nr11_1_0,stand_agg (stand_sc _ _) (stand_ab hd1 f)⟩
 ·exact ⟨_,nr11_1_1,stand_agg (stand_sc _ _) (stand_sc _ _)⟩
 ·exact ⟨_,nr11_1_2,stand_agg (stand_sc _ _) (stand_ab f.1 f.2)⟩
 ·exact ⟨_,nr11_1_3,stand_agg (stand_sc _ _) (stand_ab f hd2)⟩
 ·exact ⟨_,nr11_2_0,stand_agg (stand_ab g.1 g.2) (stand_ab hd1 f)⟩
 ·exact ⟨_,nr11_2_1,stand_agg (stand_ab g.1 g.2) (stand_sc _ _)⟩
 ·exact ⟨_,nr11_2_2,stand_agg (stand_ab g.1 g.2) (stand_ab f.1 f.2)⟩
 ·exact ⟨_,nr11_2_3,stand_agg (stand_ab g.1 g.2) (stand_ab f hd2)⟩
 ·exact ⟨_,nr11_3_0,stand_agg (stand_ab g hc2) (stand_ab hd1 f)⟩
 ·exact ⟨_,nr11_3_1,stand_agg (stand_ab g hc2) (stand_sc _ _)⟩
 ·exact ⟨_,nr11_3_2,stand_agg (stand_ab g hc2) (stand_ab f.1 f.2)⟩
 ·exact ⟨_,nr11_3_3,stand_agg (stand_ab g hc2) (stand_ab f hd2)⟩
theorem nk12{x c d:Int}(hc1:minI≤c)(hc2:c≤maxI)(hd1:minI≤d)(hd2:d≤maxI): ∃ r,PCall Tryz.prog lawN [.lin (0) (0) (-1000) (1000),.lin (-2000) (-1) (-1000) (1000),r] hG (fun r _=>r= .sc (.bool true))∧StandP x r (.agg #[.int .i64 c,.int .i64 d]):=by
 rcases(show c≤0∨c=1∨(2≤c∧c≤1048576)∨1048577≤c by omega)with g|rfl|g|g<;>rcases(show d≤0∨d=1∨(2≤d∧d≤62)∨63≤d by omega)with f|rfl|f|f
 ·exact ⟨_,nr12_0_0,stand_agg (stand_ab hc1 g) (stand_ab hd1 f)⟩
 ·exact ⟨_,nr12_0_1,stand_agg (stand_ab hc1 g) (stand_sc _ _)⟩
 ·exact ⟨_,nr12_0_2,stand_agg (stand_ab hc1 g) (stand_ab f.1 f.2)⟩
 ·exact ⟨_,nr12_0_3,stand_agg (stand_ab hc1 g) (stand_ab f hd2)⟩
 ·exact ⟨_,nr12_1_0,stand_agg (stand_sc _ _) (stand_ab hd1 f)⟩
 ·exact ⟨_,nr12_1_1,stand_agg (stand_sc _ _) (stand_sc _ _)⟩
 ·exact ⟨_,nr12_1_2,stand_agg (stand_sc _ _) (stand_ab f.1 f.2)⟩
 ·exact ⟨_,nr12_1_3,stand_agg (stand_sc _ _) (stand_ab f hd2)⟩
 ·exact ⟨_,nr12_2_0,stand_agg (stand_ab g.1 g.2) (stand_ab hd1 f)⟩
 ·exact ⟨_,nr12_2_1,stand_agg (stand_ab g.1 g.2) (stand_sc _ _)⟩
 ·exact ⟨_,nr12_2_2,stand_agg (stand_ab g.1 g.2) (stand_ab f.1 f.2)⟩
 ·exact ⟨_,nr12_2_3,stand_agg (stand_ab g.1 g.2) (stand_ab f hd2)⟩
 ·exact ⟨_,nr12_3_0,stand_agg (stand_ab g hc2) (stand_ab hd1 f)⟩
 ·exact ⟨_,nr12_3_1,stand_agg (stand_ab g hc2) (stand_sc _ _)⟩
 ·exact ⟨_,nr12_3_2,stand_agg (stand_ab g hc2) (stand_ab f.1 f.2)⟩
 ·exact ⟨_,nr12_3_3,stand_agg (stand_ab g hc2) (stand_ab f hd2)⟩
theorem nk13{x c d:Int}(hc1:minI≤c)(hc2:c≤maxI)(hd1:minI≤d)(hd2:d≤maxI): ∃ r,PCall Tryz.prog lawN [.lin (0) (0) (-1000) (1000),.lin (64) (2000) (-1000) (1000),r] hG (fun r _=>r= .sc (.bool true))∧StandP x r (.agg #[.int .i64 c,.int .i64 d]):=by
 rcases(show c≤0∨c=1∨(2≤c∧c≤1048576)∨1048577≤c by omega)with g|rfl|g|g<;>rcases(show d≤0∨d=1∨(2≤d∧d≤62)∨63≤d by omega)with f|rfl|f|f
 ·exact ⟨_,nr13_0_0,stand_agg (stand_ab hc1 g) (stand_ab hd1 f)⟩
 ·exact ⟨_,nr13_0_1,stand_agg (stand_ab hc1 g) (stand_sc _ _)⟩
 ·exact ⟨_,nr13_0_2,stand_agg (stand_ab hc1 g) (stand_ab f.1 f.2)⟩
 ·exact ⟨_,nr13_0_3,stand_agg (stand_ab hc1 g) (stand_ab f hd2)⟩
 ·exact ⟨_,nr13_1_0,stand_agg (stand_sc _ _) (stand_ab hd1 f)⟩
 ·exact ⟨_,nr13_1_1,stand_agg (stand_sc _ _) (stand_sc _ _)⟩
 ·exact ⟨_,nr13_1_2,stand_agg (stand_sc _ _) (stand_ab f.1 f.2)⟩
 ·exact ⟨_,nr13_1_3,stand_agg (stand_sc _ _) (stand_ab f hd2)⟩
 ·exact ⟨_,nr13_2_0,stand_agg (stand_ab g.1 g.2) (stand_ab hd1 f)⟩
 ·exact ⟨_,nr13_2_1,stand_agg (stand_ab g.1 g.2) (stand_sc _ _)⟩
 ·exact ⟨_,nr13_2_2,stand_agg (stand_ab g.1 g.2) (stand_ab f.1 f.2)⟩
 ·exact ⟨_,nr13_2_3,stand_agg (stand_ab g.1 g.2) (stand_ab f hd2)⟩
 ·exact ⟨_,nr13_3_0,stand_agg (stand_ab g hc2) (stand_ab hd1 f)⟩
 ·exact ⟨_,nr13_3_1,stand_agg (stand_ab g hc2) (stand_sc _ _)⟩
 ·exact ⟨_,nr13_3_2,stand_agg (stand_ab g hc2) (stand_ab f.1 f.2)⟩
 ·exact ⟨_,nr13_3_3,stand_agg (stand_ab g hc2) (stand_ab f hd2)⟩
theorem nk14{x c d:Int}(hc1:minI≤c)(hc2:c≤maxI)(hd1:minI≤d)(hd2:d≤maxI): ∃ r,PCall Tryz.prog lawN [.lin (0) (0) (4) (1000),.lin (0) (63) (4) (1000),r] hG (fun r _=>r= .sc (.bool true))∧StandP x r (.agg #[.int .i64 c,.int .i64 d]):=by
 rcases(show c≤0∨c=1∨(2≤c∧c≤1048576)∨1048577≤c by omega)with g|rfl|g|g<;>rcases(show d≤0∨d=1∨(2≤d∧d≤62)∨63≤d by omega)with f|rfl|f|f
 ·exact ⟨_,nr14_0_0,stand_agg (stand_ab hc1 g) (stand_ab hd1 f)⟩
 ·exact ⟨_,nr14_0_1,stand_agg (stand_ab hc1 g) (stand_sc _ _)⟩
 ·exact ⟨_,nr14_0_2,stand_agg (stand_ab hc1 g) (stand_ab f.1 f.2)⟩
 ·exact ⟨_,nr14_0_3,stand_agg (stand_ab hc1 g) (stand_ab f hd2)⟩
 ·exact ⟨_,nr14_1_0,stand_agg (stand_sc _ _) (stand_ab hd1 f)⟩
 ·exact ⟨_,nr14_1_1,stand_agg (stand_sc _ _) (stand_sc _ _)⟩
 ·exact ⟨_,nr14_1_2,stand_agg (stand_sc _ _) (stand_ab f.1 f.2)⟩
 ·exact ⟨_,nr14_1_3,stand_agg (stand_sc _ _) (stand_ab f hd2)⟩
 ·exact ⟨_,nr14_2_0,stand_agg (stand_ab g.1 g.2) (stand_ab hd1 f)⟩
 ·exact ⟨_,nr14_2_1,stand_agg (stand_ab g.1 g.2) (stand_sc _ _)⟩
 ·exact ⟨_,nr14_2_2,stand_agg (stand_ab g.1 g.2) (stand_ab f.1 f.2)⟩
 ·exact ⟨_,nr14_2_3,stand_agg (stand_ab g.1 g.2) (stand_ab f hd2)⟩
 ·exact ⟨_,nr14_3_0,stand_agg (stand_ab g hc2) (stand_ab hd1 f)⟩
 ·exact ⟨_,nr14_3_1,stand_agg (stand_ab g hc2) (stand_sc _ _)⟩
 ·exact ⟨_,nr14_3_2,stand_agg (stand_ab g hc2) (stand_ab f.1 f.2)⟩
 ·exact ⟨_,nr14_3_3,stand_agg (stand_ab g hc2) (stand_ab f hd2)⟩
theorem nk15{x c d:Int}(hc1:minI≤c)(hc2:c≤maxI)(hd1:minI≤d)(hd2:d≤maxI): ∃ r,PCall Tryz.prog lawN [.lin (0) (0) (-1000) (3),.lin (0) (63) (-1000) (2),r] hG (fun r _=>r= .sc (.bool true))∧StandP x r (.agg #[.int .i64 c,.int .i64 d]):=by
 rcases(show c≤0∨c=1∨(2≤c∧c≤1048576)∨1048577≤c by omega)with g|rfl|g|g<;>rcases(show d≤0∨d=1∨(2≤d∧d≤62)∨63≤d by omega)with f|rfl|f|f
 ·exact ⟨_,nr15_0_0,stand_agg (stand_ab hc1 g) (stand_ab hd1 f)⟩
 ·exact ⟨_,nr15_0_1,stand_agg (stand_ab hc1 g) (stand_sc _ _)⟩
 ·exact ⟨_,nr15_0_2,stand_agg (stand_ab hc1 g) (stand_ab f.1 f.2)⟩
 ·exact ⟨_,nr15_0_3,stand_agg (stand_ab hc1 g) (stand_ab f hd2)⟩
 ·exact ⟨_,nr15_1_0,stand_agg (stand_sc _ _) (stand_ab hd1 f)⟩
 ·exact ⟨_,nr15_1_1,stand_agg (stand_sc _ _) (stand_sc _ _)⟩
 ·exact ⟨_,nr15_1_2,stand_agg (stand_sc _ _) (stand_ab f.1 f.2)⟩
 ·exact ⟨_,nr15_1_3,stand_agg (stand_sc _ _) (stand_ab f hd2)⟩
 ·exact ⟨_,nr15_2_0,stand_agg (stand_ab g.1 g.2) (stand_ab hd1 f)⟩
 ·exact ⟨_,nr15_2_1,stand_agg (stand_ab g.1 g.2) (stand_sc _ _)⟩
 ·exact ⟨_,nr15_2_2,stand_agg (stand_ab g.1 g.2) (stand_ab f.1 f.2)⟩
 ·exact ⟨_,nr15_2_3,stand_agg (stand_ab g.1 g.2) (stand_ab f hd2)⟩
 ·exact ⟨_,nr15_3_0,stand_agg (stand_ab g hc2) (stand_ab hd1 f)⟩
 ·exact ⟨_,nr15_3_1,stand_agg (stand_ab g hc2) (stand_sc _ _)⟩
 ·exact ⟨_,nr15_3_2,stand_agg (stand_ab g hc2) (stand_ab f.1 f.2)⟩
 ·exact ⟨_,nr15_3_3,stand_agg (stand_ab g hc2) (stand_ab f hd2)⟩
theorem nk16{x c d:Int}(hc1:minI≤c)(hc2:c≤maxI)(hd1:minI≤d)(hd2:d≤maxI): ∃ r,PCall Tryz.prog lawN [.lin (0) (0) (-1000) (3),.lin (0) (63) (3) (1000),r] hG (fun r _=>r= .sc (.bool true))∧StandP x r (.agg #[.int .i64 c,.int .i64 d]):=by
 rcases(show c≤0∨c=1∨(2≤c∧c≤1048576)∨1048577≤c by omega)with g|rfl|g|g<;>rcases(show d≤0∨d=1∨(2≤d∧d≤62)∨63≤d by omega)with f|rfl|f|f
 ·exact ⟨_,nr16_0_0,stand_agg (stand_ab hc1 g) (stand_ab hd1 f)⟩
 ·exact ⟨_,nr16_0_1,stand_agg (stand_ab hc1 g) (stand_sc _ _)⟩
 ·exact ⟨_,nr16_0_2,stand_agg (stand_ab hc1 g) (stand_ab f.1 f.2)⟩
 ·exact ⟨_,nr16_0_3,stand_agg (stand_ab hc1 g) (stand_ab f hd2)⟩
 ·exact ⟨_,nr16_1_0,stand_agg (stand_sc _ _) (stand_ab hd1 f)⟩
 ·exact ⟨_,nr16_1_1,stand_agg (stand_sc _ _) (stand_sc _ _)⟩
 ·exact ⟨_,nr16_1_2,stand_agg (stand_sc _ _) (stand_ab f.1 f.2)⟩
 ·exact ⟨_,nr16_1_3,stand_agg (stand_sc _ _) (stand_ab f hd2)⟩
 ·exact ⟨_,nr16_2_0,stand_agg (stand_ab g.1 g.2) (stand_ab hd1 f)⟩
 ·exact ⟨_,nr16_2_1,stand_agg (stand_ab g.1 g.2) (stand_sc _ _)⟩
 ·exact ⟨_,nr16_2_2,stand_agg (stand_ab g.1 g.2) (stand_ab f.1 f.2)⟩
 ·exact ⟨_,nr16_2_3,stand_agg (stand_ab g.1 g.2) (stand_ab f hd2)⟩
 ·exact ⟨_,nr16_3_0,stand_agg (stand_ab g hc2) (stand_ab hd1 f)⟩
 ·exact ⟨_,nr16_3_1,stand_agg (stand_ab g hc2) (stand_sc _ _)⟩
 ·exact ⟨_,nr16_3_2,stand_agg (stand_ab g hc2) (stand_ab f.1 f.2)⟩
 ·exact ⟨_,nr16_3_3,stand_agg (stand_ab g hc2) (stand_ab f hd2)⟩
theorem numbers_all{x y c d:Int}(hx1:minI≤x)(hx2:x≤maxI)(hy1:minI≤y)(hy2:y≤maxI)(hc1:minI≤c)(hc2:c≤maxI)(hd1:minI≤d)(hd2:d≤maxI):
  ∃ pargs,PCall Tryz.prog lawN pargs hG (fun r _=>r= .sc (.bool true))∧Stand x pargs [.int .i64 x,.int .i64 y,.agg #[.int .i64 c,.int .i64 d]]:=by
 rcases(show(x≤ -1001∧y≤ -1001)∨(x≤ -1001∧ -1000≤y∧y≤ -937)∨(x≤ -1001∧ -936≤y∧y≤1000)∨(x≤ -1001∧1001≤y)∨(1001≤x∧y≤ -1001)∨(1001≤x∧ -1000≤y∧y≤999)∨(1001≤x∧y=1000)∨(1001≤x∧1001≤y)∨(x= -1000∧y≤ -1001)∨((-999≤x∧x≤1000)∧y≤ -1001)∨((-1000≤x∧x≤936)∧1001≤y)∨((937≤x∧x≤1000)∧1001≤y)∨((-1000≤x∧x≤1000)∧(-1000≤y∧y≤1000)∧y<x)∨((-1000≤x∧x≤1000)∧(-1000≤y∧y≤1000)∧64≤y-x)∨((4≤x∧x≤1000)∧(4≤y∧y≤1000)∧x≤y∧y-x≤63)∨((-1000≤x∧x≤3)∧(-1000≤y∧y≤2)∧x≤y∧y-x≤63)∨((-1000≤x∧x≤3)∧(3≤y∧y≤1000)∧x≤y∧y-x≤63) by omega)with g|g|g|g|g|g|g|g|g|g|g|g|g|g|g|g|g
 ·obtain ⟨r,k1,k2⟩:=nk0 (x:=x) hc1 hc2 hd1 hd2;exact⟨_,k1,stand_all (stand_ab (by omega) (by omega)) (stand_ab (by omega) (by omega)) k2⟩
 ·obtain ⟨r,k1,k2⟩:=nk1 (x:=x) hc1 hc2 hd1 hd2;exact⟨_,k1,stand_all (stand_ab (by omega) (by omega)) (stand_ab (by omega) (by omega)) k2⟩
 ·obtain ⟨r,k1,k2⟩:=nk2 (x:=x) hc1 hc2 hd1 hd2;exact⟨_,k1,stand_all (stand_ab (by omega) (by omega)) (stand_ab (by omega) (by omega)) k2⟩
 ·obtain ⟨r,k1,k2⟩:=nk3 (x:=x) hc1 hc2 hd1 hd2;exact⟨_,k1,stand_all (stand_ab (by omega) (by omega)) (stand_ab (by omega) (by omega)) k2⟩
 ·obtain ⟨r,k1,k2⟩:=nk4 (x:=x) hc1 hc2 hd1 hd2;exact⟨_,k1,stand_all (stand_ab (by omega) (by omega)) (stand_ab (by omega) (by omega)) k2⟩
 ·obtain ⟨r,k1,k2⟩:=nk5 (x:=x) hc1 hc2 hd1 hd2;exact⟨_,k1,stand_all (stand_ab (by omega) (by omega)) (stand_ab (by omega) (by omega)) k2⟩
 ·obtain ⟨g,rfl⟩:=g;obtain⟨r,k1,k2⟩:=nk6 (x:=x) hc1 hc2 hd1 hd2;exact⟨_,k1,stand_all (stand_ab (by omega) (by omega)) (stand_sc _ _) k2⟩
 ·obtain ⟨r,k1,k2⟩:=nk7 (x:=x) hc1 hc2 hd1 hd2;exact⟨_,k1,stand_all (stand_ab (by omega) (by omega)) (stand_ab (by omega) (by omega)) k2⟩
 ·obtain ⟨rfl,g⟩:=g;obtain⟨r,k1,k2⟩:=nk8 (x:= -1000) hc1 hc2 hd1 hd2;exact⟨_,k1,stand_all (stand_sc _ _) (stand_ab (by omega) (by omega)) k2⟩
 ·obtain ⟨r,k1,k2⟩:=nk9 (x:=x) hc1 hc2 hd1 hd2;exact⟨_,k1,stand_all (stand_ab (by omega) (by omega)) (stand_ab (by omega) (by omega)) k2⟩
 ·obtain ⟨r,k1,k2⟩:=nk10 (x:=x) hc1 hc2 hd1 hd2;exact⟨_,k1,stand_all (stand_ab (by omega) (by omega)) (stand_ab (by omega) (by omega)) k2⟩
 ·obtain ⟨r,k1,k2⟩:=nk11 (x:=x) hc1 hc2 hd1 hd2;exact⟨_,k1,stand_all (stand_ab (by omega) (by omega)) (stand_ab (by omega) (by omega)) k2⟩
 ·obtain ⟨r,k1,k2⟩:=nk12 (x:=x) hc1 hc2 hd1 hd2;exact⟨_,k1,stand_all (stand_lin (by omega) (by omega) (by omega) (by omega)) (stand_lin (by omega) (by omega) (by omega) (by omega)) k2⟩
 ·obtain ⟨r,k1,k2⟩:=nk13 (x:=x) hc1 hc2 hd1 hd2;exact⟨_,k1,stand_all (stand_lin (by omega) (by omega) (by omega) (by omega)) (stand_lin (by omega) (by omega) (by omega) (by omega)) k2⟩
 ·obtain ⟨r,k1,k2⟩:=nk14 (x:=x) hc1 hc2 hd1 hd2;exact⟨_,k1,stand_all (stand_lin (by omega) (by omega) (by omega) (by omega)) (stand_lin (by omega) (by omega) (by omega) (by omega)) k2⟩
 ·obtain ⟨r,k1,k2⟩:=nk15 (x:=x) hc1 hc2 hd1 hd2;exact⟨_,k1,stand_all (stand_lin (by omega) (by omega) (by omega) (by omega)) (stand_lin (by omega) (by omega) (by omega) (by omega)) k2⟩
 ·obtain ⟨r,k1,k2⟩:=nk16 (x:=x) hc1 hc2 hd1 hd2;exact⟨_,k1,stand_all (stand_lin (by omega) (by omega) (by omega) (by omega)) (stand_lin (by omega) (by omega) (by omega) (by omega)) k2⟩
theorem arr2{c:Nat}{p:PV}(h:ArgV Tryz.prog (c+1) 22 p): ∃ n m:Int,(minI≤n∧n≤maxI)∧(minI≤m∧m≤maxI)∧p= .agg [.sc (.int .i64 n),.sc (.int .i64 m)]:=by
 unfold ArgV at h;rw[Tryz.underlying22]at h;obtain⟨ps,rfl,h⟩:=h;unfold Arg at h;rw[Tryz.underlying22]at h;obtain⟨h1,h2⟩:=h;have e1:Tryz.prog.cellsOf 22=2:=by kernel_rfl
 have e2:partsT Tryz.prog 22=[(0,3),(1,3)]:=by kernel_rfl
 have e3:Tryz.prog.cellsOf 3=1:=by kernel_rfl
 rw[e1]at h1;rw[e2]at h2
 match ps,h1,h2 with
 |[p0,p1],_,h2=>
  have a0:=h2 (0,3) (by simp);have a1:=h2 (1,3) (by simp);simp only[e3,List.drop_zero,List.drop_succ_cons,List.take_succ_cons,List.take_zero]at a0 a1;obtain⟨n,hn,q1⟩:=arg_i64 a0;obtain⟨m,hm,q2⟩:=arg_i64 a1;simp only[List.cons.injEq,and_true]at q1 q2;exact⟨n,m,hn,hm,by rw[q1,q2]⟩
theorem agg2{n m:Int}{v:Value}(h: ∀ (β:Env)(k:Nat), ∃ (F:Nat→Prop)(w:World),Rep β k F w (.agg [.sc (.int .i64 n),.sc (.int .i64 m)]) v):v= .agg #[.int .i64 n,.int .i64 m]:=by
 obtain⟨F,w,h⟩:=h ⟨fun _=>⟨none,0,0,0⟩,⟨fun _=>False,0⟩⟩ 0;simp only[Rep]at h;obtain⟨xs,rfl,_,h⟩:=h
 match xs,h with
 |[a,b],h=>
  simp only[RepL,Rep,and_true]at h;rw[h.1,h.2]
end Go.Proofs.YtjgkmmjnbcbmpaaGreat
