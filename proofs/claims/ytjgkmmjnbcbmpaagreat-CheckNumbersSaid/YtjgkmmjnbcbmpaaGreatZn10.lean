/- What the claim rests on, part 10: the abstract machine, contracts of the functions, plain data. -/
import Derived.Test.YtjgkmmjnbcbmpaaGreatZn5
set_option linter.unusedVariables false
set_option linter.unusedSimpArgs false
set_option linter.unusedSectionVars false
namespace Go.Proofs.YtjgkmmjnbcbmpaaGreat
open Go.AM
set_option maxHeartbeats 2000000
set_option maxRecDepth 20000
theorem tright1_c:PCall Tryz.prog 9 [smp 0,smp 1] hG fun r h'=>r= .sc (.bool true)∧h'=hG:=
 taRun taExt_ok (own:=taOwn) (keep:=taKeep) (m:=2000) (k:=50) (by kernel_rfl)
theorem tright2_c:PCall Tryz.prog 9 [tmd 0,tmd 1] hG fun r h'=>r= .sc (.bool true)∧h'=hG:=
 taRun taExt_ok (own:=taOwn) (keep:=taKeep) (m:=2000) (k:=50) (by kernel_rfl)
noncomputable def tbExt (f:FuncId)(args:List PV)(h:Heap):Option PV:=match taExt f args h with
 |some r=>some r
 |none=>if f=9 then(match h.obj 0 with
   |some (.glb 0 lo hi)=>if lo=minI∧hi=maxI∧(inNLb 1 args&&(pvEq (.tup args) (.tup [smp 0,smp 1])||pvEq (.tup args) (.tup [tmd 0,tmd 1])))=true then some (.sc (.bool true))else none
   |_=>none)else none
theorem tbExt_ok:ExtOk2 Tryz.prog tbExt:=by
 intro f args r h hx;unfold tbExt at hx;split at hx
 ·rename_i r' hr;simp only[Option.some.injEq]at hx;subst hx;exact taExt_ok _ _ _ _ hr
 split at hx
 ·rename_i hf;split at hx
  ·rename_i hob;split at hx
   ·rename_i hc;simp only[Option.some.injEq]at hx;obtain⟨rfl,rfl,hs⟩:=hc;subst hx;subst hf;simp only[Bool.and_eq_true,Bool.or_eq_true]at hs;obtain⟨hn,hs⟩:=hs;have hn:=inNLb_ok _ hn;rcases hs with hs|hs
    ·have:=pvEq_eq _ _ hs;simp only[PV.tup.injEq]at this;subst this;exact taPart hob hn tright1_c
    ·have:=pvEq_eq _ _ hs;simp only[PV.tup.injEq]at this;subst this;exact taPart hob hn tright2_c
   ·simp at hx
  ·simp at hx
 ·simp at hx
theorem tawake_hG:PCall Tryz.prog 5 [] hG fun r h'=>r= .sc (.bool true)∧h'=hG:=
 taRun tbExt_ok (own:=taOwn) (keep:=taKeep) (m:=2000) (k:=50) (by kernel_rfl)
theorem tawake_c{h:Heap}(hob:h.obj 0=some (.glb 0 minI maxI)):PCall Tryz.prog 5 [] h fun r h'=>r= .sc (.bool true)∧h'=h:=
 taPart hob (by simp only[inNL]) tawake_hG
end Go.Proofs.YtjgkmmjnbcbmpaaGreat
