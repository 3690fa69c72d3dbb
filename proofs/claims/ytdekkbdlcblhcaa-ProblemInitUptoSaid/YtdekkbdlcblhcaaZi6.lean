/- What the claim rests on, part 6: the abstract machine, contracts of the functions, plain data. -/
import Derived.OpenShut
import Derived.ChangeShapes
import Derived.SizedLaws
import Derived.Test.YtdekkbdlcblhcaaRows
import Derived.Test.YtdekkbdlcblhcaaZi5
set_option linter.unusedVariables false
set_option linter.unusedSimpArgs false
set_option linter.unusedSectionVars false
namespace Go.AM
def hasI(l:List At)(a:At):Bool:=l.any fun y=>y.same a
theorem hasI_of{l:List At}{a y:At}(hy:y∈l)(e:kA y=kA a):hasI l a=true:=by
 unfold hasI
 rw[List.any_eq_true]
 exact⟨y,hy,(same_iff _ _).2 e⟩
end Go.AM
namespace Go.Proofs.Ytdekkbdlcblhcaa
open Go.AM
set_option maxHeartbeats 4000000
set_option maxRecDepth 20000
theorem rHasI_c{l:List At}{a:At}(hl:l.length≤bigN)(ho: ∀ a∈l,a.ok)(ha:a.ok)(h:Heap):
  PCall Try.prog 7 [.imm 2 (atRows l),.agg (atRow a)] h fun r h'=>r= .sc (.bool (hasI l a))∧h'=h:=by
 unfold bigN at hl
 have hll:=atRows_len l
 have hcm: ∀ y∈l, ∀ h:Heap,PCall Try.prog 8 [.agg (atRow y),.agg (atRow a)] h fun r h'=>r= .sc (.int .i64 (cmpA y a))∧h'=h:=fun y hy h=>rcmpA_c (ho y hy) ha h
 have hcz: ∀ y,(cmpA y a==0)=y.same a:=fun y=>cmpA_zero y a
 generalize hF:hasI l a=F
 unfold hasI at hF
 have ha2:atRow a=[sPV a.name,.imm 1 (strRows a.args)]:=rfl
 rw[ha2]at hcm⊢
 refine pcall_body (ow:=fun _=>false) (wf:=fun _=>false) Ty.mixed Try.func7 rfl Ty.hb_7 (by rw[Try.ntmps7];simp) ?_
 rw[Try.ntmps7,Try.results7]
 repeat'(first
  |refine a_seq fun K hK=>?_
  |(refine a_block ?_)
  |((first|refine a_regionS ?_|refine a_region (fun K hK=>?_)|refine a_ret ?_);simp(maxSteps:=2000000) only[undef,am0,am1,am2,am3,amb0,amb1,amb2,amb3,amb4,lwn,drn,callee,wantedB,isW,eff,pev,pst0,retPost,resAll,resP,resV,intP,mkV,putC,pbin,sbin,strsEq,peq,pint,pshift,pstr,pun,pconv,isShift,isConstB,app,subS,lay,rowsOf,lkV,keyKind,keyEq,mfind,mput,oInt,isZeroInt,forall_const,exists_eq_left',implies_true,IntKind.bits, ↓reduceIte,Nat.reduceEqDiff,Nat.reduceAdd,Nat.reduceSub,Nat.reduceMul,Nat.reduceLT,Nat.reduceLeDiff,Nat.reduceBEq,Int.reduceLE,Int.reduceLT,Int.reduceToNat,reduceCtorEq,Ty.all])
  |(refine a_skip ?_;try simp only[pst0, ↓reduceIte,Nat.reduceEqDiff])
  |(refine a_exit ?_;try simp only[pst0, ↓reduceIte,Nat.reduceEqDiff])
  |(refine a_cond _ (by(try simp(maxSteps:=2000000) only[undef,am0,am1,am2,am3,amb0,amb1,amb2,amb3,amb4,lwn,drn,callee,wantedB,isW,eff,pev,pst0,retPost,resAll,resP,resV,intP,mkV,putC,pbin,sbin,strsEq,peq,pint,pshift,pstr,pun,pconv,isShift,isConstB,app,subS,lay,rowsOf,lkV,keyKind,keyEq,mfind,mput,oInt,isZeroInt,forall_const,exists_eq_left',implies_true,IntKind.bits, ↓reduceIte,Nat.reduceEqDiff,Nat.reduceAdd,Nat.reduceSub,Nat.reduceMul,Nat.reduceLT,Nat.reduceLeDiff,Nat.reduceBEq,Int.reduceLE,Int.reduceLT,Int.reduceToNat,reduceCtorEq,Ty.all]);rfl) (fun hb=>?_) (fun hb=>?_)<;>(try simp only[hb0,decide_eq_true_eq,decide_eq_false_iff_not,reduceCtorEq]at hb)<;>(try(exfalso;omega)))
  |(with_reducible refine ite_in (fun hb=>?_) (fun hb=>?_)<;>(try simp only[Decidable.not_not]at hb)<;>(try simp only[hb,if_true,if_false,not_false_eq_true,not_true_eq_false, ↓reduceIte])<;>(try simp only[hb0,decide_eq_true_eq,decide_eq_false_iff_not,reduceCtorEq]at hb)<;>(try(exfalso;omega)))
  |(refine hK _ _ ?_;clear hK;try simp only[pst0, ↓reduceIte,Nat.reduceEqDiff])
  |(clear hK;refine hK _ _ ?_;clear hK;try simp only[pst0, ↓reduceIte,Nat.reduceEqDiff])
  |(clear hK;clear hK;refine hK _ _ ?_;clear hK;try simp only[pst0, ↓reduceIte,Nat.reduceEqDiff])
  |(clear hK;clear hK;clear hK;refine hK _ _ ?_;clear hK;try simp only[pst0, ↓reduceIte,Nat.reduceEqDiff])
  |(rw[if_pos];rotate_left 1;omega;simp(maxSteps:=2000000) only[undef,am0,am1,am2,am3,amb0,amb1,amb2,amb3,amb4,lwn,drn,callee,wantedB,isW,eff,pev,pst0,retPost,resAll,resP,resV,intP,mkV,putC,pbin,sbin,strsEq,peq,pint,pshift,pstr,pun,pconv,isShift,isConstB,app,subS,lay,rowsOf,lkV,keyKind,keyEq,mfind,mput,oInt,isZeroInt,forall_const,exists_eq_left',implies_true,IntKind.bits, ↓reduceIte,Nat.reduceEqDiff,Nat.reduceAdd,Nat.reduceSub,Nat.reduceMul,Nat.reduceLT,Nat.reduceLeDiff,Nat.reduceBEq,Int.reduceLE,Int.reduceLT,Int.reduceToNat,reduceCtorEq,Ty.all]))
 refine a_loop (fun c S h'=>h'=h∧S 0= .imm 2 (atRows l)∧S 3= .cptr [sPV a.name,.imm 1 (strRows a.args)]∧ ∃ k:Nat,S 5= .sc (.int .i64 k)∧k≤l.length∧c=l.length-k∧F=(l.drop k).any fun y=>y.same a) l.length ?_ ?_
 ·simp only[undef,am0,am1,am2,am3,amb0,amb1,amb2,amb3,amb4,lwn,drn,callee,wantedB,isW,eff,pev,pst0,retPost,resAll,resP,resV,intP,mkV,putC,pbin,sbin,strsEq,peq,pint,pshift,pstr,pun,pconv,isShift,isConstB,app,subS,lay,rowsOf,lkV,keyKind,keyEq,mfind,mput,oInt,isZeroInt,forall_const,exists_eq_left',implies_true,IntKind.bits, ↓reduceIte,Nat.reduceEqDiff,Nat.reduceAdd,Nat.reduceSub,Nat.reduceMul,Nat.reduceLT,Nat.reduceLeDiff,Nat.reduceBEq,Int.reduceLE,Int.reduceLT,Int.reduceToNat,reduceCtorEq]
  exact⟨0,rfl,by omega,rfl,by rw[List.drop_zero];exact hF.symm⟩
 ·clear hF
  rintro c S h' ⟨rfl,g0,g3,k,gk,hkl,rfl,hinv⟩
  by_cases hlt:k<l.length
  ·have hd:decide ((k:Int)<(l.length:Int))=true:=by simp;omega
   have w7:IntKind.i64.wrap ((k:Int)+1)=k+1:=by rw[wrap64 (by omega) (by omega)]
   obtain⟨y,hx⟩: ∃ y,l[k]? =some y:=⟨_,List.getElem?_eq_getElem hlt⟩
   rw[drop_of_get hx,List.any_cons]at hinv
   have hr:=atRows_get hx
   have hc:=hcm y (List.mem_of_getElem? hx)
   have hz:=hcz y
   generalize cmpA y a=e at hc hz
   generalize At.same y a=q at hz hinv
   clear hcm hcz
   obtain⟨name2,args2⟩:=y
   simp only[atRow]at hr hc
   cases q with
   |true=>
    rw[Bool.true_or]at hinv
    repeat'(first
     |refine a_seq fun K hK=>?_
     |(refine a_block ?_)
     |((first|refine a_regionS ?_|refine a_drawS (by decide+kernel) ?_|refine a_region (fun K hK=>?_)|refine a_draw (by decide+kernel) (fun K hK=>?_)|refine a_ret ?_);simp(maxSteps:=2000000) only[undef,am0,am1,am2,am3,amb0,amb1,amb2,amb3,amb4,lwn,drn,callee,wantedB,isW,eff,pev,pst0,retPost,resAll,resP,resV,intP,mkV,putC,pbin,sbin,strsEq,peq,pint,pshift,pstr,pun,pconv,isShift,isConstB,app,subS,lay,rowsOf,lkV,keyKind,keyEq,mfind,mput,oInt,isZeroInt,forall_const,exists_eq_left',implies_true,IntKind.bits, ↓reduceIte,Nat.reduceEqDiff,Nat.reduceAdd,Nat.reduceSub,Nat.reduceMul,Nat.reduceLT,Nat.reduceLeDiff,Nat.reduceBEq,Int.reduceLE,Int.reduceLT,Int.reduceToNat,reduceCtorEq,Ty.all,g0,g3,gk,hll,hd,hr,w7])
     |(refine a_skip ?_;try simp only[pst0, ↓reduceIte,Nat.reduceEqDiff])
     |(refine a_exit ?_;try simp only[pst0, ↓reduceIte,Nat.reduceEqDiff])
     |(refine a_cond _ (by(try simp(maxSteps:=2000000) only[undef,am0,am1,am2,am3,amb0,amb1,amb2,amb3,amb4,lwn,drn,callee,wantedB,isW,eff,pev,pst0,retPost,resAll,resP,resV,intP,mkV,putC,pbin,sbin,strsEq,peq,pint,pshift,pstr,pun,pconv,isShift,isConstB,app,subS,lay,rowsOf,lkV,keyKind,keyEq,mfind,mput,oInt,isZeroInt,forall_const,exists_eq_left',implies_true,IntKind.bits, ↓reduceIte,Nat.reduceEqDiff,Nat.reduceAdd,Nat.reduceSub,Nat.reduceMul,Nat.reduceLT,Nat.reduceLeDiff,Nat.reduceBEq,Int.reduceLE,Int.reduceLT,Int.reduceToNat,reduceCtorEq,Ty.all,g0,g3,gk,hll,hd,hr,w7]);rfl) (fun hb=>?_) (fun hb=>?_)<;>(try simp only[hb0,decide_eq_true_eq,decide_eq_false_iff_not,reduceCtorEq]at hb)<;>(try(exfalso;omega)))
     |(with_reducible refine ite_in (fun hb=>?_) (fun hb=>?_)<;>(try simp only[Decidable.not_not]at hb)<;>(try simp only[hb,if_true,if_false,not_false_eq_true,not_true_eq_false, ↓reduceIte])<;>(try simp only[hb0,decide_eq_true_eq,decide_eq_false_iff_not,reduceCtorEq]at hb)<;>(try(exfalso;omega)))
     |(refine hK _ _ ?_;clear hK;try simp only[pst0, ↓reduceIte,Nat.reduceEqDiff])
     |(clear hK;refine hK _ _ ?_;clear hK;try simp only[pst0, ↓reduceIte,Nat.reduceEqDiff])
     |(clear hK;clear hK;refine hK _ _ ?_;clear hK;try simp only[pst0, ↓reduceIte,Nat.reduceEqDiff])
     |(clear hK;clear hK;clear hK;refine hK _ _ ?_;clear hK;try simp only[pst0, ↓reduceIte,Nat.reduceEqDiff])
     |((first|(with_reducible refine a_past _ rfl (by decide+kernel) ?_)|(with_reducible refine a_past2 (by simp only[List.forall_mem_cons,undef,am0,am1,am2,am3,amb0,amb1,amb2,amb3,amb4,lwn,drn,callee,wantedB,isW,eff,pev,pst0,retPost,resAll,resP,resV,intP,mkV,putC,pbin,sbin,strsEq,peq,pint,pshift,pstr,pun,pconv,isShift,isConstB,app,subS,lay,rowsOf,lkV,keyKind,keyEq,mfind,mput,oInt,isZeroInt,forall_const,exists_eq_left',implies_true,IntKind.bits, ↓reduceIte,Nat.reduceEqDiff,Nat.reduceAdd,Nat.reduceSub,Nat.reduceMul,Nat.reduceLT,Nat.reduceLeDiff,Nat.reduceBEq,Int.reduceLE,Int.reduceLT,Int.reduceToNat,reduceCtorEq,Ty.all,g0,g3,gk,hll,hd,hr,w7]<;>(repeat' apply And.intro)<;>first|trivial|exact .inl (by decide+kernel)) ?_));try simp(maxSteps:=2000000) only[undef,am0,am1,am2,am3,amb0,amb1,amb2,amb3,amb4,lwn,drn,callee,wantedB,isW,eff,pev,pst0,retPost,resAll,resP,resV,intP,mkV,putC,pbin,sbin,strsEq,peq,pint,pshift,pstr,pun,pconv,isShift,isConstB,app,subS,lay,rowsOf,lkV,keyKind,keyEq,mfind,mput,oInt,isZeroInt,forall_const,exists_eq_left',implies_true,IntKind.bits, ↓reduceIte,Nat.reduceEqDiff,Nat.reduceAdd,Nat.reduceSub,Nat.reduceMul,Nat.reduceLT,Nat.reduceLeDiff,Nat.reduceBEq,Int.reduceLE,Int.reduceLT,Int.reduceToNat,reduceCtorEq,Ty.all,g0,g3,gk,hll,hd,hr,w7])
     |(rw[if_pos];rotate_left 1;omega;simp(maxSteps:=2000000) only[undef,am0,am1,am2,am3,amb0,amb1,amb2,amb3,amb4,lwn,drn,callee,wantedB,isW,eff,pev,pst0,retPost,resAll,resP,resV,intP,mkV,putC,pbin,sbin,strsEq,peq,pint,pshift,pstr,pun,pconv,isShift,isConstB,app,subS,lay,rowsOf,lkV,keyKind,keyEq,mfind,mput,oInt,isZeroInt,forall_const,exists_eq_left',implies_true,IntKind.bits, ↓reduceIte,Nat.reduceEqDiff,Nat.reduceAdd,Nat.reduceSub,Nat.reduceMul,Nat.reduceLT,Nat.reduceLeDiff,Nat.reduceBEq,Int.reduceLE,Int.reduceLT,Int.reduceToNat,reduceCtorEq,Ty.all,g0,g3,gk,hll,hd,hr,w7]))
    first
     |refine a_dcall0 (hc _) (by(try simp only[undef,am0,am1,am2,am3,amb0,amb1,amb2,amb3,amb4,lwn,drn,callee,wantedB,isW,eff,pev,pst0,retPost,resAll,resP,resV,intP,mkV,putC,pbin,sbin,strsEq,peq,pint,pshift,pstr,pun,pconv,isShift,isConstB,app,subS,lay,rowsOf,lkV,keyKind,keyEq,mfind,mput,oInt,isZeroInt,forall_const,exists_eq_left',implies_true,IntKind.bits, ↓reduceIte,Nat.reduceEqDiff,Nat.reduceAdd,Nat.reduceSub,Nat.reduceMul,Nat.reduceLT,Nat.reduceLeDiff,Nat.reduceBEq,Int.reduceLE,Int.reduceLT,Int.reduceToNat,reduceCtorEq,g0,g3,gk,hll,hd,hr,hz]);try rfl) ?_
     |refine a_dcallA (hc _) (by(try simp only[undef,am0,am1,am2,am3,amb0,amb1,amb2,amb3,amb4,lwn,drn,callee,wantedB,isW,eff,pev,pst0,retPost,resAll,resP,resV,intP,mkV,putC,pbin,sbin,strsEq,peq,pint,pshift,pstr,pun,pconv,isShift,isConstB,app,subS,lay,rowsOf,lkV,keyKind,keyEq,mfind,mput,oInt,isZeroInt,forall_const,exists_eq_left',implies_true,IntKind.bits, ↓reduceIte,Nat.reduceEqDiff,Nat.reduceAdd,Nat.reduceSub,Nat.reduceMul,Nat.reduceLT,Nat.reduceLeDiff,Nat.reduceBEq,Int.reduceLE,Int.reduceLT,Int.reduceToNat,reduceCtorEq,g0,g3,gk,hll,hd,hr,hz]);try rfl) (by simp only[undef,am0,am1,am2,am3,amb0,amb1,amb2,amb3,amb4,lwn,drn,callee,wantedB,isW,eff,pev,pst0,retPost,resAll,resP,resV,intP,mkV,putC,pbin,sbin,strsEq,peq,pint,pshift,pstr,pun,pconv,isShift,isConstB,app,subS,lay,rowsOf,lkV,keyKind,keyEq,mfind,mput,oInt,isZeroInt,forall_const,exists_eq_left',implies_true,IntKind.bits, ↓reduceIte,Nat.reduceEqDiff,Nat.reduceAdd,Nat.reduceSub,Nat.reduceMul,Nat.reduceLT,Nat.reduceLeDiff,Nat.reduceBEq,Int.reduceLE,Int.reduceLT,Int.reduceToNat,reduceCtorEq,Ty.all,g0,g3,gk,hll,hd,hr,hz];try trivial) ?_
    simp(maxSteps:=2000000) only[undef,am0,am1,am2,am3,amb0,amb1,amb2,amb3,amb4,lwn,drn,callee,wantedB,isW,eff,pev,pst0,retPost,resAll,resP,resV,intP,mkV,putC,pbin,sbin,strsEq,peq,pint,pshift,pstr,pun,pconv,isShift,isConstB,app,subS,lay,rowsOf,lkV,keyKind,keyEq,mfind,mput,oInt,isZeroInt,forall_const,exists_eq_left',implies_true,IntKind.bits, ↓reduceIte,Nat.reduceEqDiff,Nat.reduceAdd,Nat.reduceSub,Nat.reduceMul,Nat.reduceLT,Nat.reduceLeDiff,Nat.reduceBEq,Int.reduceLE,Int.reduceLT,Int.reduceToNat,reduceCtorEq,Ty.all,Option.getD_some,g0,g3,gk,hll,hd,hr,hz]
    repeat'(first
     |refine a_seq fun K hK=>?_
     |(refine a_block ?_)
     |((first|refine a_regionS ?_|refine a_drawS (by decide+kernel) ?_|refine a_region (fun K hK=>?_)|refine a_draw (by decide+kernel) (fun K hK=>?_)|refine a_ret ?_);simp(maxSteps:=2000000) only[undef,am0,am1,am2,am3,amb0,amb1,amb2,amb3,amb4,lwn,drn,callee,wantedB,isW,eff,pev,pst0,retPost,resAll,resP,resV,intP,mkV,putC,pbin,sbin,strsEq,peq,pint,pshift,pstr,pun,pconv,isShift,isConstB,app,subS,lay,rowsOf,lkV,keyKind,keyEq,mfind,mput,oInt,isZeroInt,forall_const,exists_eq_left',implies_true,IntKind.bits, ↓reduceIte,Nat.reduceEqDiff,Nat.reduceAdd,Nat.reduceSub,Nat.reduceMul,Nat.reduceLT,Nat.reduceLeDiff,Nat.reduceBEq,Int.reduceLE,Int.reduceLT,Int.reduceToNat,reduceCtorEq,Ty.all,g0,g3,gk,w7,hz])
     |(refine a_skip ?_;try simp only[pst0, ↓reduceIte,Nat.reduceEqDiff])
     |(refine a_exit ?_;try simp only[pst0, ↓reduceIte,Nat.reduceEqDiff])
     |(refine a_cond _ (by(try simp(maxSteps:=2000000) only[undef,am0,am1,am2,am3,amb0,amb1,amb2,amb3,amb4,lwn,drn,callee,wantedB,isW,eff,pev,pst0,retPost,resAll,resP,resV,intP,mkV,putC,pbin,sbin,strsEq,peq,pint,pshift,pstr,pun,pconv,isShift,isConstB,app,subS,lay,rowsOf,lkV,keyKind,keyEq,mfind,mput,oInt,isZeroInt,forall_const,exists_eq_left',implies_true,IntKind.bits, ↓reduceIte,Nat.reduceEqDiff,Nat.reduceAdd,Nat.reduceSub,Nat.reduceMul,Nat.reduceLT,Nat.reduceLeDiff,Nat.reduceBEq,Int.reduceLE,Int.reduceLT,Int.reduceToNat,reduceCtorEq,Ty.all,g0,g3,gk,w7,hz]);rfl) (fun hb=>?_) (fun hb=>?_)<;>(try simp only[hb0,decide_eq_true_eq,decide_eq_false_iff_not,reduceCtorEq]at hb)<;>(try(exfalso;omega)))
     |(with_reducible refine ite_in (fun hb=>?_) (fun hb=>?_)<;>(try simp only[Decidable.not_not]at hb)<;>(try simp only[hb,if_true,if_false,not_false_eq_true,not_true_eq_false, ↓reduceIte])<;>(try simp only[hb0,decide_eq_true_eq,decide_eq_false_iff_not,reduceCtorEq]at hb)<;>(try(exfalso;omega)))
     |(refine hK _ _ ?_;clear hK;try simp only[pst0, ↓reduceIte,Nat.reduceEqDiff])
     |(clear hK;refine hK _ _ ?_;clear hK;try simp only[pst0, ↓reduceIte,Nat.reduceEqDiff])
     |(clear hK;clear hK;refine hK _ _ ?_;clear hK;try simp only[pst0, ↓reduceIte,Nat.reduceEqDiff])
     |(clear hK;clear hK;clear hK;refine hK _ _ ?_;clear hK;try simp only[pst0, ↓reduceIte,Nat.reduceEqDiff])
     |((first|(with_reducible refine a_past _ rfl (by decide+kernel) ?_)|(with_reducible refine a_past2 (by simp only[List.forall_mem_cons,undef,am0,am1,am2,am3,amb0,amb1,amb2,amb3,amb4,lwn,drn,callee,wantedB,isW,eff,pev,pst0,retPost,resAll,resP,resV,intP,mkV,putC,pbin,sbin,strsEq,peq,pint,pshift,pstr,pun,pconv,isShift,isConstB,app,subS,lay,rowsOf,lkV,keyKind,keyEq,mfind,mput,oInt,isZeroInt,forall_const,exists_eq_left',implies_true,IntKind.bits, ↓reduceIte,Nat.reduceEqDiff,Nat.reduceAdd,Nat.reduceSub,Nat.reduceMul,Nat.reduceLT,Nat.reduceLeDiff,Nat.reduceBEq,Int.reduceLE,Int.reduceLT,Int.reduceToNat,reduceCtorEq,Ty.all,g0,g3,gk,w7,hz]<;>(repeat' apply And.intro)<;>first|trivial|exact .inl (by decide+kernel)) ?_));try simp(maxSteps:=2000000) only[undef,am0,am1,am2,am3,amb0,amb1,amb2,amb3,amb4,lwn,drn,callee,wantedB,isW,eff,pev,pst0,retPost,resAll,resP,resV,intP,mkV,putC,pbin,sbin,strsEq,peq,pint,pshift,pstr,pun,pconv,isShift,isConstB,app,subS,lay,rowsOf,lkV,keyKind,keyEq,mfind,mput,oInt,isZeroInt,forall_const,exists_eq_left',implies_true,IntKind.bits, ↓reduceIte,Nat.reduceEqDiff,Nat.reduceAdd,Nat.reduceSub,Nat.reduceMul,Nat.reduceLT,Nat.reduceLeDiff,Nat.reduceBEq,Int.reduceLE,Int.reduceLT,Int.reduceToNat,reduceCtorEq,Ty.all,g0,g3,gk,w7,hz])
     |(rw[if_pos];rotate_left 1;omega;simp(maxSteps:=2000000) only[undef,am0,am1,am2,am3,amb0,amb1,amb2,amb3,amb4,lwn,drn,callee,wantedB,isW,eff,pev,pst0,retPost,resAll,resP,resV,intP,mkV,putC,pbin,sbin,strsEq,peq,pint,pshift,pstr,pun,pconv,isShift,isConstB,app,subS,lay,rowsOf,lkV,keyKind,keyEq,mfind,mput,oInt,isZeroInt,forall_const,exists_eq_left',implies_true,IntKind.bits, ↓reduceIte,Nat.reduceEqDiff,Nat.reduceAdd,Nat.reduceSub,Nat.reduceMul,Nat.reduceLT,Nat.reduceLeDiff,Nat.reduceBEq,Int.reduceLE,Int.reduceLT,Int.reduceToNat,reduceCtorEq,Ty.all,g0,g3,gk,w7,hz]))
    all_goals rw[hinv]
   |false=>
    rw[Bool.false_or]at hinv
    repeat'(first
     |refine a_seq fun K hK=>?_
     |(refine a_block ?_)
     |((first|refine a_regionS ?_|refine a_drawS (by decide+kernel) ?_|refine a_region (fun K hK=>?_)|refine a_draw (by decide+kernel) (fun K hK=>?_)|refine a_ret ?_);simp(maxSteps:=2000000) only[undef,am0,am1,am2,am3,amb0,amb1,amb2,amb3,amb4,lwn,drn,callee,wantedB,isW,eff,pev,pst0,retPost,resAll,resP,resV,intP,mkV,putC,pbin,sbin,strsEq,peq,pint,pshift,pstr,pun,pconv,isShift,isConstB,app,subS,lay,rowsOf,lkV,keyKind,keyEq,mfind,mput,oInt,isZeroInt,forall_const,exists_eq_left',implies_true,IntKind.bits, ↓reduceIte,Nat.reduceEqDiff,Nat.reduceAdd,Nat.reduceSub,Nat.reduceMul,Nat.reduceLT,Nat.reduceLeDiff,Nat.reduceBEq,Int.reduceLE,Int.reduceLT,Int.reduceToNat,reduceCtorEq,Ty.all,g0,g3,gk,hll,hd,hr,w7])
     |(refine a_skip ?_;try simp only[pst0, ↓reduceIte,Nat.reduceEqDiff])
     |(refine a_exit ?_;try simp only[pst0, ↓reduceIte,Nat.reduceEqDiff])
     |(refine a_cond _ (by(try simp(maxSteps:=2000000) only[undef,am0,am1,am2,am3,amb0,amb1,amb2,amb3,amb4,lwn,drn,callee,wantedB,isW,eff,pev,pst0,retPost,resAll,resP,resV,intP,mkV,putC,pbin,sbin,strsEq,peq,pint,pshift,pstr,pun,pconv,isShift,isConstB,app,subS,lay,rowsOf,lkV,keyKind,keyEq,mfind,mput,oInt,isZeroInt,forall_const,exists_eq_left',implies_true,IntKind.bits, ↓reduceIte,Nat.reduceEqDiff,Nat.reduceAdd,Nat.reduceSub,Nat.reduceMul,Nat.reduceLT,Nat.reduceLeDiff,Nat.reduceBEq,Int.reduceLE,Int.reduceLT,Int.reduceToNat,reduceCtorEq,Ty.all,g0,g3,gk,hll,hd,hr,w7]);rfl) (fun hb=>?_) (fun hb=>?_)<;>(try simp only[hb0,decide_eq_true_eq,decide_eq_false_iff_not,reduceCtorEq]at hb)<;>(try(exfalso;omega)))
     |(with_reducible refine ite_in (fun hb=>?_) (fun hb=>?_)<;>(try simp only[Decidable.not_not]at hb)<;>(try simp only[hb,if_true,if_false,not_false_eq_true,not_true_eq_false, ↓reduceIte])<;>(try simp only[hb0,decide_eq_true_eq,decide_eq_false_iff_not,reduceCtorEq]at hb)<;>(try(exfalso;omega)))
     |(refine hK _ _ ?_;clear hK;try simp only[pst0, ↓reduceIte,Nat.reduceEqDiff])
     |(clear hK;refine hK _ _ ?_;clear hK;try simp only[pst0, ↓reduceIte,Nat.reduceEqDiff])
     |(clear hK;clear hK;refine hK _ _ ?_;clear hK;try simp only[pst0, ↓reduceIte,Nat.reduceEqDiff])
     |(clear hK;clear hK;clear hK;refine hK _ _ ?_;clear hK;try simp only[pst0, ↓reduceIte,Nat.reduceEqDiff])
     |((first|(with_reducible refine a_past _ rfl (by decide+kernel) ?_)|(with_reducible refine a_past2 (by simp only[List.forall_mem_cons,undef,am0,am1,am2,am3,amb0,amb1,amb2,amb3,amb4,lwn,drn,callee,wantedB,isW,eff,pev,pst0,retPost,resAll,resP,resV,intP,mkV,putC,pbin,sbin,strsEq,peq,pint,pshift,pstr,pun,pconv,isShift,isConstB,app,subS,lay,rowsOf,lkV,keyKind,keyEq,mfind,mput,oInt,isZeroInt,forall_const,exists_eq_left',implies_true,IntKind.bits, ↓reduceIte,Nat.reduceEqDiff,Nat.reduceAdd,Nat.reduceSub,Nat.reduceMul,Nat.reduceLT,Nat.reduceLeDiff,Nat.reduceBEq,Int.reduceLE,Int.reduceLT,Int.reduceToNat,reduceCtorEq,Ty.all,g0,g3,gk,hll,hd,hr,w7]<;>(repeat' apply And.intro)<;>first|trivial|exact .inl (by decide+kernel)) ?_));try simp(maxSteps:=2000000) only[undef,am0,am1,am2,am3,amb0,amb1,amb2,amb3,amb4,lwn,drn,callee,wantedB,isW,eff,pev,pst0,retPost,resAll,resP,resV,intP,mkV,putC,pbin,sbin,strsEq,peq,pint,pshift,pstr,pun,pconv,isShift,isConstB,app,subS,lay,rowsOf,lkV,keyKind,keyEq,mfind,mput,oInt,isZeroInt,forall_const,exists_eq_left',implies_true,IntKind.bits, ↓reduceIte,Nat.reduceEqDiff,Nat.reduceAdd,Nat.reduceSub,Nat.reduceMul,Nat.reduceLT,Nat.reduceLeDiff,Nat.reduceBEq,Int.reduceLE,Int.reduceLT,Int.reduceToNat,reduceCtorEq,Ty.all,g0,g3,gk,hll,hd,hr,w7])
     |(rw[if_pos];rotate_left 1;omega;simp(maxSteps:=2000000) only[undef,am0,am1,am2,am3,amb0,amb1,amb2,amb3,amb4,lwn,drn,callee,wantedB,isW,eff,pev,pst0,retPost,resAll,resP,resV,intP,mkV,putC,pbin,sbin,strsEq,peq,pint,pshift,pstr,pun,pconv,isShift,isConstB,app,subS,lay,rowsOf,lkV,keyKind,keyEq,mfind,mput,oInt,isZeroInt,forall_const,exists_eq_left',implies_true,IntKind.bits, ↓reduceIte,Nat.reduceEqDiff,Nat.reduceAdd,Nat.reduceSub,Nat.reduceMul,Nat.reduceLT,Nat.reduceLeDiff,Nat.reduceBEq,Int.reduceLE,Int.reduceLT,Int.reduceToNat,reduceCtorEq,Ty.all,g0,g3,gk,hll,hd,hr,w7]))
    first
     |refine a_dcall0 (hc _) (by(try simp only[undef,am0,am1,am2,am3,amb0,amb1,amb2,amb3,amb4,lwn,drn,callee,wantedB,isW,eff,pev,pst0,retPost,resAll,resP,resV,intP,mkV,putC,pbin,sbin,strsEq,peq,pint,pshift,pstr,pun,pconv,isShift,isConstB,app,subS,lay,rowsOf,lkV,keyKind,keyEq,mfind,mput,oInt,isZeroInt,forall_const,exists_eq_left',implies_true,IntKind.bits, ↓reduceIte,Nat.reduceEqDiff,Nat.reduceAdd,Nat.reduceSub,Nat.reduceMul,Nat.reduceLT,Nat.reduceLeDiff,Nat.reduceBEq,Int.reduceLE,Int.reduceLT,Int.reduceToNat,reduceCtorEq,g0,g3,gk,hll,hd,hr,hz]);try rfl) ?_
     |refine a_dcallA (hc _) (by(try simp only[undef,am0,am1,am2,am3,amb0,amb1,amb2,amb3,amb4,lwn,drn,callee,wantedB,isW,eff,pev,pst0,retPost,resAll,resP,resV,intP,mkV,putC,pbin,sbin,strsEq,peq,pint,pshift,pstr,pun,pconv,isShift,isConstB,app,subS,lay,rowsOf,lkV,keyKind,keyEq,mfind,mput,oInt,isZeroInt,forall_const,exists_eq_left',implies_true,IntKind.bits, ↓reduceIte,Nat.reduceEqDiff,Nat.reduceAdd,Nat.reduceSub,Nat.reduceMul,Nat.reduceLT,Nat.reduceLeDiff,Nat.reduceBEq,Int.reduceLE,Int.reduceLT,Int.reduceToNat,reduceCtorEq,g0,g3,gk,hll,hd,hr,hz]);try rfl) (by simp only[undef,am0,am1,am2,am3,amb0,amb1,amb2,amb3,amb4,lwn,drn,callee,wantedB,isW,eff,pev,pst0,retPost,resAll,resP,resV,intP,mkV,putC,pbin,sbin,strsEq,peq,pint,pshift,pstr,pun,pconv,isShift,isConstB,app,subS,lay,rowsOf,lkV,keyKind,keyEq,mfind,mput,oInt,isZeroInt,forall_const,exists_eq_left',implies_true,IntKind.bits, ↓reduceIte,Nat.reduceEqDiff,Nat.reduceAdd,Nat.reduceSub,Nat.reduceMul,Nat.reduceLT,Nat.reduceLeDiff,Nat.reduceBEq,Int.reduceLE,Int.reduceLT,Int.reduceToNat,reduceCtorEq,Ty.all,g0,g3,gk,hll,hd,hr,hz];try trivial) ?_
    simp(maxSteps:=2000000) only[undef,am0,am1,am2,am3,amb0,amb1,amb2,amb3,amb4,lwn,drn,callee,wantedB,isW,eff,pev,pst0,retPost,resAll,resP,resV,intP,mkV,putC,pbin,sbin,strsEq,peq,pint,pshift,pstr,pun,pconv,isShift,isConstB,app,subS,lay,rowsOf,lkV,keyKind,keyEq,mfind,mput,oInt,isZeroInt,forall_const,exists_eq_left',implies_true,IntKind.bits, ↓reduceIte,Nat.reduceEqDiff,Nat.reduceAdd,Nat.reduceSub,Nat.reduceMul,Nat.reduceLT,Nat.reduceLeDiff,Nat.reduceBEq,Int.reduceLE,Int.reduceLT,Int.reduceToNat,reduceCtorEq,Ty.all,Option.getD_some,g0,g3,gk,hll,hd,hr,hz]
    repeat'(first
     |refine a_seq fun K hK=>?_
     |(refine a_block ?_)
     |((first|refine a_regionS ?_|refine a_drawS (by decide+kernel) ?_|refine a_region (fun K hK=>?_)|refine a_draw (by decide+kernel) (fun K hK=>?_)|refine a_ret ?_);simp(maxSteps:=2000000) only[undef,am0,am1,am2,am3,amb0,amb1,amb2,amb3,amb4,lwn,drn,callee,wantedB,isW,eff,pev,pst0,retPost,resAll,resP,resV,intP,mkV,putC,pbin,sbin,strsEq,peq,pint,pshift,pstr,pun,pconv,isShift,isConstB,app,subS,lay,rowsOf,lkV,keyKind,keyEq,mfind,mput,oInt,isZeroInt,forall_const,exists_eq_left',implies_true,IntKind.bits, ↓reduceIte,Nat.reduceEqDiff,Nat.reduceAdd,Nat.reduceSub,Nat.reduceMul,Nat.reduceLT,Nat.reduceLeDiff,Nat.reduceBEq,Int.reduceLE,Int.reduceLT,Int.reduceToNat,reduceCtorEq,Ty.all,g0,g3,gk,w7,hz])
     |(refine a_skip ?_;try simp only[pst0, ↓reduceIte,Nat.reduceEqDiff])
     |(refine a_exit ?_;try simp only[pst0, ↓reduceIte,Nat.reduceEqDiff])
     |(refine a_cond _ (by(try simp(maxSteps:=2000000) only[undef,am0,am1,am2,am3,amb0,amb1,amb2,amb3,amb4,lwn,drn,callee,wantedB,isW,eff,pev,pst0,retPost,resAll,resP,resV,intP,mkV,putC,pbin,sbin,strsEq,peq,pint,pshift,pstr,pun,pconv,isShift,isConstB,app,subS,lay,rowsOf,lkV,keyKind,keyEq,mfind,mput,oInt,isZeroInt,forall_const,exists_eq_left',implies_true,IntKind.bits, ↓reduceIte,Nat.reduceEqDiff,Nat.reduceAdd,Nat.reduceSub,Nat.reduceMul,Nat.reduceLT,Nat.reduceLeDiff,Nat.reduceBEq,Int.reduceLE,Int.reduceLT,Int.reduceToNat,reduceCtorEq,Ty.all,g0,g3,gk,w7,hz]);rfl) (fun hb=>?_) (fun hb=>?_)<;>(try simp only[hb0,decide_eq_true_eq,decide_eq_false_iff_not,reduceCtorEq]at hb)<;>(try(exfalso;omega)))
     |(with_reducible refine ite_in (fun hb=>?_) (fun hb=>?_)<;>(try simp only[Decidable.not_not]at hb)<;>(try simp only[hb,if_true,if_false,not_false_eq_true,not_true_eq_false, ↓reduceIte])<;>(try simp only[hb0,decide_eq_true_eq,decide_eq_false_iff_not,reduceCtorEq]at hb)<;>(try(exfalso;omega)))
     |(refine hK _ _ ?_;clear hK;try simp only[pst0, ↓reduceIte,Nat.reduceEqDiff])
     |(clear hK;refine hK _ _ ?_;clear hK;try simp only[pst0, ↓reduceIte,Nat.reduceEqDiff])
     |(clear hK;clear hK;refine hK _ _ ?_;clear hK;try simp only[pst0, ↓reduceIte,Nat.reduceEqDiff])
     |(clear hK;clear hK;clear hK;refine hK _ _ ?_;clear hK;try simp only[pst0, ↓reduceIte,Nat.reduceEqDiff])
     |((first|(with_reducible refine a_past _ rfl (by decide+kernel) ?_)|(with_reducible refine a_past2 (by simp only[List.forall_mem_cons,undef,am0,am1,am2,am3,amb0,amb1,amb2,amb3,amb4,lwn,drn,callee,wantedB,isW,eff,pev,pst0,retPost,resAll,resP,resV,intP,mkV,putC,pbin,sbin,strsEq,peq,pint,pshift,pstr,pun,pconv,isShift,isConstB,app,subS,lay,rowsOf,lkV,keyKind,keyEq,mfind,mput,oInt,isZeroInt,forall_const,exists_eq_left',implies_true,IntKind.bits, ↓reduceIte,Nat.reduceEqDiff,Nat.reduceAdd,Nat.reduceSub,Nat.reduceMul,Nat.reduceLT,Nat.reduceLeDiff,Nat.reduceBEq,Int.reduceLE,Int.reduceLT,Int.reduceToNat,reduceCtorEq,Ty.all,g0,g3,gk,w7,hz]<;>(repeat' apply And.intro)<;>first|trivial|exact .inl (by decide+kernel)) ?_));try simp(maxSteps:=2000000) only[undef,am0,am1,am2,am3,amb0,amb1,amb2,amb3,amb4,lwn,drn,callee,wantedB,isW,eff,pev,pst0,retPost,resAll,resP,resV,intP,mkV,putC,pbin,sbin,strsEq,peq,pint,pshift,pstr,pun,pconv,isShift,isConstB,app,subS,lay,rowsOf,lkV,keyKind,keyEq,mfind,mput,oInt,isZeroInt,forall_const,exists_eq_left',implies_true,IntKind.bits, ↓reduceIte,Nat.reduceEqDiff,Nat.reduceAdd,Nat.reduceSub,Nat.reduceMul,Nat.reduceLT,Nat.reduceLeDiff,Nat.reduceBEq,Int.reduceLE,Int.reduceLT,Int.reduceToNat,reduceCtorEq,Ty.all,g0,g3,gk,w7,hz])
     |(rw[if_pos];rotate_left 1;omega;simp(maxSteps:=2000000) only[undef,am0,am1,am2,am3,amb0,amb1,amb2,amb3,amb4,lwn,drn,callee,wantedB,isW,eff,pev,pst0,retPost,resAll,resP,resV,intP,mkV,putC,pbin,sbin,strsEq,peq,pint,pshift,pstr,pun,pconv,isShift,isConstB,app,subS,lay,rowsOf,lkV,keyKind,keyEq,mfind,mput,oInt,isZeroInt,forall_const,exists_eq_left',implies_true,IntKind.bits, ↓reduceIte,Nat.reduceEqDiff,Nat.reduceAdd,Nat.reduceSub,Nat.reduceMul,Nat.reduceLT,Nat.reduceLeDiff,Nat.reduceBEq,Int.reduceLE,Int.reduceLT,Int.reduceToNat,reduceCtorEq,Ty.all,g0,g3,gk,w7,hz]))
    exact⟨l.length-(k+1),by omega,k+1,by simp,by omega,rfl,hinv⟩
  ·have hd:decide ((k:Int)<(l.length:Int))=false:=by simp;omega
   rw[List.drop_eq_nil_of_le (by omega)]at hinv
   simp only[List.any_nil]at hinv
   repeat'(first
    |refine a_seq fun K hK=>?_
    |(refine a_block ?_)
    |((first|refine a_regionS ?_|refine a_region (fun K hK=>?_)|refine a_ret ?_);simp(maxSteps:=2000000) only[undef,am0,am1,am2,am3,amb0,amb1,amb2,amb3,amb4,lwn,drn,callee,wantedB,isW,eff,pev,pst0,retPost,resAll,resP,resV,intP,mkV,putC,pbin,sbin,strsEq,peq,pint,pshift,pstr,pun,pconv,isShift,isConstB,app,subS,lay,rowsOf,lkV,keyKind,keyEq,mfind,mput,oInt,isZeroInt,forall_const,exists_eq_left',implies_true,IntKind.bits, ↓reduceIte,Nat.reduceEqDiff,Nat.reduceAdd,Nat.reduceSub,Nat.reduceMul,Nat.reduceLT,Nat.reduceLeDiff,Nat.reduceBEq,Int.reduceLE,Int.reduceLT,Int.reduceToNat,reduceCtorEq,Ty.all,g0,g3,gk,hll,hd])
    |(refine a_skip ?_;try simp only[pst0, ↓reduceIte,Nat.reduceEqDiff])
    |(refine a_exit ?_;try simp only[pst0, ↓reduceIte,Nat.reduceEqDiff])
    |(refine a_cond _ (by(try simp(maxSteps:=2000000) only[undef,am0,am1,am2,am3,amb0,amb1,amb2,amb3,amb4,lwn,drn,callee,wantedB,isW,eff,pev,pst0,retPost,resAll,resP,resV,intP,mkV,putC,pbin,sbin,strsEq,peq,pint,pshift,pstr,pun,pconv,isShift,isConstB,app,subS,lay,rowsOf,lkV,keyKind,keyEq,mfind,mput,oInt,isZeroInt,forall_const,exists_eq_left',implies_true,IntKind.bits, ↓reduceIte,Nat.reduceEqDiff,Nat.reduceAdd,Nat.reduceSub,Nat.reduceMul,Nat.reduceLT,Nat.reduceLeDiff,Nat.reduceBEq,Int.reduceLE,Int.reduceLT,Int.reduceToNat,reduceCtorEq,Ty.all,g0,g3,gk,hll,hd]);rfl) (fun hb=>?_) (fun hb=>?_)<;>(try simp only[hb0,decide_eq_true_eq,decide_eq_false_iff_not,reduceCtorEq]at hb)<;>(try(exfalso;omega)))
    |(with_reducible refine ite_in (fun hb=>?_) (fun hb=>?_)<;>(try simp only[Decidable.not_not]at hb)<;>(try simp only[hb,if_true,if_false,not_false_eq_true,not_true_eq_false, ↓reduceIte])<;>(try simp only[hb0,decide_eq_true_eq,decide_eq_false_iff_not,reduceCtorEq]at hb)<;>(try(exfalso;omega)))
    |(refine hK _ _ ?_;clear hK;try simp only[pst0, ↓reduceIte,Nat.reduceEqDiff])
    |(clear hK;refine hK _ _ ?_;clear hK;try simp only[pst0, ↓reduceIte,Nat.reduceEqDiff])
    |(clear hK;clear hK;refine hK _ _ ?_;clear hK;try simp only[pst0, ↓reduceIte,Nat.reduceEqDiff])
    |(clear hK;clear hK;clear hK;refine hK _ _ ?_;clear hK;try simp only[pst0, ↓reduceIte,Nat.reduceEqDiff])
    |(rw[if_pos];rotate_left 1;omega;simp(maxSteps:=2000000) only[undef,am0,am1,am2,am3,amb0,amb1,amb2,amb3,amb4,lwn,drn,callee,wantedB,isW,eff,pev,pst0,retPost,resAll,resP,resV,intP,mkV,putC,pbin,sbin,strsEq,peq,pint,pshift,pstr,pun,pconv,isShift,isConstB,app,subS,lay,rowsOf,lkV,keyKind,keyEq,mfind,mput,oInt,isZeroInt,forall_const,exists_eq_left',implies_true,IntKind.bits, ↓reduceIte,Nat.reduceEqDiff,Nat.reduceAdd,Nat.reduceSub,Nat.reduceMul,Nat.reduceLT,Nat.reduceLeDiff,Nat.reduceBEq,Int.reduceLE,Int.reduceLT,Int.reduceToNat,reduceCtorEq,Ty.all,g0,g3,gk,hll,hd]))
   rw[hinv]
theorem problemInit_c{p:Pb}(hp:p.okS)(hI:p.init.length≤1048576)(hal: ∀ a∈p.init,a.args.length≤1048576):
  PCall Try.prog 3 [.agg p.cells] Heap.nil fun r _=>r= .sc (.bool true):=by
 have hL:=plarge_c p hp
 have hN:=fun h=>pInit_c hI hp.init.2 (fun a ha=>by have:=hal a ha;omega) h
 have hok:=hp.init.2
 have hbig:(1048576:Nat)≤bigN:=by decide
 generalize largeP p=big at hL
 clear hp
 obtain⟨pn,pd,po,pi,pv,⟨gop,gname,gargs,gparams,gexprs,gkids⟩⟩:=p
 simp only[Pb.cells,Fm.cells,List.cons_append,List.nil_append]at hL hN hI hok⊢
 have hli:=atRows_len pi
 cases big with
 |true=>
  refine pcall_body (ow:=fun _=>false) (wf:=fun _=>false) Ty.mixed Try.func3 rfl Ty.hb_3 (by rw[Try.ntmps3];simp) ?_
  rw[Try.ntmps3,Try.results3]
  repeat'(first
   |refine a_seq fun K hK=>?_
   |(refine a_block ?_)
   |((first|refine a_regionS ?_|refine a_region (fun K hK=>?_)|refine a_ret ?_);simp(maxSteps:=2000000) only[undef,am0,am1,am2,am3,amb0,amb1,amb2,amb3,amb4,lwn,drn,callee,wantedB,isW,eff,pev,pst0,retPost,resAll,resP,resV,intP,mkV,putC,pbin,sbin,strsEq,peq,pint,pshift,pstr,pun,pconv,isShift,isConstB,app,subS,lay,rowsOf,lkV,keyKind,keyEq,mfind,mput,oInt,isZeroInt,forall_const,exists_eq_left',implies_true,IntKind.bits, ↓reduceIte,Nat.reduceEqDiff,Nat.reduceAdd,Nat.reduceSub,Nat.reduceMul,Nat.reduceLT,Nat.reduceLeDiff,Nat.reduceBEq,Int.reduceLE,Int.reduceLT,Int.reduceToNat,reduceCtorEq,Ty.all])
   |(refine a_skip ?_;try simp only[pst0, ↓reduceIte,Nat.reduceEqDiff])
   |(refine a_exit ?_;try simp only[pst0, ↓reduceIte,Nat.reduceEqDiff])
   |(refine a_cond _ (by(try simp(maxSteps:=2000000) only[undef,am0,am1,am2,am3,amb0,amb1,amb2,amb3,amb4,lwn,drn,callee,wantedB,isW,eff,pev,pst0,retPost,resAll,resP,resV,intP,mkV,putC,pbin,sbin,strsEq,peq,pint,pshift,pstr,pun,pconv,isShift,isConstB,app,subS,lay,rowsOf,lkV,keyKind,keyEq,mfind,mput,oInt,isZeroInt,forall_const,exists_eq_left',implies_true,IntKind.bits, ↓reduceIte,Nat.reduceEqDiff,Nat.reduceAdd,Nat.reduceSub,Nat.reduceMul,Nat.reduceLT,Nat.reduceLeDiff,Nat.reduceBEq,Int.reduceLE,Int.reduceLT,Int.reduceToNat,reduceCtorEq,Ty.all]);rfl) (fun hb=>?_) (fun hb=>?_)<;>(try simp only[hb0,decide_eq_true_eq,decide_eq_false_iff_not,reduceCtorEq]at hb)<;>(try(exfalso;omega)))
   |(with_reducible refine ite_in (fun hb=>?_) (fun hb=>?_)<;>(try simp only[Decidable.not_not]at hb)<;>(try simp only[hb,if_true,if_false,not_false_eq_true,not_true_eq_false, ↓reduceIte])<;>(try simp only[hb0,decide_eq_true_eq,decide_eq_false_iff_not,reduceCtorEq]at hb)<;>(try(exfalso;omega)))
   |(refine hK _ _ ?_;clear hK;try simp only[pst0, ↓reduceIte,Nat.reduceEqDiff])
   |(clear hK;refine hK _ _ ?_;clear hK;try simp only[pst0, ↓reduceIte,Nat.reduceEqDiff])
   |(clear hK;clear hK;refine hK _ _ ?_;clear hK;try simp only[pst0, ↓reduceIte,Nat.reduceEqDiff])
   |(clear hK;clear hK;clear hK;refine hK _ _ ?_;clear hK;try simp only[pst0, ↓reduceIte,Nat.reduceEqDiff])
   |(rw[if_pos];rotate_left 1;omega;simp(maxSteps:=2000000) only[undef,am0,am1,am2,am3,amb0,amb1,amb2,amb3,amb4,lwn,drn,callee,wantedB,isW,eff,pev,pst0,retPost,resAll,resP,resV,intP,mkV,putC,pbin,sbin,strsEq,peq,pint,pshift,pstr,pun,pconv,isShift,isConstB,app,subS,lay,rowsOf,lkV,keyKind,keyEq,mfind,mput,oInt,isZeroInt,forall_const,exists_eq_left',implies_true,IntKind.bits, ↓reduceIte,Nat.reduceEqDiff,Nat.reduceAdd,Nat.reduceSub,Nat.reduceMul,Nat.reduceLT,Nat.reduceLeDiff,Nat.reduceBEq,Int.reduceLE,Int.reduceLT,Int.reduceToNat,reduceCtorEq,Ty.all]))
  refine owp_useQ (hL _) (by(try simp only[undef,am0,am1,am2,am3,amb0,amb1,amb2,amb3,amb4,lwn,drn,callee,wantedB,isW,eff,pev,pst0,retPost,resAll,resP,resV,intP,mkV,putC,pbin,sbin,strsEq,peq,pint,pshift,pstr,pun,pconv,isShift,isConstB,app,subS,lay,rowsOf,lkV,keyKind,keyEq,mfind,mput,oInt,isZeroInt,forall_const,exists_eq_left',implies_true,IntKind.bits, ↓reduceIte,Nat.reduceEqDiff,Nat.reduceAdd,Nat.reduceSub,Nat.reduceMul,Nat.reduceLT,Nat.reduceLeDiff,Nat.reduceBEq,Int.reduceLE,Int.reduceLT,Int.reduceToNat,reduceCtorEq,]);try rfl) ?_
  simp(maxSteps:=2000000) only[undef,am0,am1,am2,am3,amb0,amb1,amb2,amb3,amb4,lwn,drn,callee,wantedB,isW,eff,pev,pst0,retPost,resAll,resP,resV,intP,mkV,putC,pbin,sbin,strsEq,peq,pint,pshift,pstr,pun,pconv,isShift,isConstB,app,subS,lay,rowsOf,lkV,keyKind,keyEq,mfind,mput,oInt,isZeroInt,forall_const,exists_eq_left',implies_true,IntKind.bits, ↓reduceIte,Nat.reduceEqDiff,Nat.reduceAdd,Nat.reduceSub,Nat.reduceMul,Nat.reduceLT,Nat.reduceLeDiff,Nat.reduceBEq,Int.reduceLE,Int.reduceLT,Int.reduceToNat,reduceCtorEq,Ty.all,]
  repeat'(first
   |refine a_seq fun K hK=>?_
   |(refine a_block ?_)
   |((first|refine a_regionS ?_|refine a_region (fun K hK=>?_)|refine a_ret ?_);simp(maxSteps:=2000000) only[undef,am0,am1,am2,am3,amb0,amb1,amb2,amb3,amb4,lwn,drn,callee,wantedB,isW,eff,pev,pst0,retPost,resAll,resP,resV,intP,mkV,putC,pbin,sbin,strsEq,peq,pint,pshift,pstr,pun,pconv,isShift,isConstB,app,subS,lay,rowsOf,lkV,keyKind,keyEq,mfind,mput,oInt,isZeroInt,forall_const,exists_eq_left',implies_true,IntKind.bits, ↓reduceIte,Nat.reduceEqDiff,Nat.reduceAdd,Nat.reduceSub,Nat.reduceMul,Nat.reduceLT,Nat.reduceLeDiff,Nat.reduceBEq,Int.reduceLE,Int.reduceLT,Int.reduceToNat,reduceCtorEq,Ty.all])
   |(refine a_skip ?_;try simp only[pst0, ↓reduceIte,Nat.reduceEqDiff])
   |(refine a_exit ?_;try simp only[pst0, ↓reduceIte,Nat.reduceEqDiff])
   |(refine a_cond _ (by(try simp(maxSteps:=2000000) only[undef,am0,am1,am2,am3,amb0,amb1,amb2,amb3,amb4,lwn,drn,callee,wantedB,isW,eff,pev,pst0,retPost,resAll,resP,resV,intP,mkV,putC,pbin,sbin,strsEq,peq,pint,pshift,pstr,pun,pconv,isShift,isConstB,app,subS,lay,rowsOf,lkV,keyKind,keyEq,mfind,mput,oInt,isZeroInt,forall_const,exists_eq_left',implies_true,IntKind.bits, ↓reduceIte,Nat.reduceEqDiff,Nat.reduceAdd,Nat.reduceSub,Nat.reduceMul,Nat.reduceLT,Nat.reduceLeDiff,Nat.reduceBEq,Int.reduceLE,Int.reduceLT,Int.reduceToNat,reduceCtorEq,Ty.all]);rfl) (fun hb=>?_) (fun hb=>?_)<;>(try simp only[hb0,decide_eq_true_eq,decide_eq_false_iff_not,reduceCtorEq]at hb)<;>(try(exfalso;omega)))
   |(with_reducible refine ite_in (fun hb=>?_) (fun hb=>?_)<;>(try simp only[Decidable.not_not]at hb)<;>(try simp only[hb,if_true,if_false,not_false_eq_true,not_true_eq_false, ↓reduceIte])<;>(try simp only[hb0,decide_eq_true_eq,decide_eq_false_iff_not,reduceCtorEq]at hb)<;>(try(exfalso;omega)))
   |(refine hK _ _ ?_;clear hK;try simp only[pst0, ↓reduceIte,Nat.reduceEqDiff])
   |(clear hK;refine hK _ _ ?_;clear hK;try simp only[pst0, ↓reduceIte,Nat.reduceEqDiff])
   |(clear hK;clear hK;refine hK _ _ ?_;clear hK;try simp only[pst0, ↓reduceIte,Nat.reduceEqDiff])
   |(clear hK;clear hK;clear hK;refine hK _ _ ?_;clear hK;try simp only[pst0, ↓reduceIte,Nat.reduceEqDiff])
   |(rw[if_pos];rotate_left 1;omega;simp(maxSteps:=2000000) only[undef,am0,am1,am2,am3,amb0,amb1,amb2,amb3,amb4,lwn,drn,callee,wantedB,isW,eff,pev,pst0,retPost,resAll,resP,resV,intP,mkV,putC,pbin,sbin,strsEq,peq,pint,pshift,pstr,pun,pconv,isShift,isConstB,app,subS,lay,rowsOf,lkV,keyKind,keyEq,mfind,mput,oInt,isZeroInt,forall_const,exists_eq_left',implies_true,IntKind.bits, ↓reduceIte,Nat.reduceEqDiff,Nat.reduceAdd,Nat.reduceSub,Nat.reduceMul,Nat.reduceLT,Nat.reduceLeDiff,Nat.reduceBEq,Int.reduceLE,Int.reduceLT,Int.reduceToNat,reduceCtorEq,Ty.all]))
  refine owp_useQ (pbAwake_c) (by(try simp only[undef,am0,am1,am2,am3,amb0,amb1,amb2,amb3,amb4,lwn,drn,callee,wantedB,isW,eff,pev,pst0,retPost,resAll,resP,resV,intP,mkV,putC,pbin,sbin,strsEq,peq,pint,pshift,pstr,pun,pconv,isShift,isConstB,app,subS,lay,rowsOf,lkV,keyKind,keyEq,mfind,mput,oInt,isZeroInt,forall_const,exists_eq_left',implies_true,IntKind.bits, ↓reduceIte,Nat.reduceEqDiff,Nat.reduceAdd,Nat.reduceSub,Nat.reduceMul,Nat.reduceLT,Nat.reduceLeDiff,Nat.reduceBEq,Int.reduceLE,Int.reduceLT,Int.reduceToNat,reduceCtorEq,]);try rfl) ?_
  simp(maxSteps:=2000000) only[undef,am0,am1,am2,am3,amb0,amb1,amb2,amb3,amb4,lwn,drn,callee,wantedB,isW,eff,pev,pst0,retPost,resAll,resP,resV,intP,mkV,putC,pbin,sbin,strsEq,peq,pint,pshift,pstr,pun,pconv,isShift,isConstB,app,subS,lay,rowsOf,lkV,keyKind,keyEq,mfind,mput,oInt,isZeroInt,forall_const,exists_eq_left',implies_true,IntKind.bits, ↓reduceIte,Nat.reduceEqDiff,Nat.reduceAdd,Nat.reduceSub,Nat.reduceMul,Nat.reduceLT,Nat.reduceLeDiff,Nat.reduceBEq,Int.reduceLE,Int.reduceLT,Int.reduceToNat,reduceCtorEq,Ty.all,]
  repeat'(first
   |refine a_seq fun K hK=>?_
   |(refine a_block ?_)
   |((first|refine a_regionS ?_|refine a_region (fun K hK=>?_)|refine a_ret ?_);simp(maxSteps:=2000000) only[undef,am0,am1,am2,am3,amb0,amb1,amb2,amb3,amb4,lwn,drn,callee,wantedB,isW,eff,pev,pst0,retPost,resAll,resP,resV,intP,mkV,putC,pbin,sbin,strsEq,peq,pint,pshift,pstr,pun,pconv,isShift,isConstB,app,subS,lay,rowsOf,lkV,keyKind,keyEq,mfind,mput,oInt,isZeroInt,forall_const,exists_eq_left',implies_true,IntKind.bits, ↓reduceIte,Nat.reduceEqDiff,Nat.reduceAdd,Nat.reduceSub,Nat.reduceMul,Nat.reduceLT,Nat.reduceLeDiff,Nat.reduceBEq,Int.reduceLE,Int.reduceLT,Int.reduceToNat,reduceCtorEq,Ty.all])
   |(refine a_skip ?_;try simp only[pst0, ↓reduceIte,Nat.reduceEqDiff])
   |(refine a_exit ?_;try simp only[pst0, ↓reduceIte,Nat.reduceEqDiff])
   |(refine a_cond _ (by(try simp(maxSteps:=2000000) only[undef,am0,am1,am2,am3,amb0,amb1,amb2,amb3,amb4,lwn,drn,callee,wantedB,isW,eff,pev,pst0,retPost,resAll,resP,resV,intP,mkV,putC,pbin,sbin,strsEq,peq,pint,pshift,pstr,pun,pconv,isShift,isConstB,app,subS,lay,rowsOf,lkV,keyKind,keyEq,mfind,mput,oInt,isZeroInt,forall_const,exists_eq_left',implies_true,IntKind.bits, ↓reduceIte,Nat.reduceEqDiff,Nat.reduceAdd,Nat.reduceSub,Nat.reduceMul,Nat.reduceLT,Nat.reduceLeDiff,Nat.reduceBEq,Int.reduceLE,Int.reduceLT,Int.reduceToNat,reduceCtorEq,Ty.all]);rfl) (fun hb=>?_) (fun hb=>?_)<;>(try simp only[hb0,decide_eq_true_eq,decide_eq_false_iff_not,reduceCtorEq]at hb)<;>(try(exfalso;omega)))
   |(with_reducible refine ite_in (fun hb=>?_) (fun hb=>?_)<;>(try simp only[Decidable.not_not]at hb)<;>(try simp only[hb,if_true,if_false,not_false_eq_true,not_true_eq_false, ↓reduceIte])<;>(try simp only[hb0,decide_eq_true_eq,decide_eq_false_iff_not,reduceCtorEq]at hb)<;>(try(exfalso;omega)))
   |(refine hK _ _ ?_;clear hK;try simp only[pst0, ↓reduceIte,Nat.reduceEqDiff])
   |(clear hK;refine hK _ _ ?_;clear hK;try simp only[pst0, ↓reduceIte,Nat.reduceEqDiff])
   |(clear hK;clear hK;refine hK _ _ ?_;clear hK;try simp only[pst0, ↓reduceIte,Nat.reduceEqDiff])
   |(clear hK;clear hK;clear hK;refine hK _ _ ?_;clear hK;try simp only[pst0, ↓reduceIte,Nat.reduceEqDiff])
   |(rw[if_pos];rotate_left 1;omega;simp(maxSteps:=2000000) only[undef,am0,am1,am2,am3,amb0,amb1,amb2,amb3,amb4,lwn,drn,callee,wantedB,isW,eff,pev,pst0,retPost,resAll,resP,resV,intP,mkV,putC,pbin,sbin,strsEq,peq,pint,pshift,pstr,pun,pconv,isShift,isConstB,app,subS,lay,rowsOf,lkV,keyKind,keyEq,mfind,mput,oInt,isZeroInt,forall_const,exists_eq_left',implies_true,IntKind.bits, ↓reduceIte,Nat.reduceEqDiff,Nat.reduceAdd,Nat.reduceSub,Nat.reduceMul,Nat.reduceLT,Nat.reduceLeDiff,Nat.reduceBEq,Int.reduceLE,Int.reduceLT,Int.reduceToNat,reduceCtorEq,Ty.all]))
 |false=>
  refine pcall_body (ow:=fun _=>false) (wf:=fun _=>false) Ty.mixed Try.func3 rfl Ty.hb_3 (by rw[Try.ntmps3];simp) ?_
  rw[Try.ntmps3,Try.results3]
  repeat'(first
   |refine a_seq fun K hK=>?_
   |(refine a_block ?_)
   |((first|refine a_regionS ?_|refine a_region (fun K hK=>?_)|refine a_ret ?_);simp(maxSteps:=2000000) only[undef,am0,am1,am2,am3,amb0,amb1,amb2,amb3,amb4,lwn,drn,callee,wantedB,isW,eff,pev,pst0,retPost,resAll,resP,resV,intP,mkV,putC,pbin,sbin,strsEq,peq,pint,pshift,pstr,pun,pconv,isShift,isConstB,app,subS,lay,rowsOf,lkV,keyKind,keyEq,mfind,mput,oInt,isZeroInt,forall_const,exists_eq_left',implies_true,IntKind.bits, ↓reduceIte,Nat.reduceEqDiff,Nat.reduceAdd,Nat.reduceSub,Nat.reduceMul,Nat.reduceLT,Nat.reduceLeDiff,Nat.reduceBEq,Int.reduceLE,Int.reduceLT,Int.reduceToNat,reduceCtorEq,Ty.all])
   |(refine a_skip ?_;try simp only[pst0, ↓reduceIte,Nat.reduceEqDiff])
   |(refine a_exit ?_;try simp only[pst0, ↓reduceIte,Nat.reduceEqDiff])
   |(refine a_cond _ (by(try simp(maxSteps:=2000000) only[undef,am0,am1,am2,am3,amb0,amb1,amb2,amb3,amb4,lwn,drn,callee,wantedB,isW,eff,pev,pst0,retPost,resAll,resP,resV,intP,mkV,putC,pbin,sbin,strsEq,peq,pint,pshift,pstr,pun,pconv,isShift,isConstB,app,subS,lay,rowsOf,lkV,keyKind,keyEq,mfind,mput,oInt,isZeroInt,forall_const,exists_eq_left',implies_true,IntKind.bits, ↓reduceIte,Nat.reduceEqDiff,Nat.reduceAdd,Nat.reduceSub,Nat.reduceMul,Nat.reduceLT,Nat.reduceLeDiff,Nat.reduceBEq,Int.reduceLE,Int.reduceLT,Int.reduceToNat,reduceCtorEq,Ty.all]);rfl) (fun hb=>?_) (fun hb=>?_)<;>(try simp only[hb0,decide_eq_true_eq,decide_eq_false_iff_not,reduceCtorEq]at hb)<;>(try(exfalso;omega)))
   |(with_reducible refine ite_in (fun hb=>?_) (fun hb=>?_)<;>(try simp only[Decidable.not_not]at hb)<;>(try simp only[hb,if_true,if_false,not_false_eq_true,not_true_eq_false, ↓reduceIte])<;>(try simp only[hb0,decide_eq_true_eq,decide_eq_false_iff_not,reduceCtorEq]at hb)<;>(try(exfalso;omega)))
   |(refine hK _ _ ?_;clear hK;try simp only[pst0, ↓reduceIte,Nat.reduceEqDiff])
   |(clear hK;refine hK _ _ ?_;clear hK;try simp only[pst0, ↓reduceIte,Nat.reduceEqDiff])
   |(clear hK;clear hK;refine hK _ _ ?_;clear hK;try simp only[pst0, ↓reduceIte,Nat.reduceEqDiff])
   |(clear hK;clear hK;clear hK;refine hK _ _ ?_;clear hK;try simp only[pst0, ↓reduceIte,Nat.reduceEqDiff])
   |(rw[if_pos];rotate_left 1;omega;simp(maxSteps:=2000000) only[undef,am0,am1,am2,am3,amb0,amb1,amb2,amb3,amb4,lwn,drn,callee,wantedB,isW,eff,pev,pst0,retPost,resAll,resP,resV,intP,mkV,putC,pbin,sbin,strsEq,peq,pint,pshift,pstr,pun,pconv,isShift,isConstB,app,subS,lay,rowsOf,lkV,keyKind,keyEq,mfind,mput,oInt,isZeroInt,forall_const,exists_eq_left',implies_true,IntKind.bits, ↓reduceIte,Nat.reduceEqDiff,Nat.reduceAdd,Nat.reduceSub,Nat.reduceMul,Nat.reduceLT,Nat.reduceLeDiff,Nat.reduceBEq,Int.reduceLE,Int.reduceLT,Int.reduceToNat,reduceCtorEq,Ty.all]))
  refine owp_useQ (hL _) (by(try simp only[undef,am0,am1,am2,am3,amb0,amb1,amb2,amb3,amb4,lwn,drn,callee,wantedB,isW,eff,pev,pst0,retPost,resAll,resP,resV,intP,mkV,putC,pbin,sbin,strsEq,peq,pint,pshift,pstr,pun,pconv,isShift,isConstB,app,subS,lay,rowsOf,lkV,keyKind,keyEq,mfind,mput,oInt,isZeroInt,forall_const,exists_eq_left',implies_true,IntKind.bits, ↓reduceIte,Nat.reduceEqDiff,Nat.reduceAdd,Nat.reduceSub,Nat.reduceMul,Nat.reduceLT,Nat.reduceLeDiff,Nat.reduceBEq,Int.reduceLE,Int.reduceLT,Int.reduceToNat,reduceCtorEq,]);try rfl) ?_
  simp(maxSteps:=2000000) only[undef,am0,am1,am2,am3,amb0,amb1,amb2,amb3,amb4,lwn,drn,callee,wantedB,isW,eff,pev,pst0,retPost,resAll,resP,resV,intP,mkV,putC,pbin,sbin,strsEq,peq,pint,pshift,pstr,pun,pconv,isShift,isConstB,app,subS,lay,rowsOf,lkV,keyKind,keyEq,mfind,mput,oInt,isZeroInt,forall_const,exists_eq_left',implies_true,IntKind.bits, ↓reduceIte,Nat.reduceEqDiff,Nat.reduceAdd,Nat.reduceSub,Nat.reduceMul,Nat.reduceLT,Nat.reduceLeDiff,Nat.reduceBEq,Int.reduceLE,Int.reduceLT,Int.reduceToNat,reduceCtorEq,Ty.all,]
  repeat'(first
   |refine a_seq fun K hK=>?_
   |(refine a_block ?_)
   |((first|refine a_regionS ?_|refine a_region (fun K hK=>?_)|refine a_ret ?_);simp(maxSteps:=2000000) only[undef,am0,am1,am2,am3,amb0,amb1,amb2,amb3,amb4,lwn,drn,callee,wantedB,isW,eff,pev,pst0,retPost,resAll,resP,resV,intP,mkV,putC,pbin,sbin,strsEq,peq,pint,pshift,pstr,pun,pconv,isShift,isConstB,app,subS,lay,rowsOf,lkV,keyKind,keyEq,mfind,mput,oInt,isZeroInt,forall_const,exists_eq_left',implies_true,IntKind.bits, ↓reduceIte,Nat.reduceEqDiff,Nat.reduceAdd,Nat.reduceSub,Nat.reduceMul,Nat.reduceLT,Nat.reduceLeDiff,Nat.reduceBEq,Int.reduceLE,Int.reduceLT,Int.reduceToNat,reduceCtorEq,Ty.all])
   |(refine a_skip ?_;try simp only[pst0, ↓reduceIte,Nat.reduceEqDiff])
   |(refine a_exit ?_;try simp only[pst0, ↓reduceIte,Nat.reduceEqDiff])
   |(refine a_cond _ (by(try simp(maxSteps:=2000000) only[undef,am0,am1,am2,am3,amb0,amb1,amb2,amb3,amb4,lwn,drn,callee,wantedB,isW,eff,pev,pst0,retPost,resAll,resP,resV,intP,mkV,putC,pbin,sbin,strsEq,peq,pint,pshift,pstr,pun,pconv,isShift,isConstB,app,subS,lay,rowsOf,lkV,keyKind,keyEq,mfind,mput,oInt,isZeroInt,forall_const,exists_eq_left',implies_true,IntKind.bits, ↓reduceIte,Nat.reduceEqDiff,Nat.reduceAdd,Nat.reduceSub,Nat.reduceMul,Nat.reduceLT,Nat.reduceLeDiff,Nat.reduceBEq,Int.reduceLE,Int.reduceLT,Int.reduceToNat,reduceCtorEq,Ty.all]);rfl) (fun hb=>?_) (fun hb=>?_)<;>(try simp only[hb0,decide_eq_true_eq,decide_eq_false_iff_not,reduceCtorEq]at hb)<;>(try(exfalso;omega)))
   |(with_reducible refine ite_in (fun hb=>?_) (fun hb=>?_)<;>(try simp only[Decidable.not_not]at hb)<;>(try simp only[hb,if_true,if_false,not_false_eq_true,not_true_eq_false, ↓reduceIte])<;>(try simp only[hb0,decide_eq_true_eq,decide_eq_false_iff_not,reduceCtorEq]at hb)<;>(try(exfalso;omega)))
   |(refine hK _ _ ?_;clear hK;try simp only[pst0, ↓reduceIte,Nat.reduceEqDiff])
   |(clear hK;refine hK _ _ ?_;clear hK;try simp only[pst0, ↓reduceIte,Nat.reduceEqDiff])
   |(clear hK;clear hK;refine hK _ _ ?_;clear hK;try simp only[pst0, ↓reduceIte,Nat.reduceEqDiff])
   |(clear hK;clear hK;clear hK;refine hK _ _ ?_;clear hK;try simp only[pst0, ↓reduceIte,Nat.reduceEqDiff])
   |(rw[if_pos];rotate_left 1;omega;simp(maxSteps:=2000000) only[undef,am0,am1,am2,am3,amb0,amb1,amb2,amb3,amb4,lwn,drn,callee,wantedB,isW,eff,pev,pst0,retPost,resAll,resP,resV,intP,mkV,putC,pbin,sbin,strsEq,peq,pint,pshift,pstr,pun,pconv,isShift,isConstB,app,subS,lay,rowsOf,lkV,keyKind,keyEq,mfind,mput,oInt,isZeroInt,forall_const,exists_eq_left',implies_true,IntKind.bits, ↓reduceIte,Nat.reduceEqDiff,Nat.reduceAdd,Nat.reduceSub,Nat.reduceMul,Nat.reduceLT,Nat.reduceLeDiff,Nat.reduceBEq,Int.reduceLE,Int.reduceLT,Int.reduceToNat,reduceCtorEq,Ty.all]))
  refine owp_useQ (pbAwake_c) (by(try simp only[undef,am0,am1,am2,am3,amb0,amb1,amb2,amb3,amb4,lwn,drn,callee,wantedB,isW,eff,pev,pst0,retPost,resAll,resP,resV,intP,mkV,putC,pbin,sbin,strsEq,peq,pint,pshift,pstr,pun,pconv,isShift,isConstB,app,subS,lay,rowsOf,lkV,keyKind,keyEq,mfind,mput,oInt,isZeroInt,forall_const,exists_eq_left',implies_true,IntKind.bits, ↓reduceIte,Nat.reduceEqDiff,Nat.reduceAdd,Nat.reduceSub,Nat.reduceMul,Nat.reduceLT,Nat.reduceLeDiff,Nat.reduceBEq,Int.reduceLE,Int.reduceLT,Int.reduceToNat,reduceCtorEq,Bool.not_true]);try rfl) ?_
  simp(maxSteps:=2000000) only[undef,am0,am1,am2,am3,amb0,amb1,amb2,amb3,amb4,lwn,drn,callee,wantedB,isW,eff,pev,pst0,retPost,resAll,resP,resV,intP,mkV,putC,pbin,sbin,strsEq,peq,pint,pshift,pstr,pun,pconv,isShift,isConstB,app,subS,lay,rowsOf,lkV,keyKind,keyEq,mfind,mput,oInt,isZeroInt,forall_const,exists_eq_left',implies_true,IntKind.bits, ↓reduceIte,Nat.reduceEqDiff,Nat.reduceAdd,Nat.reduceSub,Nat.reduceMul,Nat.reduceLT,Nat.reduceLeDiff,Nat.reduceBEq,Int.reduceLE,Int.reduceLT,Int.reduceToNat,reduceCtorEq,Ty.all,Bool.not_true]
  repeat'(first
   |refine a_seq fun K hK=>?_
   |(refine a_block ?_)
   |((first|refine a_regionS ?_|refine a_region (fun K hK=>?_)|refine a_ret ?_);simp(maxSteps:=2000000) only[undef,am0,am1,am2,am3,amb0,amb1,amb2,amb3,amb4,lwn,drn,callee,wantedB,isW,eff,pev,pst0,retPost,resAll,resP,resV,intP,mkV,putC,pbin,sbin,strsEq,peq,pint,pshift,pstr,pun,pconv,isShift,isConstB,app,subS,lay,rowsOf,lkV,keyKind,keyEq,mfind,mput,oInt,isZeroInt,forall_const,exists_eq_left',implies_true,IntKind.bits, ↓reduceIte,Nat.reduceEqDiff,Nat.reduceAdd,Nat.reduceSub,Nat.reduceMul,Nat.reduceLT,Nat.reduceLeDiff,Nat.reduceBEq,Int.reduceLE,Int.reduceLT,Int.reduceToNat,reduceCtorEq,Ty.all,Bool.not_true])
   |(refine a_skip ?_;try simp only[pst0, ↓reduceIte,Nat.reduceEqDiff])
   |(refine a_exit ?_;try simp only[pst0, ↓reduceIte,Nat.reduceEqDiff])
   |(refine a_cond _ (by(try simp(maxSteps:=2000000) only[undef,am0,am1,am2,am3,amb0,amb1,amb2,amb3,amb4,lwn,drn,callee,wantedB,isW,eff,pev,pst0,retPost,resAll,resP,resV,intP,mkV,putC,pbin,sbin,strsEq,peq,pint,pshift,pstr,pun,pconv,isShift,isConstB,app,subS,lay,rowsOf,lkV,keyKind,keyEq,mfind,mput,oInt,isZeroInt,forall_const,exists_eq_left',implies_true,IntKind.bits, ↓reduceIte,Nat.reduceEqDiff,Nat.reduceAdd,Nat.reduceSub,Nat.reduceMul,Nat.reduceLT,Nat.reduceLeDiff,Nat.reduceBEq,Int.reduceLE,Int.reduceLT,Int.reduceToNat,reduceCtorEq,Ty.all,Bool.not_true]);rfl) (fun hb=>?_) (fun hb=>?_)<;>(try simp only[hb0,decide_eq_true_eq,decide_eq_false_iff_not,reduceCtorEq]at hb)<;>(try(exfalso;omega)))
   |(with_reducible refine ite_in (fun hb=>?_) (fun hb=>?_)<;>(try simp only[Decidable.not_not]at hb)<;>(try simp only[hb,if_true,if_false,not_false_eq_true,not_true_eq_false, ↓reduceIte])<;>(try simp only[hb0,decide_eq_true_eq,decide_eq_false_iff_not,reduceCtorEq]at hb)<;>(try(exfalso;omega)))
   |(refine hK _ _ ?_;clear hK;try simp only[pst0, ↓reduceIte,Nat.reduceEqDiff])
   |(clear hK;refine hK _ _ ?_;clear hK;try simp only[pst0, ↓reduceIte,Nat.reduceEqDiff])
   |(clear hK;clear hK;refine hK _ _ ?_;clear hK;try simp only[pst0, ↓reduceIte,Nat.reduceEqDiff])
   |(clear hK;clear hK;clear hK;refine hK _ _ ?_;clear hK;try simp only[pst0, ↓reduceIte,Nat.reduceEqDiff])
   |(rw[if_pos];rotate_left 1;omega;simp(maxSteps:=2000000) only[undef,am0,am1,am2,am3,amb0,amb1,amb2,amb3,amb4,lwn,drn,callee,wantedB,isW,eff,pev,pst0,retPost,resAll,resP,resV,intP,mkV,putC,pbin,sbin,strsEq,peq,pint,pshift,pstr,pun,pconv,isShift,isConstB,app,subS,lay,rowsOf,lkV,keyKind,keyEq,mfind,mput,oInt,isZeroInt,forall_const,exists_eq_left',implies_true,IntKind.bits, ↓reduceIte,Nat.reduceEqDiff,Nat.reduceAdd,Nat.reduceSub,Nat.reduceMul,Nat.reduceLT,Nat.reduceLeDiff,Nat.reduceBEq,Int.reduceLE,Int.reduceLT,Int.reduceToNat,reduceCtorEq,Ty.all,Bool.not_true]))
  refine owp_useL (hN _) (by(try simp only[undef,am0,am1,am2,am3,amb0,amb1,amb2,amb3,amb4,lwn,drn,callee,wantedB,isW,eff,pev,pst0,retPost,resAll,resP,resV,intP,mkV,putC,pbin,sbin,strsEq,peq,pint,pshift,pstr,pun,pconv,isShift,isConstB,app,subS,lay,rowsOf,lkV,keyKind,keyEq,mfind,mput,oInt,isZeroInt,forall_const,exists_eq_left',implies_true,IntKind.bits, ↓reduceIte,Nat.reduceEqDiff,Nat.reduceAdd,Nat.reduceSub,Nat.reduceMul,Nat.reduceLT,Nat.reduceLeDiff,Nat.reduceBEq,Int.reduceLE,Int.reduceLT,Int.reduceToNat,reduceCtorEq]);try rfl) ?_
  rintro r h1 ⟨⟨D,q1,q2,rfl⟩,rfl⟩
  simp(maxSteps:=2000000) only[undef,am0,am1,am2,am3,amb0,amb1,amb2,amb3,amb4,lwn,drn,callee,wantedB,isW,eff,pev,pst0,retPost,resAll,resP,resV,intP,mkV,putC,pbin,sbin,strsEq,peq,pint,pshift,pstr,pun,pconv,isShift,isConstB,app,subS,lay,rowsOf,lkV,keyKind,keyEq,mfind,mput,oInt,isZeroInt,forall_const,exists_eq_left',implies_true,IntKind.bits, ↓reduceIte,Nat.reduceEqDiff,Nat.reduceAdd,Nat.reduceSub,Nat.reduceMul,Nat.reduceLT,Nat.reduceLeDiff,Nat.reduceBEq,Int.reduceLE,Int.reduceLT,Int.reduceToNat,reduceCtorEq,Ty.all]
  have hin: ∀ x∈compA D,x∈pi:=fun x hx=>q1.mem_iff.1 (compA_mem hx)
  have hhas: ∀ x∈pi, ∃ y∈compA D,kA y=kA x:=fun x hx=>compA_has (q1.mem_iff.2 hx)
  have hasc:=compA_asc q2
  have hlen:(compA D).length≤pi.length:=by rw[← q1.length_eq];exact compA_len D
  generalize compA D=L at hin hhas hasc hlen
  clear q1 q2 hL hN
  have hll:=atRows_len L
  repeat'(first
   |refine a_seq fun K hK=>?_
   |(refine a_block ?_)
   |((first|refine a_regionS ?_|refine a_region (fun K hK=>?_)|refine a_ret ?_);simp(maxSteps:=2000000) only[undef,am0,am1,am2,am3,amb0,amb1,amb2,amb3,amb4,lwn,drn,callee,wantedB,isW,eff,pev,pst0,retPost,resAll,resP,resV,intP,mkV,putC,pbin,sbin,strsEq,peq,pint,pshift,pstr,pun,pconv,isShift,isConstB,app,subS,lay,rowsOf,lkV,keyKind,keyEq,mfind,mput,oInt,isZeroInt,forall_const,exists_eq_left',implies_true,IntKind.bits, ↓reduceIte,Nat.reduceEqDiff,Nat.reduceAdd,Nat.reduceSub,Nat.reduceMul,Nat.reduceLT,Nat.reduceLeDiff,Nat.reduceBEq,Int.reduceLE,Int.reduceLT,Int.reduceToNat,reduceCtorEq,Ty.all])
   |(refine a_skip ?_;try simp only[pst0, ↓reduceIte,Nat.reduceEqDiff])
   |(refine a_exit ?_;try simp only[pst0, ↓reduceIte,Nat.reduceEqDiff])
   |(refine a_cond _ (by(try simp(maxSteps:=2000000) only[undef,am0,am1,am2,am3,amb0,amb1,amb2,amb3,amb4,lwn,drn,callee,wantedB,isW,eff,pev,pst0,retPost,resAll,resP,resV,intP,mkV,putC,pbin,sbin,strsEq,peq,pint,pshift,pstr,pun,pconv,isShift,isConstB,app,subS,lay,rowsOf,lkV,keyKind,keyEq,mfind,mput,oInt,isZeroInt,forall_const,exists_eq_left',implies_true,IntKind.bits, ↓reduceIte,Nat.reduceEqDiff,Nat.reduceAdd,Nat.reduceSub,Nat.reduceMul,Nat.reduceLT,Nat.reduceLeDiff,Nat.reduceBEq,Int.reduceLE,Int.reduceLT,Int.reduceToNat,reduceCtorEq,Ty.all]);rfl) (fun hb=>?_) (fun hb=>?_)<;>(try simp only[hb0,decide_eq_true_eq,decide_eq_false_iff_not,reduceCtorEq]at hb)<;>(try(exfalso;omega)))
   |(with_reducible refine ite_in (fun hb=>?_) (fun hb=>?_)<;>(try simp only[Decidable.not_not]at hb)<;>(try simp only[hb,if_true,if_false,not_false_eq_true,not_true_eq_false, ↓reduceIte])<;>(try simp only[hb0,decide_eq_true_eq,decide_eq_false_iff_not,reduceCtorEq]at hb)<;>(try(exfalso;omega)))
   |(refine hK _ _ ?_;clear hK;try simp only[pst0, ↓reduceIte,Nat.reduceEqDiff])
   |(clear hK;refine hK _ _ ?_;clear hK;try simp only[pst0, ↓reduceIte,Nat.reduceEqDiff])
   |(clear hK;clear hK;refine hK _ _ ?_;clear hK;try simp only[pst0, ↓reduceIte,Nat.reduceEqDiff])
   |(clear hK;clear hK;clear hK;refine hK _ _ ?_;clear hK;try simp only[pst0, ↓reduceIte,Nat.reduceEqDiff])
   |(rw[if_pos];rotate_left 1;omega;simp(maxSteps:=2000000) only[undef,am0,am1,am2,am3,amb0,amb1,amb2,amb3,amb4,lwn,drn,callee,wantedB,isW,eff,pev,pst0,retPost,resAll,resP,resV,intP,mkV,putC,pbin,sbin,strsEq,peq,pint,pshift,pstr,pun,pconv,isShift,isConstB,app,subS,lay,rowsOf,lkV,keyKind,keyEq,mfind,mput,oInt,isZeroInt,forall_const,exists_eq_left',implies_true,IntKind.bits, ↓reduceIte,Nat.reduceEqDiff,Nat.reduceAdd,Nat.reduceSub,Nat.reduceMul,Nat.reduceLT,Nat.reduceLeDiff,Nat.reduceBEq,Int.reduceLE,Int.reduceLT,Int.reduceToNat,reduceCtorEq,Ty.all]))
  refine a_loop (fun m S H=>H=Heap.nil∧S 1= .cptr [sPV pn,sPV pd,.imm 2 (pmRows po),.imm 2 (atRows pi),.imm 3 (vlRows pv),sPV gop,sPV gname,.imm 1 (strRows gargs),.imm 2 (pmRows gparams),.imm 5 (Ex.rows gexprs),.imm 6 (Fm.rows gkids)]∧S 3= .imm 2 (atRows L)∧ ∃ k:Nat,S 4= .sc (.int .i64 k)∧k≤L.length∧m=L.length-k) L.length ?_ ?_
  ·simp only[undef,am0,am1,am2,am3,amb0,amb1,amb2,amb3,amb4,lwn,drn,callee,wantedB,isW,eff,pev,pst0,retPost,resAll,resP,resV,intP,mkV,putC,pbin,sbin,strsEq,peq,pint,pshift,pstr,pun,pconv,isShift,isConstB,app,subS,lay,rowsOf,lkV,keyKind,keyEq,mfind,mput,oInt,isZeroInt,forall_const,exists_eq_left',implies_true,IntKind.bits, ↓reduceIte,Nat.reduceEqDiff,Nat.reduceAdd,Nat.reduceSub,Nat.reduceMul,Nat.reduceLT,Nat.reduceLeDiff,Nat.reduceBEq,Int.reduceLE,Int.reduceLT,Int.reduceToNat,reduceCtorEq]
   exact⟨0,rfl,by omega,rfl⟩
  ·rintro m S H ⟨rfl,g1,g3,k,g4,hk,rfl⟩
   by_cases hlt:k<L.length
   ·have hd:decide ((k:Int)<(L.length:Int))=true:=by simp;omega
    have w7:IntKind.i64.wrap ((k:Int)+1)=((k+1:Nat):Int):=by rw[wrap64 (by omega) (by omega)];omega
    obtain⟨x,hx⟩: ∃ x,L[k]? =some x:=⟨_,List.getElem?_eq_getElem hlt⟩
    have hxm:=hin x (List.mem_of_getElem? hx)
    have hc:=fun H:Heap=>rHasI_c (l:=pi) (a:=x) (by omega) hok (hok x hxm) H
    rw[hasI_of hxm rfl]at hc
    have hr:=atRows_get hx
    simp only[atRow]at hc
    have hkt:(k<L.length)=True:=eq_true hlt
    cases k with
    |zero=>
     have z0:decide (((0:Nat):Int)>0)=false:=rfl
     repeat'(first
      |refine a_seq fun K hK=>?_
      |(refine a_block ?_)
      |((first|refine a_regionS ?_|refine a_drawS (by decide+kernel) ?_|refine a_region (fun K hK=>?_)|refine a_draw (by decide+kernel) (fun K hK=>?_)|refine a_ret ?_);simp(maxSteps:=2000000) only[undef,am0,am1,am2,am3,amb0,amb1,amb2,amb3,amb4,lwn,drn,callee,wantedB,isW,eff,pev,pst0,retPost,resAll,resP,resV,intP,mkV,putC,pbin,sbin,strsEq,peq,pint,pshift,pstr,pun,pconv,isShift,isConstB,app,subS,lay,rowsOf,lkV,keyKind,keyEq,mfind,mput,oInt,isZeroInt,forall_const,exists_eq_left',implies_true,IntKind.bits, ↓reduceIte,Nat.reduceEqDiff,Nat.reduceAdd,Nat.reduceSub,Nat.reduceMul,Nat.reduceLT,Nat.reduceLeDiff,Nat.reduceBEq,Int.reduceLE,Int.reduceLT,Int.reduceToNat,reduceCtorEq,Ty.all,g1,g3,g4,hll,hd,hr,hkt,z0])
      |(refine a_skip ?_;try simp only[pst0, ↓reduceIte,Nat.reduceEqDiff])
      |(refine a_exit ?_;try simp only[pst0, ↓reduceIte,Nat.reduceEqDiff])
      |(refine a_cond _ (by(try simp(maxSteps:=2000000) only[undef,am0,am1,am2,am3,amb0,amb1,amb2,amb3,amb4,lwn,drn,callee,wantedB,isW,eff,pev,pst0,retPost,resAll,resP,resV,intP,mkV,putC,pbin,sbin,strsEq,peq,pint,pshift,pstr,pun,pconv,isShift,isConstB,app,subS,lay,rowsOf,lkV,keyKind,keyEq,mfind,mput,oInt,isZeroInt,forall_const,exists_eq_left',implies_true,IntKind.bits, ↓reduceIte,Nat.reduceEqDiff,Nat.reduceAdd,Nat.reduceSub,Nat.reduceMul,Nat.reduceLT,Nat.reduceLeDiff,Nat.reduceBEq,Int.reduceLE,Int.reduceLT,Int.reduceToNat,reduceCtorEq,Ty.all,g1,g3,g4,hll,hd,hr,hkt,z0]);rfl) (fun hb=>?_) (fun hb=>?_)<;>(try simp only[hb0,decide_eq_true_eq,decide_eq_false_iff_not,reduceCtorEq]at hb)<;>(try(exfalso;omega)))
      |(with_reducible refine ite_in (fun hb=>?_) (fun hb=>?_)<;>(try simp only[Decidable.not_not]at hb)<;>(try simp only[hb,if_true,if_false,not_false_eq_true,not_true_eq_false, ↓reduceIte])<;>(try simp only[hb0,decide_eq_true_eq,decide_eq_false_iff_not,reduceCtorEq]at hb)<;>(try(exfalso;omega)))
      |(refine hK _ _ ?_;clear hK;try simp only[pst0, ↓reduceIte,Nat.reduceEqDiff])
      |(clear hK;refine hK _ _ ?_;clear hK;try simp only[pst0, ↓reduceIte,Nat.reduceEqDiff])
      |(clear hK;clear hK;refine hK _ _ ?_;clear hK;try simp only[pst0, ↓reduceIte,Nat.reduceEqDiff])
      |(clear hK;clear hK;clear hK;refine hK _ _ ?_;clear hK;try simp only[pst0, ↓reduceIte,Nat.reduceEqDiff])
      |((first|(with_reducible refine a_past _ rfl (by decide+kernel) ?_)|(with_reducible refine a_past2 (by simp only[List.forall_mem_cons,undef,am0,am1,am2,am3,amb0,amb1,amb2,amb3,amb4,lwn,drn,callee,wantedB,isW,eff,pev,pst0,retPost,resAll,resP,resV,intP,mkV,putC,pbin,sbin,strsEq,peq,pint,pshift,pstr,pun,pconv,isShift,isConstB,app,subS,lay,rowsOf,lkV,keyKind,keyEq,mfind,mput,oInt,isZeroInt,forall_const,exists_eq_left',implies_true,IntKind.bits, ↓reduceIte,Nat.reduceEqDiff,Nat.reduceAdd,Nat.reduceSub,Nat.reduceMul,Nat.reduceLT,Nat.reduceLeDiff,Nat.reduceBEq,Int.reduceLE,Int.reduceLT,Int.reduceToNat,reduceCtorEq,Ty.all,g1,g3,g4,hll,hd,hr,hkt,z0]<;>(repeat' apply And.intro)<;>first|trivial|exact .inl (by decide+kernel)) ?_));try simp(maxSteps:=2000000) only[undef,am0,am1,am2,am3,amb0,amb1,amb2,amb3,amb4,lwn,drn,callee,wantedB,isW,eff,pev,pst0,retPost,resAll,resP,resV,intP,mkV,putC,pbin,sbin,strsEq,peq,pint,pshift,pstr,pun,pconv,isShift,isConstB,app,subS,lay,rowsOf,lkV,keyKind,keyEq,mfind,mput,oInt,isZeroInt,forall_const,exists_eq_left',implies_true,IntKind.bits, ↓reduceIte,Nat.reduceEqDiff,Nat.reduceAdd,Nat.reduceSub,Nat.reduceMul,Nat.reduceLT,Nat.reduceLeDiff,Nat.reduceBEq,Int.reduceLE,Int.reduceLT,Int.reduceToNat,reduceCtorEq,Ty.all,g1,g3,g4,hll,hd,hr,hkt,z0])
      |(rw[if_pos];rotate_left 1;omega;simp(maxSteps:=2000000) only[undef,am0,am1,am2,am3,amb0,amb1,amb2,amb3,amb4,lwn,drn,callee,wantedB,isW,eff,pev,pst0,retPost,resAll,resP,resV,intP,mkV,putC,pbin,sbin,strsEq,peq,pint,pshift,pstr,pun,pconv,isShift,isConstB,app,subS,lay,rowsOf,lkV,keyKind,keyEq,mfind,mput,oInt,isZeroInt,forall_const,exists_eq_left',implies_true,IntKind.bits, ↓reduceIte,Nat.reduceEqDiff,Nat.reduceAdd,Nat.reduceSub,Nat.reduceMul,Nat.reduceLT,Nat.reduceLeDiff,Nat.reduceBEq,Int.reduceLE,Int.reduceLT,Int.reduceToNat,reduceCtorEq,Ty.all,g1,g3,g4,hll,hd,hr,hkt,z0]))
     first
      |refine a_dcall0 (hc _) (by(try simp only[undef,am0,am1,am2,am3,amb0,amb1,amb2,amb3,amb4,lwn,drn,callee,wantedB,isW,eff,pev,pst0,retPost,resAll,resP,resV,intP,mkV,putC,pbin,sbin,strsEq,peq,pint,pshift,pstr,pun,pconv,isShift,isConstB,app,subS,lay,rowsOf,lkV,keyKind,keyEq,mfind,mput,oInt,isZeroInt,forall_const,exists_eq_left',implies_true,IntKind.bits, ↓reduceIte,Nat.reduceEqDiff,Nat.reduceAdd,Nat.reduceSub,Nat.reduceMul,Nat.reduceLT,Nat.reduceLeDiff,Nat.reduceBEq,Int.reduceLE,Int.reduceLT,Int.reduceToNat,reduceCtorEq,g1,g3,g4,hll,hd,hr,hkt,z0,Bool.not_true]);try rfl) ?_
      |refine a_dcallA (hc _) (by(try simp only[undef,am0,am1,am2,am3,amb0,amb1,amb2,amb3,amb4,lwn,drn,callee,wantedB,isW,eff,pev,pst0,retPost,resAll,resP,resV,intP,mkV,putC,pbin,sbin,strsEq,peq,pint,pshift,pstr,pun,pconv,isShift,isConstB,app,subS,lay,rowsOf,lkV,keyKind,keyEq,mfind,mput,oInt,isZeroInt,forall_const,exists_eq_left',implies_true,IntKind.bits, ↓reduceIte,Nat.reduceEqDiff,Nat.reduceAdd,Nat.reduceSub,Nat.reduceMul,Nat.reduceLT,Nat.reduceLeDiff,Nat.reduceBEq,Int.reduceLE,Int.reduceLT,Int.reduceToNat,reduceCtorEq,g1,g3,g4,hll,hd,hr,hkt,z0,Bool.not_true]);try rfl) (by simp only[undef,am0,am1,am2,am3,amb0,amb1,amb2,amb3,amb4,lwn,drn,callee,wantedB,isW,eff,pev,pst0,retPost,resAll,resP,resV,intP,mkV,putC,pbin,sbin,strsEq,peq,pint,pshift,pstr,pun,pconv,isShift,isConstB,app,subS,lay,rowsOf,lkV,keyKind,keyEq,mfind,mput,oInt,isZeroInt,forall_const,exists_eq_left',implies_true,IntKind.bits, ↓reduceIte,Nat.reduceEqDiff,Nat.reduceAdd,Nat.reduceSub,Nat.reduceMul,Nat.reduceLT,Nat.reduceLeDiff,Nat.reduceBEq,Int.reduceLE,Int.reduceLT,Int.reduceToNat,reduceCtorEq,Ty.all,g1,g3,g4,hll,hd,hr,hkt,z0,Bool.not_true];try trivial) ?_
     simp(maxSteps:=2000000) only[undef,am0,am1,am2,am3,amb0,amb1,amb2,amb3,amb4,lwn,drn,callee,wantedB,isW,eff,pev,pst0,retPost,resAll,resP,resV,intP,mkV,putC,pbin,sbin,strsEq,peq,pint,pshift,pstr,pun,pconv,isShift,isConstB,app,subS,lay,rowsOf,lkV,keyKind,keyEq,mfind,mput,oInt,isZeroInt,forall_const,exists_eq_left',implies_true,IntKind.bits, ↓reduceIte,Nat.reduceEqDiff,Nat.reduceAdd,Nat.reduceSub,Nat.reduceMul,Nat.reduceLT,Nat.reduceLeDiff,Nat.reduceBEq,Int.reduceLE,Int.reduceLT,Int.reduceToNat,reduceCtorEq,Ty.all,Option.getD_some,g1,g3,g4,hll,hd,hr,hkt,z0,Bool.not_true]
     repeat'(first
      |refine a_seq fun K hK=>?_
      |(refine a_block ?_)
      |((first|refine a_regionS ?_|refine a_drawS (by decide+kernel) ?_|refine a_region (fun K hK=>?_)|refine a_draw (by decide+kernel) (fun K hK=>?_)|refine a_ret ?_);simp(maxSteps:=2000000) only[undef,am0,am1,am2,am3,amb0,amb1,amb2,amb3,amb4,lwn,drn,callee,wantedB,isW,eff,pev,pst0,retPost,resAll,resP,resV,intP,mkV,putC,pbin,sbin,strsEq,peq,pint,pshift,pstr,pun,pconv,isShift,isConstB,app,subS,lay,rowsOf,lkV,keyKind,keyEq,mfind,mput,oInt,isZeroInt,forall_const,exists_eq_left',implies_true,IntKind.bits, ↓reduceIte,Nat.reduceEqDiff,Nat.reduceAdd,Nat.reduceSub,Nat.reduceMul,Nat.reduceLT,Nat.reduceLeDiff,Nat.reduceBEq,Int.reduceLE,Int.reduceLT,Int.reduceToNat,reduceCtorEq,Ty.all,g1,g3,g4,hll,hd,hr,hkt,z0,w7,Bool.not_true])
      |(refine a_skip ?_;try simp only[pst0, ↓reduceIte,Nat.reduceEqDiff])
      |(refine a_exit ?_;try simp only[pst0, ↓reduceIte,Nat.reduceEqDiff])
      |(refine a_cond _ (by(try simp(maxSteps:=2000000) only[undef,am0,am1,am2,am3,amb0,amb1,amb2,amb3,amb4,lwn,drn,callee,wantedB,isW,eff,pev,pst0,retPost,resAll,resP,resV,intP,mkV,putC,pbin,sbin,strsEq,peq,pint,pshift,pstr,pun,pconv,isShift,isConstB,app,subS,lay,rowsOf,lkV,keyKind,keyEq,mfind,mput,oInt,isZeroInt,forall_const,exists_eq_left',implies_true,IntKind.bits, ↓reduceIte,Nat.reduceEqDiff,Nat.reduceAdd,Nat.reduceSub,Nat.reduceMul,Nat.reduceLT,Nat.reduceLeDiff,Nat.reduceBEq,Int.reduceLE,Int.reduceLT,Int.reduceToNat,reduceCtorEq,Ty.all,g1,g3,g4,hll,hd,hr,hkt,z0,w7,Bool.not_true]);rfl) (fun hb=>?_) (fun hb=>?_)<;>(try simp only[hb0,decide_eq_true_eq,decide_eq_false_iff_not,reduceCtorEq]at hb)<;>(try(exfalso;omega)))
      |(with_reducible refine ite_in (fun hb=>?_) (fun hb=>?_)<;>(try simp only[Decidable.not_not]at hb)<;>(try simp only[hb,if_true,if_false,not_false_eq_true,not_true_eq_false, ↓reduceIte])<;>(try simp only[hb0,decide_eq_true_eq,decide_eq_false_iff_not,reduceCtorEq]at hb)<;>(try(exfalso;omega)))
      |(refine hK _ _ ?_;clear hK;try simp only[pst0, ↓reduceIte,Nat.reduceEqDiff])
      |(clear hK;refine hK _ _ ?_;clear hK;try simp only[pst0, ↓reduceIte,Nat.reduceEqDiff])
      |(clear hK;clear hK;refine hK _ _ ?_;clear hK;try simp only[pst0, ↓reduceIte,Nat.reduceEqDiff])
      |(clear hK;clear hK;clear hK;refine hK _ _ ?_;clear hK;try simp only[pst0, ↓reduceIte,Nat.reduceEqDiff])
      |((first|(with_reducible refine a_past _ rfl (by decide+kernel) ?_)|(with_reducible refine a_past2 (by simp only[List.forall_mem_cons,undef,am0,am1,am2,am3,amb0,amb1,amb2,amb3,amb4,lwn,drn,callee,wantedB,isW,eff,pev,pst0,retPost,resAll,resP,resV,intP,mkV,putC,pbin,sbin,strsEq,peq,pint,pshift,pstr,pun,pconv,isShift,isConstB,app,subS,lay,rowsOf,lkV,keyKind,keyEq,mfind,mput,oInt,isZeroInt,forall_const,exists_eq_left',implies_true,IntKind.bits, ↓reduceIte,Nat.reduceEqDiff,Nat.reduceAdd,Nat.reduceSub,Nat.reduceMul,Nat.reduceLT,Nat.reduceLeDiff,Nat.reduceBEq,Int.reduceLE,Int.reduceLT,Int.reduceToNat,reduceCtorEq,Ty.all,g1,g3,g4,hll,hd,hr,hkt,z0,w7,Bool.not_true]<;>(repeat' apply And.intro)<;>first|trivial|exact .inl (by decide+kernel)) ?_));try simp(maxSteps:=2000000) only[undef,am0,am1,am2,am3,amb0,amb1,amb2,amb3,amb4,lwn,drn,callee,wantedB,isW,eff,pev,pst0,retPost,resAll,resP,resV,intP,mkV,putC,pbin,sbin,strsEq,peq,pint,pshift,pstr,pun,pconv,isShift,isConstB,app,subS,lay,rowsOf,lkV,keyKind,keyEq,mfind,mput,oInt,isZeroInt,forall_const,exists_eq_left',implies_true,IntKind.bits, ↓reduceIte,Nat.reduceEqDiff,Nat.reduceAdd,Nat.reduceSub,Nat.reduceMul,Nat.reduceLT,Nat.reduceLeDiff,Nat.reduceBEq,Int.reduceLE,Int.reduceLT,Int.reduceToNat,reduceCtorEq,Ty.all,g1,g3,g4,hll,hd,hr,hkt,z0,w7,Bool.not_true])
      |(rw[if_pos];rotate_left 1;omega;simp(maxSteps:=2000000) only[undef,am0,am1,am2,am3,amb0,amb1,amb2,amb3,amb4,lwn,drn,callee,wantedB,isW,eff,pev,pst0,retPost,resAll,resP,resV,intP,mkV,putC,pbin,sbin,strsEq,peq,pint,pshift,pstr,pun,pconv,isShift,isConstB,app,subS,lay,rowsOf,lkV,keyKind,keyEq,mfind,mput,oInt,isZeroInt,forall_const,exists_eq_left',implies_true,IntKind.bits, ↓reduceIte,Nat.reduceEqDiff,Nat.reduceAdd,Nat.reduceSub,Nat.reduceMul,Nat.reduceLT,Nat.reduceLeDiff,Nat.reduceBEq,Int.reduceLE,Int.reduceLT,Int.reduceToNat,reduceCtorEq,Ty.all,g1,g3,g4,hll,hd,hr,hkt,z0,w7,Bool.not_true]))
     exact⟨L.length-1,by omega,1,rfl,by omega,rfl⟩
    |succ k=>
     have z0:decide (((k+1:Nat):Int)>0)=true:=decide_eq_true (by omega)
     have wm:IntKind.i64.wrap (((k+1:Nat):Int)-1)=(k:Int):=by rw[wrap64 (by omega) (by omega)];omega
     obtain⟨y,hy⟩: ∃ y,L[k]? =some y:=⟨_,List.getElem?_eq_getElem (by omega)⟩
     have hr2:=atRows_get hy
     have hym:=hin y (List.mem_of_getElem? hy)
     have hlt2:kA y<kA x:=by
      have:=List.pairwise_iff_getElem.1 hasc k (k+1) (by omega) hlt (by omega)
      rw[List.getElem?_eq_getElem (by omega)]at hx hy
      simp only[Option.some.injEq]at hx hy
      rw[hx,hy]at this
      exact this
     have hc2:=fun H:Heap=>rcmpA_c (a:=y) (b:=x) (hok y hym) (hok x hxm) H
     have hneg:=cmpA_neg hlt2
     have hkt2:(k<L.length)=True:=eq_true (by omega)
     generalize cmpA y x=e at hc2 hneg
     simp only[atRow]at hc2
     repeat'(first
      |refine a_seq fun K hK=>?_
      |(refine a_block ?_)
      |((first|refine a_regionS ?_|refine a_drawS (by decide+kernel) ?_|refine a_region (fun K hK=>?_)|refine a_draw (by decide+kernel) (fun K hK=>?_)|refine a_ret ?_);simp(maxSteps:=2000000) only[undef,am0,am1,am2,am3,amb0,amb1,amb2,amb3,amb4,lwn,drn,callee,wantedB,isW,eff,pev,pst0,retPost,resAll,resP,resV,intP,mkV,putC,pbin,sbin,strsEq,peq,pint,pshift,pstr,pun,pconv,isShift,isConstB,app,subS,lay,rowsOf,lkV,keyKind,keyEq,mfind,mput,oInt,isZeroInt,forall_const,exists_eq_left',implies_true,IntKind.bits, ↓reduceIte,Nat.reduceEqDiff,Nat.reduceAdd,Nat.reduceSub,Nat.reduceMul,Nat.reduceLT,Nat.reduceLeDiff,Nat.reduceBEq,Int.reduceLE,Int.reduceLT,Int.reduceToNat,reduceCtorEq,Ty.all,g1,g3,g4,hll,hd,hr,hr2,hkt,hkt2,z0,wm])
      |(refine a_skip ?_;try simp only[pst0, ↓reduceIte,Nat.reduceEqDiff])
      |(refine a_exit ?_;try simp only[pst0, ↓reduceIte,Nat.reduceEqDiff])
      |(refine a_cond _ (by(try simp(maxSteps:=2000000) only[undef,am0,am1,am2,am3,amb0,amb1,amb2,amb3,amb4,lwn,drn,callee,wantedB,isW,eff,pev,pst0,retPost,resAll,resP,resV,intP,mkV,putC,pbin,sbin,strsEq,peq,pint,pshift,pstr,pun,pconv,isShift,isConstB,app,subS,lay,rowsOf,lkV,keyKind,keyEq,mfind,mput,oInt,isZeroInt,forall_const,exists_eq_left',implies_true,IntKind.bits, ↓reduceIte,Nat.reduceEqDiff,Nat.reduceAdd,Nat.reduceSub,Nat.reduceMul,Nat.reduceLT,Nat.reduceLeDiff,Nat.reduceBEq,Int.reduceLE,Int.reduceLT,Int.reduceToNat,reduceCtorEq,Ty.all,g1,g3,g4,hll,hd,hr,hr2,hkt,hkt2,z0,wm]);rfl) (fun hb=>?_) (fun hb=>?_)<;>(try simp only[hb0,decide_eq_true_eq,decide_eq_false_iff_not,reduceCtorEq]at hb)<;>(try(exfalso;omega)))
      |(with_reducible refine ite_in (fun hb=>?_) (fun hb=>?_)<;>(try simp only[Decidable.not_not]at hb)<;>(try simp only[hb,if_true,if_false,not_false_eq_true,not_true_eq_false, ↓reduceIte])<;>(try simp only[hb0,decide_eq_true_eq,decide_eq_false_iff_not,reduceCtorEq]at hb)<;>(try(exfalso;omega)))
      |(refine hK _ _ ?_;clear hK;try simp only[pst0, ↓reduceIte,Nat.reduceEqDiff])
      |(clear hK;refine hK _ _ ?_;clear hK;try simp only[pst0, ↓reduceIte,Nat.reduceEqDiff])
      |(clear hK;clear hK;refine hK _ _ ?_;clear hK;try simp only[pst0, ↓reduceIte,Nat.reduceEqDiff])
      |(clear hK;clear hK;clear hK;refine hK _ _ ?_;clear hK;try simp only[pst0, ↓reduceIte,Nat.reduceEqDiff])
      |((first|(with_reducible refine a_past _ rfl (by decide+kernel) ?_)|(with_reducible refine a_past2 (by simp only[List.forall_mem_cons,undef,am0,am1,am2,am3,amb0,amb1,amb2,amb3,amb4,lwn,drn,callee,wantedB,isW,eff,pev,pst0,retPost,resAll,resP,resV,intP,mkV,putC,pbin,sbin,strsEq,peq,pint,pshift,pstr,pun,pconv,isShift,isConstB,app,subS,lay,rowsOf,lkV,keyKind,keyEq,mfind,mput,oInt,isZeroInt,forall_const,exists_eq_left',implies_true,IntKind.bits, ↓reduceIte,Nat.reduceEqDiff,Nat.reduceAdd,Nat.reduceSub,Nat.reduceMul,Nat.reduceLT,Nat.reduceLeDiff,Nat.reduceBEq,Int.reduceLE,Int.reduceLT,Int.reduceToNat,reduceCtorEq,Ty.all,g1,g3,g4,hll,hd,hr,hr2,hkt,hkt2,z0,wm]<;>(repeat' apply And.intro)<;>first|trivial|exact .inl (by decide+kernel)) ?_));try simp(maxSteps:=2000000) only[undef,am0,am1,am2,am3,amb0,amb1,amb2,amb3,amb4,lwn,drn,callee,wantedB,isW,eff,pev,pst0,retPost,resAll,resP,resV,intP,mkV,putC,pbin,sbin,strsEq,peq,pint,pshift,pstr,pun,pconv,isShift,isConstB,app,subS,lay,rowsOf,lkV,keyKind,keyEq,mfind,mput,oInt,isZeroInt,forall_const,exists_eq_left',implies_true,IntKind.bits, ↓reduceIte,Nat.reduceEqDiff,Nat.reduceAdd,Nat.reduceSub,Nat.reduceMul,Nat.reduceLT,Nat.reduceLeDiff,Nat.reduceBEq,Int.reduceLE,Int.reduceLT,Int.reduceToNat,reduceCtorEq,Ty.all,g1,g3,g4,hll,hd,hr,hr2,hkt,hkt2,z0,wm])
      |(rw[if_pos];rotate_left 1;omega;simp(maxSteps:=2000000) only[undef,am0,am1,am2,am3,amb0,amb1,amb2,amb3,amb4,lwn,drn,callee,wantedB,isW,eff,pev,pst0,retPost,resAll,resP,resV,intP,mkV,putC,pbin,sbin,strsEq,peq,pint,pshift,pstr,pun,pconv,isShift,isConstB,app,subS,lay,rowsOf,lkV,keyKind,keyEq,mfind,mput,oInt,isZeroInt,forall_const,exists_eq_left',implies_true,IntKind.bits, ↓reduceIte,Nat.reduceEqDiff,Nat.reduceAdd,Nat.reduceSub,Nat.reduceMul,Nat.reduceLT,Nat.reduceLeDiff,Nat.reduceBEq,Int.reduceLE,Int.reduceLT,Int.reduceToNat,reduceCtorEq,Ty.all,g1,g3,g4,hll,hd,hr,hr2,hkt,hkt2,z0,wm]))
     first
      |refine a_dcall0 (hc _) (by(try simp only[undef,am0,am1,am2,am3,amb0,amb1,amb2,amb3,amb4,lwn,drn,callee,wantedB,isW,eff,pev,pst0,retPost,resAll,resP,resV,intP,mkV,putC,pbin,sbin,strsEq,peq,pint,pshift,pstr,pun,pconv,isShift,isConstB,app,subS,lay,rowsOf,lkV,keyKind,keyEq,mfind,mput,oInt,isZeroInt,forall_const,exists_eq_left',implies_true,IntKind.bits, ↓reduceIte,Nat.reduceEqDiff,Nat.reduceAdd,Nat.reduceSub,Nat.reduceMul,Nat.reduceLT,Nat.reduceLeDiff,Nat.reduceBEq,Int.reduceLE,Int.reduceLT,Int.reduceToNat,reduceCtorEq,g1,g3,g4,hll,hd,hr,hr2,hkt,hkt2,z0,wm,hneg,Bool.not_true]);try rfl) ?_
      |refine a_dcallA (hc _) (by(try simp only[undef,am0,am1,am2,am3,amb0,amb1,amb2,amb3,amb4,lwn,drn,callee,wantedB,isW,eff,pev,pst0,retPost,resAll,resP,resV,intP,mkV,putC,pbin,sbin,strsEq,peq,pint,pshift,pstr,pun,pconv,isShift,isConstB,app,subS,lay,rowsOf,lkV,keyKind,keyEq,mfind,mput,oInt,isZeroInt,forall_const,exists_eq_left',implies_true,IntKind.bits, ↓reduceIte,Nat.reduceEqDiff,Nat.reduceAdd,Nat.reduceSub,Nat.reduceMul,Nat.reduceLT,Nat.reduceLeDiff,Nat.reduceBEq,Int.reduceLE,Int.reduceLT,Int.reduceToNat,reduceCtorEq,g1,g3,g4,hll,hd,hr,hr2,hkt,hkt2,z0,wm,hneg,Bool.not_true]);try rfl) (by simp only[undef,am0,am1,am2,am3,amb0,amb1,amb2,amb3,amb4,lwn,drn,callee,wantedB,isW,eff,pev,pst0,retPost,resAll,resP,resV,intP,mkV,putC,pbin,sbin,strsEq,peq,pint,pshift,pstr,pun,pconv,isShift,isConstB,app,subS,lay,rowsOf,lkV,keyKind,keyEq,mfind,mput,oInt,isZeroInt,forall_const,exists_eq_left',implies_true,IntKind.bits, ↓reduceIte,Nat.reduceEqDiff,Nat.reduceAdd,Nat.reduceSub,Nat.reduceMul,Nat.reduceLT,Nat.reduceLeDiff,Nat.reduceBEq,Int.reduceLE,Int.reduceLT,Int.reduceToNat,reduceCtorEq,Ty.all,g1,g3,g4,hll,hd,hr,hr2,hkt,hkt2,z0,wm,hneg,Bool.not_true];try trivial) ?_
     simp(maxSteps:=2000000) only[undef,am0,am1,am2,am3,amb0,amb1,amb2,amb3,amb4,lwn,drn,callee,wantedB,isW,eff,pev,pst0,retPost,resAll,resP,resV,intP,mkV,putC,pbin,sbin,strsEq,peq,pint,pshift,pstr,pun,pconv,isShift,isConstB,app,subS,lay,rowsOf,lkV,keyKind,keyEq,mfind,mput,oInt,isZeroInt,forall_const,exists_eq_left',implies_true,IntKind.bits, ↓reduceIte,Nat.reduceEqDiff,Nat.reduceAdd,Nat.reduceSub,Nat.reduceMul,Nat.reduceLT,Nat.reduceLeDiff,Nat.reduceBEq,Int.reduceLE,Int.reduceLT,Int.reduceToNat,reduceCtorEq,Ty.all,Option.getD_some,g1,g3,g4,hll,hd,hr,hr2,hkt,hkt2,z0,wm,hneg,Bool.not_true]
     repeat'(first
      |refine a_seq fun K hK=>?_
      |(refine a_block ?_)
      |((first|refine a_regionS ?_|refine a_drawS (by decide+kernel) ?_|refine a_region (fun K hK=>?_)|refine a_draw (by decide+kernel) (fun K hK=>?_)|refine a_ret ?_);simp(maxSteps:=2000000) only[undef,am0,am1,am2,am3,amb0,amb1,amb2,amb3,amb4,lwn,drn,callee,wantedB,isW,eff,pev,pst0,retPost,resAll,resP,resV,intP,mkV,putC,pbin,sbin,strsEq,peq,pint,pshift,pstr,pun,pconv,isShift,isConstB,app,subS,lay,rowsOf,lkV,keyKind,keyEq,mfind,mput,oInt,isZeroInt,forall_const,exists_eq_left',implies_true,IntKind.bits, ↓reduceIte,Nat.reduceEqDiff,Nat.reduceAdd,Nat.reduceSub,Nat.reduceMul,Nat.reduceLT,Nat.reduceLeDiff,Nat.reduceBEq,Int.reduceLE,Int.reduceLT,Int.reduceToNat,reduceCtorEq,Ty.all,g1,g3,g4,hll,hd,hr,hr2,hkt,hkt2,z0,wm,hneg,Bool.not_true])
      |(refine a_skip ?_;try simp only[pst0, ↓reduceIte,Nat.reduceEqDiff])
      |(refine a_exit ?_;try simp only[pst0, ↓reduceIte,Nat.reduceEqDiff])
      |(refine a_cond _ (by(try simp(maxSteps:=2000000) only[undef,am0,am1,am2,am3,amb0,amb1,amb2,amb3,amb4,lwn,drn,callee,wantedB,isW,eff,pev,pst0,retPost,resAll,resP,resV,intP,mkV,putC,pbin,sbin,strsEq,peq,pint,pshift,pstr,pun,pconv,isShift,isConstB,app,subS,lay,rowsOf,lkV,keyKind,keyEq,mfind,mput,oInt,isZeroInt,forall_const,exists_eq_left',implies_true,IntKind.bits, ↓reduceIte,Nat.reduceEqDiff,Nat.reduceAdd,Nat.reduceSub,Nat.reduceMul,Nat.reduceLT,Nat.reduceLeDiff,Nat.reduceBEq,Int.reduceLE,Int.reduceLT,Int.reduceToNat,reduceCtorEq,Ty.all,g1,g3,g4,hll,hd,hr,hr2,hkt,hkt2,z0,wm,hneg,Bool.not_true]);rfl) (fun hb=>?_) (fun hb=>?_)<;>(try simp only[hb0,decide_eq_true_eq,decide_eq_false_iff_not,reduceCtorEq]at hb)<;>(try(exfalso;omega)))
      |(with_reducible refine ite_in (fun hb=>?_) (fun hb=>?_)<;>(try simp only[Decidable.not_not]at hb)<;>(try simp only[hb,if_true,if_false,not_false_eq_true,not_true_eq_false, ↓reduceIte])<;>(try simp only[hb0,decide_eq_true_eq,decide_eq_false_iff_not,reduceCtorEq]at hb)<;>(try(exfalso;omega)))
      |(refine hK _ _ ?_;clear hK;try simp only[pst0, ↓reduceIte,Nat.reduceEqDiff])
      |(clear hK;refine hK _ _ ?_;clear hK;try simp only[pst0, ↓reduceIte,Nat.reduceEqDiff])
      |(clear hK;clear hK;refine hK _ _ ?_;clear hK;try simp only[pst0, ↓reduceIte,Nat.reduceEqDiff])
      |(clear hK;clear hK;clear hK;refine hK _ _ ?_;clear hK;try simp only[pst0, ↓reduceIte,Nat.reduceEqDiff])
      |((first|(with_reducible refine a_past _ rfl (by decide+kernel) ?_)|(with_reducible refine a_past2 (by simp only[List.forall_mem_cons,undef,am0,am1,am2,am3,amb0,amb1,amb2,amb3,amb4,lwn,drn,callee,wantedB,isW,eff,pev,pst0,retPost,resAll,resP,resV,intP,mkV,putC,pbin,sbin,strsEq,peq,pint,pshift,pstr,pun,pconv,isShift,isConstB,app,subS,lay,rowsOf,lkV,keyKind,keyEq,mfind,mput,oInt,isZeroInt,forall_const,exists_eq_left',implies_true,IntKind.bits, ↓reduceIte,Nat.reduceEqDiff,Nat.reduceAdd,Nat.reduceSub,Nat.reduceMul,Nat.reduceLT,Nat.reduceLeDiff,Nat.reduceBEq,Int.reduceLE,Int.reduceLT,Int.reduceToNat,reduceCtorEq,Ty.all,g1,g3,g4,hll,hd,hr,hr2,hkt,hkt2,z0,wm,hneg,Bool.not_true]<;>(repeat' apply And.intro)<;>first|trivial|exact .inl (by decide+kernel)) ?_));try simp(maxSteps:=2000000) only[undef,am0,am1,am2,am3,amb0,amb1,amb2,amb3,amb4,lwn,drn,callee,wantedB,isW,eff,pev,pst0,retPost,resAll,resP,resV,intP,mkV,putC,pbin,sbin,strsEq,peq,pint,pshift,pstr,pun,pconv,isShift,isConstB,app,subS,lay,rowsOf,lkV,keyKind,keyEq,mfind,mput,oInt,isZeroInt,forall_const,exists_eq_left',implies_true,IntKind.bits, ↓reduceIte,Nat.reduceEqDiff,Nat.reduceAdd,Nat.reduceSub,Nat.reduceMul,Nat.reduceLT,Nat.reduceLeDiff,Nat.reduceBEq,Int.reduceLE,Int.reduceLT,Int.reduceToNat,reduceCtorEq,Ty.all,g1,g3,g4,hll,hd,hr,hr2,hkt,hkt2,z0,wm,hneg,Bool.not_true])
      |(rw[if_pos];rotate_left 1;omega;simp(maxSteps:=2000000) only[undef,am0,am1,am2,am3,amb0,amb1,amb2,amb3,amb4,lwn,drn,callee,wantedB,isW,eff,pev,pst0,retPost,resAll,resP,resV,intP,mkV,putC,pbin,sbin,strsEq,peq,pint,pshift,pstr,pun,pconv,isShift,isConstB,app,subS,lay,rowsOf,lkV,keyKind,keyEq,mfind,mput,oInt,isZeroInt,forall_const,exists_eq_left',implies_true,IntKind.bits, ↓reduceIte,Nat.reduceEqDiff,Nat.reduceAdd,Nat.reduceSub,Nat.reduceMul,Nat.reduceLT,Nat.reduceLeDiff,Nat.reduceBEq,Int.reduceLE,Int.reduceLT,Int.reduceToNat,reduceCtorEq,Ty.all,g1,g3,g4,hll,hd,hr,hr2,hkt,hkt2,z0,wm,hneg,Bool.not_true]))
     first
      |refine a_dcall0 (hc2 _) (by(try simp only[undef,am0,am1,am2,am3,amb0,amb1,amb2,amb3,amb4,lwn,drn,callee,wantedB,isW,eff,pev,pst0,retPost,resAll,resP,resV,intP,mkV,putC,pbin,sbin,strsEq,peq,pint,pshift,pstr,pun,pconv,isShift,isConstB,app,subS,lay,rowsOf,lkV,keyKind,keyEq,mfind,mput,oInt,isZeroInt,forall_const,exists_eq_left',implies_true,IntKind.bits, ↓reduceIte,Nat.reduceEqDiff,Nat.reduceAdd,Nat.reduceSub,Nat.reduceMul,Nat.reduceLT,Nat.reduceLeDiff,Nat.reduceBEq,Int.reduceLE,Int.reduceLT,Int.reduceToNat,reduceCtorEq,g1,g3,g4,hll,hd,hr,hr2,hkt,hkt2,z0,wm,hneg,Bool.not_true]);try rfl) ?_
      |refine a_dcallA (hc2 _) (by(try simp only[undef,am0,am1,am2,am3,amb0,amb1,amb2,amb3,amb4,lwn,drn,callee,wantedB,isW,eff,pev,pst0,retPost,resAll,resP,resV,intP,mkV,putC,pbin,sbin,strsEq,peq,pint,pshift,pstr,pun,pconv,isShift,isConstB,app,subS,lay,rowsOf,lkV,keyKind,keyEq,mfind,mput,oInt,isZeroInt,forall_const,exists_eq_left',implies_true,IntKind.bits, ↓reduceIte,Nat.reduceEqDiff,Nat.reduceAdd,Nat.reduceSub,Nat.reduceMul,Nat.reduceLT,Nat.reduceLeDiff,Nat.reduceBEq,Int.reduceLE,Int.reduceLT,Int.reduceToNat,reduceCtorEq,g1,g3,g4,hll,hd,hr,hr2,hkt,hkt2,z0,wm,hneg,Bool.not_true]);try rfl) (by simp only[undef,am0,am1,am2,am3,amb0,amb1,amb2,amb3,amb4,lwn,drn,callee,wantedB,isW,eff,pev,pst0,retPost,resAll,resP,resV,intP,mkV,putC,pbin,sbin,strsEq,peq,pint,pshift,pstr,pun,pconv,isShift,isConstB,app,subS,lay,rowsOf,lkV,keyKind,keyEq,mfind,mput,oInt,isZeroInt,forall_const,exists_eq_left',implies_true,IntKind.bits, ↓reduceIte,Nat.reduceEqDiff,Nat.reduceAdd,Nat.reduceSub,Nat.reduceMul,Nat.reduceLT,Nat.reduceLeDiff,Nat.reduceBEq,Int.reduceLE,Int.reduceLT,Int.reduceToNat,reduceCtorEq,Ty.all,g1,g3,g4,hll,hd,hr,hr2,hkt,hkt2,z0,wm,hneg,Bool.not_true];try trivial) ?_
     simp(maxSteps:=2000000) only[undef,am0,am1,am2,am3,amb0,amb1,amb2,amb3,amb4,lwn,drn,callee,wantedB,isW,eff,pev,pst0,retPost,resAll,resP,resV,intP,mkV,putC,pbin,sbin,strsEq,peq,pint,pshift,pstr,pun,pconv,isShift,isConstB,app,subS,lay,rowsOf,lkV,keyKind,keyEq,mfind,mput,oInt,isZeroInt,forall_const,exists_eq_left',implies_true,IntKind.bits, ↓reduceIte,Nat.reduceEqDiff,Nat.reduceAdd,Nat.reduceSub,Nat.reduceMul,Nat.reduceLT,Nat.reduceLeDiff,Nat.reduceBEq,Int.reduceLE,Int.reduceLT,Int.reduceToNat,reduceCtorEq,Ty.all,Option.getD_some,g1,g3,g4,hll,hd,hr,hr2,hkt,hkt2,z0,wm,hneg,Bool.not_true]
     repeat'(first
      |refine a_seq fun K hK=>?_
      |(refine a_block ?_)
      |((first|refine a_regionS ?_|refine a_drawS (by decide+kernel) ?_|refine a_region (fun K hK=>?_)|refine a_draw (by decide+kernel) (fun K hK=>?_)|refine a_ret ?_);simp(maxSteps:=2000000) only[undef,am0,am1,am2,am3,amb0,amb1,amb2,amb3,amb4,lwn,drn,callee,wantedB,isW,eff,pev,pst0,retPost,resAll,resP,resV,intP,mkV,putC,pbin,sbin,strsEq,peq,pint,pshift,pstr,pun,pconv,isShift,isConstB,app,subS,lay,rowsOf,lkV,keyKind,keyEq,mfind,mput,oInt,isZeroInt,forall_const,exists_eq_left',implies_true,IntKind.bits, ↓reduceIte,Nat.reduceEqDiff,Nat.reduceAdd,Nat.reduceSub,Nat.reduceMul,Nat.reduceLT,Nat.reduceLeDiff,Nat.reduceBEq,Int.reduceLE,Int.reduceLT,Int.reduceToNat,reduceCtorEq,Ty.all,g1,g3,g4,hll,hd,hr,hr2,hkt,hkt2,z0,wm,w7,hneg,Bool.not_true])
      |(refine a_skip ?_;try simp only[pst0, ↓reduceIte,Nat.reduceEqDiff])
      |(refine a_exit ?_;try simp only[pst0, ↓reduceIte,Nat.reduceEqDiff])
      |(refine a_cond _ (by(try simp(maxSteps:=2000000) only[undef,am0,am1,am2,am3,amb0,amb1,amb2,amb3,amb4,lwn,drn,callee,wantedB,isW,eff,pev,pst0,retPost,resAll,resP,resV,intP,mkV,putC,pbin,sbin,strsEq,peq,pint,pshift,pstr,pun,pconv,isShift,isConstB,app,subS,lay,rowsOf,lkV,keyKind,keyEq,mfind,mput,oInt,isZeroInt,forall_const,exists_eq_left',implies_true,IntKind.bits, ↓reduceIte,Nat.reduceEqDiff,Nat.reduceAdd,Nat.reduceSub,Nat.reduceMul,Nat.reduceLT,Nat.reduceLeDiff,Nat.reduceBEq,Int.reduceLE,Int.reduceLT,Int.reduceToNat,reduceCtorEq,Ty.all,g1,g3,g4,hll,hd,hr,hr2,hkt,hkt2,z0,wm,w7,hneg,Bool.not_true]);rfl) (fun hb=>?_) (fun hb=>?_)<;>(try simp only[hb0,decide_eq_true_eq,decide_eq_false_iff_not,reduceCtorEq]at hb)<;>(try(exfalso;omega)))
      |(with_reducible refine ite_in (fun hb=>?_) (fun hb=>?_)<;>(try simp only[Decidable.not_not]at hb)<;>(try simp only[hb,if_true,if_false,not_false_eq_true,not_true_eq_false, ↓reduceIte])<;>(try simp only[hb0,decide_eq_true_eq,decide_eq_false_iff_not,reduceCtorEq]at hb)<;>(try(exfalso;omega)))
      |(refine hK _ _ ?_;clear hK;try simp only[pst0, ↓reduceIte,Nat.reduceEqDiff])
      |(clear hK;refine hK _ _ ?_;clear hK;try simp only[pst0, ↓reduceIte,Nat.reduceEqDiff])
      |(clear hK;clear hK;refine hK _ _ ?_;clear hK;try simp only[pst0, ↓reduceIte,Nat.reduceEqDiff])
      |(clear hK;clear hK;clear hK;refine hK _ _ ?_;clear hK;try simp only[pst0, ↓reduceIte,Nat.reduceEqDiff])
      |((first|(with_reducible refine a_past _ rfl (by decide+kernel) ?_)|(with_reducible refine a_past2 (by simp only[List.forall_mem_cons,undef,am0,am1,am2,am3,amb0,amb1,amb2,amb3,amb4,lwn,drn,callee,wantedB,isW,eff,pev,pst0,retPost,resAll,resP,resV,intP,mkV,putC,pbin,sbin,strsEq,peq,pint,pshift,pstr,pun,pconv,isShift,isConstB,app,subS,lay,rowsOf,lkV,keyKind,keyEq,mfind,mput,oInt,isZeroInt,forall_const,exists_eq_left',implies_true,IntKind.bits, ↓reduceIte,Nat.reduceEqDiff,Nat.reduceAdd,Nat.reduceSub,Nat.reduceMul,Nat.reduceLT,Nat.reduceLeDiff,Nat.reduceBEq,Int.reduceLE,Int.reduceLT,Int.reduceToNat,reduceCtorEq,Ty.all,g1,g3,g4,hll,hd,hr,hr2,hkt,hkt2,z0,wm,w7,hneg,Bool.not_true]<;>(repeat' apply And.intro)<;>first|trivial|exact .inl (by decide+kernel)) ?_));try simp(maxSteps:=2000000) only[undef,am0,am1,am2,am3,amb0,amb1,amb2,amb3,amb4,lwn,drn,callee,wantedB,isW,eff,pev,pst0,retPost,resAll,resP,resV,intP,mkV,putC,pbin,sbin,strsEq,peq,pint,pshift,pstr,pun,pconv,isShift,isConstB,app,subS,lay,rowsOf,lkV,keyKind,keyEq,mfind,mput,oInt,isZeroInt,forall_const,exists_eq_left',implies_true,IntKind.bits, ↓reduceIte,Nat.reduceEqDiff,Nat.reduceAdd,Nat.reduceSub,Nat.reduceMul,Nat.reduceLT,Nat.reduceLeDiff,Nat.reduceBEq,Int.reduceLE,Int.reduceLT,Int.reduceToNat,reduceCtorEq,Ty.all,g1,g3,g4,hll,hd,hr,hr2,hkt,hkt2,z0,wm,w7,hneg,Bool.not_true])
      |(rw[if_pos];rotate_left 1;omega;simp(maxSteps:=2000000) only[undef,am0,am1,am2,am3,amb0,amb1,amb2,amb3,amb4,lwn,drn,callee,wantedB,isW,eff,pev,pst0,retPost,resAll,resP,resV,intP,mkV,putC,pbin,sbin,strsEq,peq,pint,pshift,pstr,pun,pconv,isShift,isConstB,app,subS,lay,rowsOf,lkV,keyKind,keyEq,mfind,mput,oInt,isZeroInt,forall_const,exists_eq_left',implies_true,IntKind.bits, ↓reduceIte,Nat.reduceEqDiff,Nat.reduceAdd,Nat.reduceSub,Nat.reduceMul,Nat.reduceLT,Nat.reduceLeDiff,Nat.reduceBEq,Int.reduceLE,Int.reduceLT,Int.reduceToNat,reduceCtorEq,Ty.all,g1,g3,g4,hll,hd,hr,hr2,hkt,hkt2,z0,wm,w7,hneg,Bool.not_true]))
     exact⟨L.length-(k+1+1),by omega,k+1+1,rfl,by omega,rfl⟩
   ·have hd:decide ((k:Int)<(L.length:Int))=false:=by simp;omega
    repeat'(first
     |refine a_seq fun K hK=>?_
     |(refine a_block ?_)
     |((first|refine a_regionS ?_|refine a_region (fun K hK=>?_)|refine a_ret ?_);simp(maxSteps:=2000000) only[undef,am0,am1,am2,am3,amb0,amb1,amb2,amb3,amb4,lwn,drn,callee,wantedB,isW,eff,pev,pst0,retPost,resAll,resP,resV,intP,mkV,putC,pbin,sbin,strsEq,peq,pint,pshift,pstr,pun,pconv,isShift,isConstB,app,subS,lay,rowsOf,lkV,keyKind,keyEq,mfind,mput,oInt,isZeroInt,forall_const,exists_eq_left',implies_true,IntKind.bits, ↓reduceIte,Nat.reduceEqDiff,Nat.reduceAdd,Nat.reduceSub,Nat.reduceMul,Nat.reduceLT,Nat.reduceLeDiff,Nat.reduceBEq,Int.reduceLE,Int.reduceLT,Int.reduceToNat,reduceCtorEq,Ty.all,g1,g3,g4,hll,hd])
     |(refine a_skip ?_;try simp only[pst0, ↓reduceIte,Nat.reduceEqDiff])
     |(refine a_exit ?_;try simp only[pst0, ↓reduceIte,Nat.reduceEqDiff])
     |(refine a_cond _ (by(try simp(maxSteps:=2000000) only[undef,am0,am1,am2,am3,amb0,amb1,amb2,amb3,amb4,lwn,drn,callee,wantedB,isW,eff,pev,pst0,retPost,resAll,resP,resV,intP,mkV,putC,pbin,sbin,strsEq,peq,pint,pshift,pstr,pun,pconv,isShift,isConstB,app,subS,lay,rowsOf,lkV,keyKind,keyEq,mfind,mput,oInt,isZeroInt,forall_const,exists_eq_left',implies_true,IntKind.bits, ↓reduceIte,Nat.reduceEqDiff,Nat.reduceAdd,Nat.reduceSub,Nat.reduceMul,Nat.reduceLT,Nat.reduceLeDiff,Nat.reduceBEq,Int.reduceLE,Int.reduceLT,Int.reduceToNat,reduceCtorEq,Ty.all,g1,g3,g4,hll,hd]);rfl) (fun hb=>?_) (fun hb=>?_)<;>(try simp only[hb0,decide_eq_true_eq,decide_eq_false_iff_not,reduceCtorEq]at hb)<;>(try(exfalso;omega)))
     |(with_reducible refine ite_in (fun hb=>?_) (fun hb=>?_)<;>(try simp only[Decidable.not_not]at hb)<;>(try simp only[hb,if_true,if_false,not_false_eq_true,not_true_eq_false, ↓reduceIte])<;>(try simp only[hb0,decide_eq_true_eq,decide_eq_false_iff_not,reduceCtorEq]at hb)<;>(try(exfalso;omega)))
     |(refine hK _ _ ?_;clear hK;try simp only[pst0, ↓reduceIte,Nat.reduceEqDiff])
     |(clear hK;refine hK _ _ ?_;clear hK;try simp only[pst0, ↓reduceIte,Nat.reduceEqDiff])
     |(clear hK;clear hK;refine hK _ _ ?_;clear hK;try simp only[pst0, ↓reduceIte,Nat.reduceEqDiff])
     |(clear hK;clear hK;clear hK;refine hK _ _ ?_;clear hK;try simp only[pst0, ↓reduceIte,Nat.reduceEqDiff])
     |(rw[if_pos];rotate_left 1;omega;simp(maxSteps:=2000000) only[undef,am0,am1,am2,am3,amb0,amb1,amb2,amb3,amb4,lwn,drn,callee,wantedB,isW,eff,pev,pst0,retPost,resAll,resP,resV,intP,mkV,putC,pbin,sbin,strsEq,peq,pint,pshift,pstr,pun,pconv,isShift,isConstB,app,subS,lay,rowsOf,lkV,keyKind,keyEq,mfind,mput,oInt,isZeroInt,forall_const,exists_eq_left',implies_true,IntKind.bits, ↓reduceIte,Nat.reduceEqDiff,Nat.reduceAdd,Nat.reduceSub,Nat.reduceMul,Nat.reduceLT,Nat.reduceLeDiff,Nat.reduceBEq,Int.reduceLE,Int.reduceLT,Int.reduceToNat,reduceCtorEq,Ty.all,g1,g3,g4,hll,hd]))
    refine a_loop (fun m S H=>H=Heap.nil∧S 1= .cptr [sPV pn,sPV pd,.imm 2 (pmRows po),.imm 2 (atRows pi),.imm 3 (vlRows pv),sPV gop,sPV gname,.imm 1 (strRows gargs),.imm 2 (pmRows gparams),.imm 5 (Ex.rows gexprs),.imm 6 (Fm.rows gkids)]∧S 3= .imm 2 (atRows L)∧ ∃ k:Nat,S 5= .sc (.int .i64 k)∧k≤pi.length∧m=pi.length-k) pi.length ?_ ?_
    ·simp only[undef,am0,am1,am2,am3,amb0,amb1,amb2,amb3,amb4,lwn,drn,callee,wantedB,isW,eff,pev,pst0,retPost,resAll,resP,resV,intP,mkV,putC,pbin,sbin,strsEq,peq,pint,pshift,pstr,pun,pconv,isShift,isConstB,app,subS,lay,rowsOf,lkV,keyKind,keyEq,mfind,mput,oInt,isZeroInt,forall_const,exists_eq_left',implies_true,IntKind.bits, ↓reduceIte,Nat.reduceEqDiff,Nat.reduceAdd,Nat.reduceSub,Nat.reduceMul,Nat.reduceLT,Nat.reduceLeDiff,Nat.reduceBEq,Int.reduceLE,Int.reduceLT,Int.reduceToNat,reduceCtorEq]
     exact⟨g1,g3,0,rfl,by omega,rfl⟩
    ·rintro m S H ⟨rfl,g1,g3,k,g5,hk,rfl⟩
     by_cases hlt:k<pi.length
     ·have hd:decide ((k:Int)<(pi.length:Int))=true:=by simp;omega
      have w7:IntKind.i64.wrap ((k:Int)+1)=((k+1:Nat):Int):=by rw[wrap64 (by omega) (by omega)];omega
      obtain⟨x,hx⟩: ∃ x,pi[k]? =some x:=⟨_,List.getElem?_eq_getElem hlt⟩
      have hxm:=List.mem_of_getElem? hx
      obtain⟨y,hy1,hy2⟩:=hhas x hxm
      have hc:=fun H:Heap=>rHasI_c (l:=L) (a:=x) (by omega) (fun a ha=>hok a (hin a ha)) (hok x hxm) H
      rw[hasI_of hy1 hy2]at hc
      have hr:=atRows_get hx
      simp only[atRow]at hc
      repeat'(first
       |refine a_seq fun K hK=>?_
       |(refine a_block ?_)
       |((first|refine a_regionS ?_|refine a_region (fun K hK=>?_)|refine a_ret ?_);simp(maxSteps:=2000000) only[undef,am0,am1,am2,am3,amb0,amb1,amb2,amb3,amb4,lwn,drn,callee,wantedB,isW,eff,pev,pst0,retPost,resAll,resP,resV,intP,mkV,putC,pbin,sbin,strsEq,peq,pint,pshift,pstr,pun,pconv,isShift,isConstB,app,subS,lay,rowsOf,lkV,keyKind,keyEq,mfind,mput,oInt,isZeroInt,forall_const,exists_eq_left',implies_true,IntKind.bits, ↓reduceIte,Nat.reduceEqDiff,Nat.reduceAdd,Nat.reduceSub,Nat.reduceMul,Nat.reduceLT,Nat.reduceLeDiff,Nat.reduceBEq,Int.reduceLE,Int.reduceLT,Int.reduceToNat,reduceCtorEq,Ty.all,g1,g3,g5,hli,hd,hr])
       |(refine a_skip ?_;try simp only[pst0, ↓reduceIte,Nat.reduceEqDiff])
       |(refine a_exit ?_;try simp only[pst0, ↓reduceIte,Nat.reduceEqDiff])
       |(refine a_cond _ (by(try simp(maxSteps:=2000000) only[undef,am0,am1,am2,am3,amb0,amb1,amb2,amb3,amb4,lwn,drn,callee,wantedB,isW,eff,pev,pst0,retPost,resAll,resP,resV,intP,mkV,putC,pbin,sbin,strsEq,peq,pint,pshift,pstr,pun,pconv,isShift,isConstB,app,subS,lay,rowsOf,lkV,keyKind,keyEq,mfind,mput,oInt,isZeroInt,forall_const,exists_eq_left',implies_true,IntKind.bits, ↓reduceIte,Nat.reduceEqDiff,Nat.reduceAdd,Nat.reduceSub,Nat.reduceMul,Nat.reduceLT,Nat.reduceLeDiff,Nat.reduceBEq,Int.reduceLE,Int.reduceLT,Int.reduceToNat,reduceCtorEq,Ty.all,g1,g3,g5,hli,hd,hr]);rfl) (fun hb=>?_) (fun hb=>?_)<;>(try simp only[hb0,decide_eq_true_eq,decide_eq_false_iff_not,reduceCtorEq]at hb)<;>(try(exfalso;omega)))
       |(with_reducible refine ite_in (fun hb=>?_) (fun hb=>?_)<;>(try simp only[Decidable.not_not]at hb)<;>(try simp only[hb,if_true,if_false,not_false_eq_true,not_true_eq_false, ↓reduceIte])<;>(try simp only[hb0,decide_eq_true_eq,decide_eq_false_iff_not,reduceCtorEq]at hb)<;>(try(exfalso;omega)))
       |(refine hK _ _ ?_;clear hK;try simp only[pst0, ↓reduceIte,Nat.reduceEqDiff])
       |(clear hK;refine hK _ _ ?_;clear hK;try simp only[pst0, ↓reduceIte,Nat.reduceEqDiff])
       |(clear hK;clear hK;refine hK _ _ ?_;clear hK;try simp only[pst0, ↓reduceIte,Nat.reduceEqDiff])
       |(clear hK;clear hK;clear hK;refine hK _ _ ?_;clear hK;try simp only[pst0, ↓reduceIte,Nat.reduceEqDiff])
       |(rw[if_pos];rotate_left 1;omega;simp(maxSteps:=2000000) only[undef,am0,am1,am2,am3,amb0,amb1,amb2,amb3,amb4,lwn,drn,callee,wantedB,isW,eff,pev,pst0,retPost,resAll,resP,resV,intP,mkV,putC,pbin,sbin,strsEq,peq,pint,pshift,pstr,pun,pconv,isShift,isConstB,app,subS,lay,rowsOf,lkV,keyKind,keyEq,mfind,mput,oInt,isZeroInt,forall_const,exists_eq_left',implies_true,IntKind.bits, ↓reduceIte,Nat.reduceEqDiff,Nat.reduceAdd,Nat.reduceSub,Nat.reduceMul,Nat.reduceLT,Nat.reduceLeDiff,Nat.reduceBEq,Int.reduceLE,Int.reduceLT,Int.reduceToNat,reduceCtorEq,Ty.all,g1,g3,g5,hli,hd,hr]))
      refine owp_useQ (hc _) (by(try simp only[undef,am0,am1,am2,am3,amb0,amb1,amb2,amb3,amb4,lwn,drn,callee,wantedB,isW,eff,pev,pst0,retPost,resAll,resP,resV,intP,mkV,putC,pbin,sbin,strsEq,peq,pint,pshift,pstr,pun,pconv,isShift,isConstB,app,subS,lay,rowsOf,lkV,keyKind,keyEq,mfind,mput,oInt,isZeroInt,forall_const,exists_eq_left',implies_true,IntKind.bits, ↓reduceIte,Nat.reduceEqDiff,Nat.reduceAdd,Nat.reduceSub,Nat.reduceMul,Nat.reduceLT,Nat.reduceLeDiff,Nat.reduceBEq,Int.reduceLE,Int.reduceLT,Int.reduceToNat,reduceCtorEq,g1,g3,g5,Bool.not_true]);try rfl) ?_
      simp(maxSteps:=2000000) only[undef,am0,am1,am2,am3,amb0,amb1,amb2,amb3,amb4,lwn,drn,callee,wantedB,isW,eff,pev,pst0,retPost,resAll,resP,resV,intP,mkV,putC,pbin,sbin,strsEq,peq,pint,pshift,pstr,pun,pconv,isShift,isConstB,app,subS,lay,rowsOf,lkV,keyKind,keyEq,mfind,mput,oInt,isZeroInt,forall_const,exists_eq_left',implies_true,IntKind.bits, ↓reduceIte,Nat.reduceEqDiff,Nat.reduceAdd,Nat.reduceSub,Nat.reduceMul,Nat.reduceLT,Nat.reduceLeDiff,Nat.reduceBEq,Int.reduceLE,Int.reduceLT,Int.reduceToNat,reduceCtorEq,Ty.all,g1,g3,g5,Bool.not_true]
      repeat'(first
       |refine a_seq fun K hK=>?_
       |(refine a_block ?_)
       |((first|refine a_regionS ?_|refine a_region (fun K hK=>?_)|refine a_ret ?_);simp(maxSteps:=2000000) only[undef,am0,am1,am2,am3,amb0,amb1,amb2,amb3,amb4,lwn,drn,callee,wantedB,isW,eff,pev,pst0,retPost,resAll,resP,resV,intP,mkV,putC,pbin,sbin,strsEq,peq,pint,pshift,pstr,pun,pconv,isShift,isConstB,app,subS,lay,rowsOf,lkV,keyKind,keyEq,mfind,mput,oInt,isZeroInt,forall_const,exists_eq_left',implies_true,IntKind.bits, ↓reduceIte,Nat.reduceEqDiff,Nat.reduceAdd,Nat.reduceSub,Nat.reduceMul,Nat.reduceLT,Nat.reduceLeDiff,Nat.reduceBEq,Int.reduceLE,Int.reduceLT,Int.reduceToNat,reduceCtorEq,Ty.all,g1,g3,g5,w7,Bool.not_true])
       |(refine a_skip ?_;try simp only[pst0, ↓reduceIte,Nat.reduceEqDiff])
       |(refine a_exit ?_;try simp only[pst0, ↓reduceIte,Nat.reduceEqDiff])
       |(refine a_cond _ (by(try simp(maxSteps:=2000000) only[undef,am0,am1,am2,am3,amb0,amb1,amb2,amb3,amb4,lwn,drn,callee,wantedB,isW,eff,pev,pst0,retPost,resAll,resP,resV,intP,mkV,putC,pbin,sbin,strsEq,peq,pint,pshift,pstr,pun,pconv,isShift,isConstB,app,subS,lay,rowsOf,lkV,keyKind,keyEq,mfind,mput,oInt,isZeroInt,forall_const,exists_eq_left',implies_true,IntKind.bits, ↓reduceIte,Nat.reduceEqDiff,Nat.reduceAdd,Nat.reduceSub,Nat.reduceMul,Nat.reduceLT,Nat.reduceLeDiff,Nat.reduceBEq,Int.reduceLE,Int.reduceLT,Int.reduceToNat,reduceCtorEq,Ty.all,g1,g3,g5,w7,Bool.not_true]);rfl) (fun hb=>?_) (fun hb=>?_)<;>(try simp only[hb0,decide_eq_true_eq,decide_eq_false_iff_not,reduceCtorEq]at hb)<;>(try(exfalso;omega)))
       |(with_reducible refine ite_in (fun hb=>?_) (fun hb=>?_)<;>(try simp only[Decidable.not_not]at hb)<;>(try simp only[hb,if_true,if_false,not_false_eq_true,not_true_eq_false, ↓reduceIte])<;>(try simp only[hb0,decide_eq_true_eq,decide_eq_false_iff_not,reduceCtorEq]at hb)<;>(try(exfalso;omega)))
       |(refine hK _ _ ?_;clear hK;try simp only[pst0, ↓reduceIte,Nat.reduceEqDiff])
       |(clear hK;refine hK _ _ ?_;clear hK;try simp only[pst0, ↓reduceIte,Nat.reduceEqDiff])
       |(clear hK;clear hK;refine hK _ _ ?_;clear hK;try simp only[pst0, ↓reduceIte,Nat.reduceEqDiff])
       |(clear hK;clear hK;clear hK;refine hK _ _ ?_;clear hK;try simp only[pst0, ↓reduceIte,Nat.reduceEqDiff])
       |(rw[if_pos];rotate_left 1;omega;simp(maxSteps:=2000000) only[undef,am0,am1,am2,am3,amb0,amb1,amb2,amb3,amb4,lwn,drn,callee,wantedB,isW,eff,pev,pst0,retPost,resAll,resP,resV,intP,mkV,putC,pbin,sbin,strsEq,peq,pint,pshift,pstr,pun,pconv,isShift,isConstB,app,subS,lay,rowsOf,lkV,keyKind,keyEq,mfind,mput,oInt,isZeroInt,forall_const,exists_eq_left',implies_true,IntKind.bits, ↓reduceIte,Nat.reduceEqDiff,Nat.reduceAdd,Nat.reduceSub,Nat.reduceMul,Nat.reduceLT,Nat.reduceLeDiff,Nat.reduceBEq,Int.reduceLE,Int.reduceLT,Int.reduceToNat,reduceCtorEq,Ty.all,g1,g3,g5,w7,Bool.not_true]))
      exact⟨pi.length-(k+1),by omega,k+1,rfl,by omega,rfl⟩
     ·have hd:decide ((k:Int)<(pi.length:Int))=false:=by simp;omega
      repeat'(first
       |refine a_seq fun K hK=>?_
       |(refine a_block ?_)
       |((first|refine a_regionS ?_|refine a_region (fun K hK=>?_)|refine a_ret ?_);simp(maxSteps:=2000000) only[undef,am0,am1,am2,am3,amb0,amb1,amb2,amb3,amb4,lwn,drn,callee,wantedB,isW,eff,pev,pst0,retPost,resAll,resP,resV,intP,mkV,putC,pbin,sbin,strsEq,peq,pint,pshift,pstr,pun,pconv,isShift,isConstB,app,subS,lay,rowsOf,lkV,keyKind,keyEq,mfind,mput,oInt,isZeroInt,forall_const,exists_eq_left',implies_true,IntKind.bits, ↓reduceIte,Nat.reduceEqDiff,Nat.reduceAdd,Nat.reduceSub,Nat.reduceMul,Nat.reduceLT,Nat.reduceLeDiff,Nat.reduceBEq,Int.reduceLE,Int.reduceLT,Int.reduceToNat,reduceCtorEq,Ty.all,g1,g3,g5,hli,hd])
       |(refine a_skip ?_;try simp only[pst0, ↓reduceIte,Nat.reduceEqDiff])
       |(refine a_exit ?_;try simp only[pst0, ↓reduceIte,Nat.reduceEqDiff])
       |(refine a_cond _ (by(try simp(maxSteps:=2000000) only[undef,am0,am1,am2,am3,amb0,amb1,amb2,amb3,amb4,lwn,drn,callee,wantedB,isW,eff,pev,pst0,retPost,resAll,resP,resV,intP,mkV,putC,pbin,sbin,strsEq,peq,pint,pshift,pstr,pun,pconv,isShift,isConstB,app,subS,lay,rowsOf,lkV,keyKind,keyEq,mfind,mput,oInt,isZeroInt,forall_const,exists_eq_left',implies_true,IntKind.bits, ↓reduceIte,Nat.reduceEqDiff,Nat.reduceAdd,Nat.reduceSub,Nat.reduceMul,Nat.reduceLT,Nat.reduceLeDiff,Nat.reduceBEq,Int.reduceLE,Int.reduceLT,Int.reduceToNat,reduceCtorEq,Ty.all,g1,g3,g5,hli,hd]);rfl) (fun hb=>?_) (fun hb=>?_)<;>(try simp only[hb0,decide_eq_true_eq,decide_eq_false_iff_not,reduceCtorEq]at hb)<;>(try(exfalso;omega)))
       |(with_reducible refine ite_in (fun hb=>?_) (fun hb=>?_)<;>(try simp only[Decidable.not_not]at hb)<;>(try simp only[hb,if_true,if_false,not_false_eq_true,not_true_eq_false, ↓reduceIte])<;>(try simp only[hb0,decide_eq_true_eq,decide_eq_false_iff_not,reduceCtorEq]at hb)<;>(try(exfalso;omega)))
       |(refine hK _ _ ?_;clear hK;try simp only[pst0, ↓reduceIte,Nat.reduceEqDiff])
       |(clear hK;refine hK _ _ ?_;clear hK;try simp only[pst0, ↓reduceIte,Nat.reduceEqDiff])
       |(clear hK;clear hK;refine hK _ _ ?_;clear hK;try simp only[pst0, ↓reduceIte,Nat.reduceEqDiff])
       |(clear hK;clear hK;clear hK;refine hK _ _ ?_;clear hK;try simp only[pst0, ↓reduceIte,Nat.reduceEqDiff])
       |(rw[if_pos];rotate_left 1;omega;simp(maxSteps:=2000000) only[undef,am0,am1,am2,am3,amb0,amb1,amb2,amb3,amb4,lwn,drn,callee,wantedB,isW,eff,pev,pst0,retPost,resAll,resP,resV,intP,mkV,putC,pbin,sbin,strsEq,peq,pint,pshift,pstr,pun,pconv,isShift,isConstB,app,subS,lay,rowsOf,lkV,keyKind,keyEq,mfind,mput,oInt,isZeroInt,forall_const,exists_eq_left',implies_true,IntKind.bits, ↓reduceIte,Nat.reduceEqDiff,Nat.reduceAdd,Nat.reduceSub,Nat.reduceMul,Nat.reduceLT,Nat.reduceLeDiff,Nat.reduceBEq,Int.reduceLE,Int.reduceLT,Int.reduceToNat,reduceCtorEq,Ty.all,g1,g3,g5,hli,hd]))
end Go.Proofs.Ytdekkbdlcblhcaa
namespace Go.AM
open Go.ChangeShapes Go.WideShapes
def partsT(P:Program)(t:TypeId):List (Nat × TypeId):=match P.underlying t with
 |some (.struct fs)=>fs.toList.map fun f=>(f.offset,f.type)
 |some (.array n e)=>(List.range n).map fun i=>(i*P.cellsOf e,e)
 |_=>[]
def inRow(P:Program)(e:Nat):Nat→List (Nat × TypeId)→Bool
 |o,[]=>o==e
 |o,p::l=>p.1==o&&inRow P e (o+P.cellsOf p.2) l
def covB(P:Program):Nat→TypeId→Bool
 |0,_=>false
 |f+1,t=>match P.underlying t with
  |some .bool=>true
  |some (.int _)=>true
  |some .string=>true
  |some (.slice e)=>decide (0<P.cellsOf e)&&covB P f e
  |some (.struct _)=>inRow P (P.cellsOf t) 0 (partsT P t)&&(partsT P t).all fun p=>covB P f p.2
  |some (.array _ _)=>inRow P (P.cellsOf t) 0 (partsT P t)&&(partsT P t).all fun p=>covB P f p.2
  |_=>false
def Arg(P:Program):Nat→TypeId→List PV→Prop
 |0,_,_=>False
 |f+1,t,ps=>match P.underlying t with
  |some .bool=> ∃ b,ps=[.sc (.bool b)]
  |some (.int k)=> ∃ n,(Lit.int k n).wf=true∧ps=[.sc (.int k n)]
  |some .string=> ∃ s:ByteArray,s.size≤reachBytes∧ps=[.sc (.string s)]
  |some (.slice e)=> ∃ rows,ps=[.imm (P.cellsOf e) rows]∧rows.length*P.bytesOf e≤reachBytes∧rows.length≤maxLen∧ ∀ r∈rows,r.length=P.cellsOf e∧Arg P f e r
  |some (.struct _)=>ps.length=P.cellsOf t∧ ∀ p∈partsT P t,Arg P f p.2 ((ps.drop p.1).take (P.cellsOf p.2))
  |some (.array _ _)=>ps.length=P.cellsOf t∧ ∀ p∈partsT P t,Arg P f p.2 ((ps.drop p.1).take (P.cellsOf p.2))
  |_=>False
section
variable {H:Type}{enc:TypeId × Value→H}{P:Program}{w:World}{sp:Nat→Bool}{held:Bool}
def RA(w:World)(ps:List PV)(cs:List Value):Prop:=(∀ v∈cs,v.oneCell'=true)∧ ∀ β n,RepL β n (fun b=>b<w.heap.size) w ps cs
theorem RA.len{ps:List PV}{cs:List Value}(h:RA w ps cs):ps.length=cs.length:=(h.2 ⟨fun _=>⟨none,0,0,0⟩,fun _=>False⟩ 0).len
theorem RA.append{ps ps':List PV}{cs cs':List Value}(h:RA w ps cs)(k:RA w ps' cs'):RA w (ps++ps') (cs++cs'):=
 ⟨fun v hv=>by exact(List.mem_append.1 hv).elim (h.1 v) (k.1 v),fun β n=>(h.2 β n).append (k.2 β n)⟩
theorem inRow_le{e:Nat}:(l:List (Nat × TypeId))→(o:Nat)→inRow P e o l=true→o≤e∧ ∀ p∈l,o≤p.1∧p.1+P.cellsOf p.2≤e
 |[],o,h=>by simp[inRow]at h;simp[h]
 |p::l,o,h=>by
  simp only[inRow,Bool.and_eq_true,beq_iff_eq]at h
  obtain⟨h1,h2⟩:=inRow_le l _ h.2
  refine⟨by omega,fun q hq=>?_⟩
  rcases List.mem_cons.1 hq with rfl|hq
  ·omega
  ·have:=h2 q hq;omega
theorem exists_list{α:Type}{R:Nat→α→Prop}:(n:Nat)→(∀ i,i<n→ ∃ x,R i x)→ ∃ l:List α,l.length=n∧ ∀ i x,l[i]? =some x→R i x
 |0,_=>⟨[],rfl,by simp⟩
 |n+1,h=>by
  obtain⟨l,h1,h2⟩:=exists_list n (fun i hi=>h i (by omega))
  obtain⟨x,hx⟩:=h n (by omega)
  refine⟨l++[x],by simp[h1],fun i y hy=>?_⟩
  rw[List.getElem?_append]at hy
  split at hy
  ·exact h2 i y hy
  ·rename_i hi
   have:i=n:=by
    have:=(List.getElem?_eq_some_iff.1 hy).1
    simp at this;omega
   subst this
   rw[h1]at hy
   simp at hy
   subst hy;exact hx
theorem weightsAll_mem{e:TypeId}{n:Nat}:{ds:List (DataW H)}→{i:Nat}→{d:DataW H}→ds[i]? =some d→n∈d.weights P e→n∈DataW.weightsAll P e ds
 |[],_,_,h,_=>by simp at h
 |d0::ds,0,d,h,hn=>by
  simp at h;subst h
  simp only[DataW.weightsAll,List.mem_append];exact .inl hn
 |d0::ds,i+1,d,h,hn=>by
  simp at h
  simp only[DataW.weightsAll,List.mem_append];exact .inr (weightsAll_mem h hn)
theorem sc_RA{v:Value}(h:v.oneCell'=true):RA w [.sc v] [v]:=
 ⟨fun u hu=>by simp at hu;subst hu;exact h,fun β n=>by simp only[RepL,Rep];exact⟨trivial,trivial⟩⟩
end
end Go.AM
namespace Go.AM
open Go.ChangeShapes Go.WideShapes
section
variable {H:Type}{enc:TypeId × Value→H}{P:Program}{w:World}{sp:Nat→Bool}{held:Bool}
def covC(P:Program)(Ts:List TypeId):Bool:=Ts.all fun t=>match P.underlying t with
 |some .bool=>true
 |some (.int _)=>true
 |some .string=>true
 |some (.slice e)=>decide (0<P.cellsOf e)&&Ts.contains e
 |some (.struct _)=>inRow P (P.cellsOf t) 0 (partsT P t)&&(partsT P t).all fun p=>Ts.contains p.2
 |some (.array _ _)=>inRow P (P.cellsOf t) 0 (partsT P t)&&(partsT P t).all fun p=>Ts.contains p.2
 |_=>false
end
end Go.AM
namespace Go.AM
open Go.ChangeShapes Go.WideShapes
section
variable {P:Program}{c:Nat}{t e:TypeId}{ps:List PV}{a:PV}
theorem Arg_int{k:IntKind}(hu:P.underlying t=some (.int k))(h:Arg P (c+1) t ps): ∃ n,(Lit.int k n).wf=true∧ps=[.sc (.int k n)]:=by
 unfold Arg at h;rw[hu]at h;exact h
theorem Arg_slice(hu:P.underlying t=some (.slice e))(h:Arg P (c+1) t ps): ∃ rows,ps=[.imm (P.cellsOf e) rows]∧rows.length*P.bytesOf e≤reachBytes∧rows.length≤maxLen∧ ∀ r∈rows,r.length=P.cellsOf e∧Arg P c e r:=by
 unfold Arg at h;rw[hu]at h;exact h
theorem Arg_struct{fs:Array Field}(hu:P.underlying t=some (.struct fs))(h:Arg P (c+1) t ps):ps.length=P.cellsOf t∧ ∀ p∈partsT P t,Arg P c p.2 ((ps.drop p.1).take (P.cellsOf p.2)):=by
 unfold Arg at h;rw[hu]at h;exact h
theorem rows_map{α:Type}{Q:α→Prop}{f:α→List PV}:(rows:List (List PV))→(∀ r∈rows, ∃ x,Q x∧r=f x)→ ∃ xs:List α,rows=xs.map f∧ ∀ x∈xs,Q x
 |[],_=>⟨[],rfl,by simp⟩
 |r::rows,h=>by
  obtain⟨xs,h1,h2⟩:=rows_map rows (fun q hq=>h q (by simp[hq]))
  obtain⟨x,h3,h4⟩:=h r (by simp)
  refine⟨x::xs,by simp[h1,h4],fun y hy=>?_⟩
  rcases List.mem_cons.1 hy with rfl|hy
  ·exact h3
  ·exact h2 y hy
theorem i64_in{n:Int}(h:(Lit.int .i64 n).wf=true): -9223372036854775808≤n∧n≤9223372036854775807:=by
 simp[Lit.wf,IntKind.min,IntKind.max,IntKind.bits,IntKind.signed]at h
 omega
end
end Go.AM
namespace Go.Proofs.Ytdekkbdlcblhcaa
open Go.AM
set_option maxHeartbeats 1000000
set_option maxRecDepth 20000
def recTs:List TypeId:=[29,57,105,9,3,25,22,26,27]
theorem parts57:partsT Try.prog 57=[(0,9),(1,9),(2,3),(3,25),(4,26)]:=by kernel_rfl
theorem parts29:partsT Try.prog 29=[(0,9),(1,9),(2,25),(3,22),(4,26),(5,27)]:=by kernel_rfl
theorem parts99:partsT Try.prog 105=[(0,9),(1,9)]:=by kernel_rfl
theorem co9:Try.prog.cellsOf 9=1:=by kernel_rfl
theorem co3:Try.prog.cellsOf 3=1:=by kernel_rfl
theorem co24:Try.prog.cellsOf 25=1:=by kernel_rfl
theorem co25:Try.prog.cellsOf 22=1:=by kernel_rfl
theorem co26:Try.prog.cellsOf 26=1:=by kernel_rfl
theorem co27:Try.prog.cellsOf 27=1:=by kernel_rfl
theorem co57:Try.prog.cellsOf 57=5:=by kernel_rfl
theorem co29:Try.prog.cellsOf 29=6:=by kernel_rfl
theorem co99:Try.prog.cellsOf 105=2:=by kernel_rfl
theorem by9:0<Try.prog.bytesOf 9:=by rw[show Try.prog.bytesOf 9=16 by kernel_rfl];omega
theorem by99:0<Try.prog.bytesOf 105:=by rw[show Try.prog.bytesOf 105=32 by kernel_rfl];omega
theorem by57:0<Try.prog.bytesOf 57:=by rw[show Try.prog.bytesOf 57=88 by kernel_rfl];omega
theorem by29:0<Try.prog.bytesOf 29:=by rw[show Try.prog.bytesOf 29=128 by kernel_rfl];omega
theorem len_le{n b:Nat}(h:n*b≤reachBytes)(hb:0<b):n≤bigN:=by
 have:=Nat.le_mul_of_pos_right n hb
 unfold reachBytes at h
 unfold bigN
 omega
theorem arg_str{c:Nat}{ps:List PV}(h:Arg Try.prog c 9 ps): ∃ s:ByteArray,s.size≤bigN∧ps=[sPV s]:=by
 cases c with
 |zero=>simp[Arg]at h
 |succ c=>
  unfold Arg at h
  rw[Try.underlying9]at h
  obtain⟨s,h1,h2⟩:=h
  exact⟨s,by unfold reachBytes at h1;unfold bigN;omega,h2⟩
theorem arg_i64{c:Nat}{ps:List PV}(h:Arg Try.prog c 3 ps): ∃ n:Int,(-9223372036854775808≤n∧n≤9223372036854775807)∧ps=[.sc (.int .i64 n)]:=by
 cases c with
 |zero=>simp[Arg]at h
 |succ c=>
  obtain⟨n,h1,h2⟩:=Arg_int Try.underlying3 h
  exact⟨n,i64_in h1,h2⟩
theorem arg_strs{c:Nat}{ps:List PV}(h:Arg Try.prog c 25 ps): ∃ l:List ByteArray,(l.length≤bigN∧ ∀ a∈l,a.size≤bigN)∧ps=[.imm 1 (strRows l)]:=by
 cases c with
 |zero=>simp[Arg]at h
 |succ c=>
  obtain⟨rows,rfl,h1,_,h2⟩:=Arg_slice Try.underlying25 h
  obtain⟨xs,rfl,h3⟩:=rows_map (Q:=fun s:ByteArray=>s.size≤bigN) (f:=fun s=>[sPV s]) rows (fun r hr=>arg_str (h2 r hr).2)
  refine⟨xs,⟨len_le (by simpa using h1) by9,h3⟩,?_⟩
  rw[co9];try rfl
theorem arg_pm{c:Nat}{ps:List PV}(h:Arg Try.prog c 105 ps): ∃ p:Pm,p.ok∧ps=pmRow p:=by
 cases c with
 |zero=>simp[Arg]at h
 |succ c=>
  obtain⟨h1,h2⟩:=Arg_struct Try.underlying105 h
  rw[co99]at h1
  rw[parts99]at h2
  match ps,h1,h2 with
  |[p0,p1],_,h2=>
   have a0:=h2 (0,9) (by simp)
   have a1:=h2 (1,9) (by simp)
   simp only[co9,List.drop_zero,List.drop_succ_cons,List.take_succ_cons,List.take_zero]at a0 a1
   obtain⟨s,hs,e1⟩:=arg_str a0
   obtain⟨t,ht,e2⟩:=arg_str a1
   simp at e1 e2
   exact⟨⟨s,t⟩,⟨hs,ht⟩,by simp[pmRow,e1,e2]⟩
theorem arg_pms{c:Nat}{ps:List PV}(h:Arg Try.prog c 22 ps): ∃ l:List Pm,(l.length≤bigN∧ ∀ a∈l,a.ok)∧ps=[.imm 2 (pmRows l)]:=by
 cases c with
 |zero=>simp[Arg]at h
 |succ c=>
  obtain⟨rows,rfl,h1,_,h2⟩:=Arg_slice Try.underlying22 h
  obtain⟨xs,rfl,h3⟩:=rows_map (Q:=Pm.ok) (f:=pmRow) rows (fun r hr=>arg_pm (h2 r hr).2)
  refine⟨xs,⟨len_le (by simpa using h1) by99,h3⟩,?_⟩
  rw[co99];try rfl
theorem arg_ex: ∀ (c:Nat){ps:List PV},Arg Try.prog c 57 ps→ ∃ e:Ex,e.ok∧ps=e.cells:=by
 intro c
 induction c using Nat.strongRecOn with
 |_ c ih=>
  intro ps h
  cases c with
  |zero=>simp[Arg]at h
  |succ c=>
   obtain⟨h1,h2⟩:=Arg_struct Try.underlying57 h
   rw[co57]at h1
   rw[parts57]at h2
   match ps,h1,h2 with
   |[p0,p1,p2,p3,p4],_,h2=>
    have a0:=h2 (0,9) (by simp)
    have a1:=h2 (1,9) (by simp)
    have a2:=h2 (2,3) (by simp)
    have a3:=h2 (3,25) (by simp)
    have a4:=h2 (4,26) (by simp)
    simp only[co9,co3,co24,co26,List.drop_zero,List.drop_succ_cons,List.take_succ_cons,List.take_zero]at a0 a1 a2 a3 a4
    obtain⟨op,hop,e0⟩:=arg_str a0
    obtain⟨name,hname,e1⟩:=arg_str a1
    obtain⟨n,hn,e2⟩:=arg_i64 a2
    obtain⟨args,hargs,e3⟩:=arg_strs a3
    cases c with
    |zero=>simp[Arg]at a4
    |succ c=>
     obtain⟨rows,e4,h3,_,h4⟩:=Arg_slice Try.underlying26 a4
     obtain⟨xs,rfl,h5⟩:=rows_map (Q:=Ex.ok) (f:=Ex.cells) rows (fun r hr=>ih c (by omega) (h4 r hr).2)
     rw[co57]at e4
     simp at e0 e1 e2 e3 e4
     refine⟨.mk op name n args xs,?_,?_⟩
     ·simp only[Ex.ok]
      exact⟨hop,hname,hn,hargs,len_le (by simpa using h3) by57,Ex.oks_iff.2 h5⟩
     ·simp only[Ex.cells,e0,e1,e2,e3,e4,Ex.rows_map]
theorem arg_exs{c:Nat}{ps:List PV}(h:Arg Try.prog c 26 ps): ∃ l:List Ex,(l.length≤bigN∧Ex.oks l)∧ps=[.imm 5 (Ex.rows l)]:=by
 cases c with
 |zero=>simp[Arg]at h
 |succ c=>
  obtain⟨rows,rfl,h1,_,h2⟩:=Arg_slice Try.underlying26 h
  obtain⟨xs,rfl,h3⟩:=rows_map (Q:=Ex.ok) (f:=Ex.cells) rows (fun r hr=>arg_ex c (h2 r hr).2)
  refine⟨xs,⟨len_le (by simpa using h1) by57,Ex.oks_iff.2 h3⟩,?_⟩
  rw[co57,Ex.rows_map]
theorem arg_fm: ∀ (c:Nat){ps:List PV},Arg Try.prog c 29 ps→ ∃ f:Fm,f.ok∧ps=f.cells:=by
 intro c
 induction c using Nat.strongRecOn with
 |_ c ih=>
  intro ps h
  cases c with
  |zero=>simp[Arg]at h
  |succ c=>
   obtain⟨h1,h2⟩:=Arg_struct Try.underlying29 h
   rw[co29]at h1
   rw[parts29]at h2
   match ps,h1,h2 with
   |[p0,p1,p2,p3,p4,p5],_,h2=>
    have a0:=h2 (0,9) (by simp)
    have a1:=h2 (1,9) (by simp)
    have a2:=h2 (2,25) (by simp)
    have a3:=h2 (3,22) (by simp)
    have a4:=h2 (4,26) (by simp)
    have a5:=h2 (5,27) (by simp)
    simp only[co9,co24,co25,co26,co27,List.drop_zero,List.drop_succ_cons,List.take_succ_cons,List.take_zero]at a0 a1 a2 a3 a4 a5
    obtain⟨op,hop,e0⟩:=arg_str a0
    obtain⟨name,hname,e1⟩:=arg_str a1
    obtain⟨args,hargs,e2⟩:=arg_strs a2
    obtain⟨params,hparams,e3⟩:=arg_pms a3
    obtain⟨exprs,hexprs,e4⟩:=arg_exs a4
    cases c with
    |zero=>simp[Arg]at a5
    |succ c=>
     obtain⟨rows,e5,h3,_,h4⟩:=Arg_slice Try.underlying27 a5
     obtain⟨xs,rfl,h5⟩:=rows_map (Q:=Fm.ok) (f:=Fm.cells) rows (fun r hr=>ih c (by omega) (h4 r hr).2)
     rw[co29]at e5
     simp at e0 e1 e2 e3 e4 e5
     refine⟨.mk op name args params exprs xs,?_,?_⟩
     ·simp only[Fm.ok]
      exact⟨hop,hname,hargs,hparams,hexprs,len_le (by simpa using h3) by29,Fm.oks_iff.2 h5⟩
     ·simp only[Fm.cells,e0,e1,e2,e3,e4,e5,Fm.rows_map]
end Go.Proofs.Ytdekkbdlcblhcaa
namespace Go.Proofs.Ytdekkbdlcblhcaa
open Go.AM
set_option maxHeartbeats 1000000
set_option maxRecDepth 20000
def pbTs:List TypeId:=recTs++[31,37,23,40,24]
theorem partsAt:partsT Try.prog 37=[(0,9),(1,25)]:=by kernel_rfl
theorem partsVl:partsT Try.prog 40=[(0,37),(2,3)]:=by kernel_rfl
theorem partsPb:partsT Try.prog 31=[(0,9),(1,9),(2,22),(3,23),(4,24),(5,29)]:=by kernel_rfl
theorem coAt:Try.prog.cellsOf 37=2:=by kernel_rfl
theorem coVl:Try.prog.cellsOf 40=3:=by kernel_rfl
theorem coPb:Try.prog.cellsOf 31=11:=by kernel_rfl
theorem coAts:Try.prog.cellsOf 23=1:=by kernel_rfl
theorem coVls:Try.prog.cellsOf 24=1:=by kernel_rfl
theorem byAt:0<Try.prog.bytesOf 37:=by rw[show Try.prog.bytesOf 37=40 by kernel_rfl];omega
theorem byVl:0<Try.prog.bytesOf 40:=by rw[show Try.prog.bytesOf 40=48 by kernel_rfl];omega
theorem arg_at{c:Nat}{ps:List PV}(h:Arg Try.prog c 37 ps): ∃ a:At,a.ok∧ps=atRow a:=by
 cases c with
 |zero=>simp[Arg]at h
 |succ c=>
  obtain⟨h1,h2⟩:=Arg_struct Try.underlying37 h
  rw[coAt]at h1
  rw[partsAt]at h2
  match ps,h1,h2 with
  |[p0,p1],_,h2=>
   have a0:=h2 (0,9) (by simp)
   have a1:=h2 (1,25) (by simp)
   simp only[co9,co24,List.drop_zero,List.drop_succ_cons,List.take_succ_cons,List.take_zero]at a0 a1
   obtain⟨s,hs,e1⟩:=arg_str a0
   obtain⟨t,ht,e2⟩:=arg_strs a1
   simp at e1 e2
   exact⟨⟨s,t⟩,⟨hs,ht⟩,by simp[atRow,e1,e2]⟩
theorem arg_ats{c:Nat}{ps:List PV}(h:Arg Try.prog c 23 ps): ∃ l:List At,(l.length≤bigN∧ ∀ a∈l,a.ok)∧ps=[.imm 2 (atRows l)]:=by
 cases c with
 |zero=>simp[Arg]at h
 |succ c=>
  obtain⟨rows,rfl,h1,_,h2⟩:=Arg_slice Try.underlying23 h
  obtain⟨xs,rfl,h3⟩:=rows_map (Q:=At.ok) (f:=atRow) rows (fun r hr=>arg_at (h2 r hr).2)
  refine⟨xs,⟨len_le (by simpa using h1) byAt,h3⟩,?_⟩
  rw[coAt];try rfl
theorem arg_vl{c:Nat}{ps:List PV}(h:Arg Try.prog c 40 ps): ∃ a:Vl,a.okS∧ps=vlRow a:=by
 cases c with
 |zero=>simp[Arg]at h
 |succ c=>
  obtain⟨h1,h2⟩:=Arg_struct Try.underlying40 h
  rw[coVl]at h1
  rw[partsVl]at h2
  match ps,h1,h2 with
  |[p0,p1,p2],_,h2=>
   have a0:=h2 (0,37) (by simp)
   have a1:=h2 (2,3) (by simp)
   simp only[coAt,co3,List.drop_zero,List.drop_succ_cons,List.take_succ_cons,List.take_zero]at a0 a1
   obtain⟨s,hs,e1⟩:=arg_at a0
   obtain⟨n,hn,e2⟩:=arg_i64 a1
   simp[atRow]at e1 e2
   exact⟨⟨s,n⟩,hs,by simp[vlRow,e1,e2]⟩
theorem arg_vls{c:Nat}{ps:List PV}(h:Arg Try.prog c 24 ps): ∃ l:List Vl,(l.length≤bigN∧ ∀ a∈l,a.okS)∧ps=[.imm 3 (vlRows l)]:=by
 cases c with
 |zero=>simp[Arg]at h
 |succ c=>
  obtain⟨rows,rfl,h1,_,h2⟩:=Arg_slice Try.underlying24 h
  obtain⟨xs,rfl,h3⟩:=rows_map (Q:=Vl.okS) (f:=vlRow) rows (fun r hr=>arg_vl (h2 r hr).2)
  refine⟨xs,⟨len_le (by simpa using h1) byVl,h3⟩,?_⟩
  rw[coVl];try rfl
theorem arg_pb(c:Nat){ps:List PV}(h:Arg Try.prog c 31 ps): ∃ p:Pb,p.okS∧ps=p.cells:=by
 cases c with
 |zero=>simp[Arg]at h
 |succ c=>
  obtain⟨h1,h2⟩:=Arg_struct Try.underlying31 h
  rw[coPb]at h1
  rw[partsPb]at h2
  match ps,h1,h2 with
  |[p0,p1,p2,p3,p4,p5,p6,p7,p8,p9,p10],_,h2=>
   have a0:=h2 (0,9) (by simp)
   have a1:=h2 (1,9) (by simp)
   have a2:=h2 (2,22) (by simp)
   have a3:=h2 (3,23) (by simp)
   have a4:=h2 (4,24) (by simp)
   have a5:=h2 (5,29) (by simp)
   simp only[co9,co25,coAts,coVls,co29,List.drop_zero,List.drop_succ_cons,List.take_succ_cons,List.take_zero]at a0 a1 a2 a3 a4 a5
   obtain⟨name,hname,e0⟩:=arg_str a0
   obtain⟨domain,hdomain,e1⟩:=arg_str a1
   obtain⟨objects,hobjects,e2⟩:=arg_pms a2
   obtain⟨init,hinit,e3⟩:=arg_ats a3
   obtain⟨values,hvalues,e4⟩:=arg_vls a4
   obtain⟨goal,hgoal,e5⟩:=arg_fm _ a5
   simp at e0 e1 e2 e3 e4
   refine⟨⟨name,domain,objects,init,values,goal⟩,⟨hobjects.1,hinit,hvalues,hgoal⟩,?_⟩
   simp only[Pb.cells,e0,e1,e2,e3,e4,List.cons_append,List.nil_append]
   rw[← e5]
end Go.Proofs.Ytdekkbdlcblhcaa
namespace Go.AM
mutual
def Fm.small:Fm→Prop
 | .mk _ _ args params exprs kids=>args.length≤1048576∧params.length≤1048576∧Ex.smalls exprs∧kids.length≤1048576∧Fm.smalls kids
def Fm.smalls:List Fm→Prop
 |[]=>True
 |k::ks=>k.small∧Fm.smalls ks
end
end Go.AM
namespace Go.Proofs.Ytdekkbdlcblhcaa
open Go.AM
set_option maxHeartbeats 4000000
set_option maxRecDepth 20000
end Go.Proofs.Ytdekkbdlcblhcaa
namespace Go.AM
open Go.ChangeShapes Go.WideShapes
open Go.Proofs.Ytdekkbdlcblhcaa
mutual
def PV.bulk:PV→Nat
 | .sc (.string s)=>s.size+1
 | .imm _ rows=>PV.bulkR rows+1
 |_=>1
def PV.bulkL:List PV→Nat
 |[]=>0
 |p::ps=>p.bulk+PV.bulkL ps
def PV.bulkR:List (List PV)→Nat
 |[]=>0
 |r::rs=>PV.bulkL r+PV.bulkR rs
end
theorem PV.bulkL_append: ∀ l m:List PV,PV.bulkL (l++m)=PV.bulkL l+PV.bulkL m
 |[],m=>by simp[PV.bulkL]
 |p::l,m=>by simp only[List.cons_append,PV.bulkL,PV.bulkL_append l m];omega
theorem List.getElem?_range_some{k i j:Nat}(h:(List.range k)[i]? =some j):i<k∧i=j:=by
 have h1:=(List.getElem?_eq_some_iff.1 h).1
 simp at h1
 rw[List.getElem?_range h1]at h
 simp at h
 exact⟨h1,h⟩
section
variable {H:Type}{enc:TypeId × Value→H}{P:Program}{w:World}{sp:Nat→Bool}{held:Bool}
theorem bulkR_le: ∀ (rows:List (List PV))(ds:List (DataW H)),rows.length=ds.length→(∀ (i:Nat)(r:List PV),rows[i]? =some r→ ∃ d,ds[i]? =some d∧PV.bulkL r≤Rows.uptoBulk d)→PV.bulkR rows≤Rows.uptoBulkAll ds
 |[],_,_,_=>by simp[PV.bulkR]
 |r::rows,[],h,_=>by simp at h
 |r::rows,d::ds,h,hb=>by
  have h1:=bulkR_le rows ds (by simpa using h) fun i q hq=>by simpa using hb (i+1) q (by simpa using hq)
  obtain⟨d',h2,h3⟩:=hb 0 r rfl
  simp at h2;subst h2
  simp only[PV.bulkR,Rows.uptoBulkAll];omega
theorem parts_rep5{c:Nat}{cs:List Value}:(l:List (Nat × TypeId))→(ds:List (DataW H))→(o:Nat)→inRow P cs.length o l=true→
  (∀ (i:Nat)(p:Nat × TypeId),l[i]? =some p→ ∃ d,ds[i]? =some d∧ ∃ ps,Arg P c p.2 ps∧RA w ps ((cs.drop p.1).take (P.cellsOf p.2))∧PV.bulkL ps≤Rows.uptoBulk d)→
  ∃ ps,RA w ps (cs.drop o)∧(∀ p∈l,Arg P c p.2 ((ps.drop (p.1-o)).take (P.cellsOf p.2)))∧PV.bulkL ps≤Rows.uptoBulkAll ds
 |[],ds,o,h,_=>by
  simp[inRow]at h
  refine⟨[],⟨?_,fun β n=>?_⟩,by simp,by simp[PV.bulkL]⟩
  ·rw [List.drop_of_length_le (by omega)];simp
  ·rw [List.drop_of_length_le (by omega)];simp[RepL]
 |p::l,[],o,h,hp=>by
  obtain⟨d,hd,_⟩:=hp 0 p rfl
  simp at hd
 |p::l,d::ds,o,h,hp=>by
  have hle:=(inRow_le (p::l) o h).2 p (by simp)
  simp only[inRow,Bool.and_eq_true,beq_iff_eq]at h
  obtain⟨ps,h1,h2,h20⟩:=parts_rep5 l ds _ h.2 (fun i q hq=>by simpa using hp (i+1) q (by simpa using hq))
  obtain⟨d',hd,ps0,h3,h4,h40⟩:=hp 0 p rfl
  simp at hd;subst hd
  have hl2:=(inRow_le l _ h.2).2
  have e0:p.1=o:=h.1
  have l0:ps0.length=P.cellsOf p.2:=by rw[h4.len,List.length_take,List.length_drop];omega
  refine⟨ps0++ps,?_,fun q hq=>?_,by rw[PV.bulkL_append];simp only[Rows.uptoBulkAll];omega⟩
  ·have:cs.drop o=(cs.drop p.1).take (P.cellsOf p.2)++cs.drop (o+P.cellsOf p.2):=by
    rw[e0, ← List.drop_drop,List.take_append_drop]
   rw[this]
   exact h4.append h1
  ·rcases List.mem_cons.1 hq with rfl|hq
   ·rw [e0,Nat.sub_self,List.drop_zero,List.take_append_of_le_length (by omega),List.take_of_length_le (by omega)]
    exact h3
   ·have h5:=hl2 q hq
    have:q.1-o=ps0.length+(q.1-(o+P.cellsOf p.2)):=by omega
    rw[this, ← List.drop_drop,List.drop_left]
    exact h2 q hq
theorem arg_rec5{Ts:List TypeId}(hT:covC P Ts=true): ∀ (fuel:Nat)(t:TypeId),Ts.contains t=true→ ∀ (cs:List Value)(x:DataW H × List MemPlace),DataW.trod enc P w 0 sp held fuel t cs=some x→(∀ n∈x.1.weights P t,n≤reachBytes)→
  ∃ ps,Arg P fuel t ps∧RA w ps cs∧PV.bulkL ps≤Rows.uptoBulk x.1
 |0,_,_,_,_,hx,_=>by simp[DataW.trod]at hx
 |c+1,t,ht,cs,x,hx,hw=>by
  have h:=List.all_eq_true.1 hT t (by simpa using ht)
  split at h
  ·rename_i hu
   obtain⟨b,rfl,rfl⟩:=DataW.trod_bool hu hx
   refine⟨[.sc (.bool b)],?_,sc_RA rfl,by simp[PV.bulkL,PV.bulk,Rows.uptoBulk]⟩
   unfold Arg;rw[hu];exact⟨b,rfl⟩
  ·rename_i k hu
   obtain⟨n,rfl,rfl,hwf⟩:=DataW.trod_int hu hx
   refine⟨[.sc (.int k n)],?_,sc_RA rfl,by simp[PV.bulkL,PV.bulk,Rows.uptoBulk]⟩
   unfold Arg;rw[hu];exact⟨n,hwf,rfl⟩
  ·rename_i hu
   obtain⟨s,rfl,rfl,hs⟩:=DataW.trod_string hu hx
   refine⟨[.sc (.string s)],?_,sc_RA rfl,by have e:s.data.toList.length=s.size:=by{rw[Array.length_toList];try rfl};simp only[PV.bulkL,PV.bulk,Rows.uptoBulk];omega⟩
   unfold Arg;rw[hu]
   refine⟨s,?_,rfl⟩
   have:=hw s.data.toList.length (by simp[DataW.weights])
   simpa using this
  ·rename_i e hu
   simp only[Bool.and_eq_true,decide_eq_true_eq]at h
   obtain⟨hpos,hcov⟩:=h
   rcases DataW.trod_slice hu hx with⟨rfl,rfl⟩|⟨a,len,cap,elems,rest,n,hfu,rfl,rfl,hb,hl,hm,hlen,hel,hsp,hns⟩
   ·refine ⟨[.imm (P.cellsOf e) []],?_,⟨fun v hv=>?_,fun β n=>?_⟩,by simp[PV.bulkL,PV.bulk,PV.bulkR,Rows.uptoBulk]⟩
    ·unfold Arg;rw[hu];exact⟨[],rfl,by simp,by simp,by simp⟩
    ·simp at hv;subst hv;rfl
    ·simp only[RepL,Rep]
     exact⟨⟨none,0,rfl,Nat.le_refl _,Nat.zero_le _,.inl (by trivial)⟩,trivial⟩
   ·obtain rfl:c=n:=by omega
    have each: ∀ i,i<len→ ∃ r:List PV,(r.length=P.cellsOf e∧Arg P c e r∧ ∃ d,(elems.map (·.1))[i]? =some d∧PV.bulkL r≤Rows.uptoBulk d)∧ ∃ ci,RA w r ci∧ci.length=P.cellsOf e∧ ∀ j,j<P.cellsOf e→w.cell? ((a.add (i*P.cellsOf e)).add j)=ci[j]?:=by
     intro i hi
     have h1:=hel i hi
     have h2:elems[i]? =some (elems[i]'(by omega)):=List.getElem?_eq_getElem _
     rw[h2,Option.bind_eq_some_iff]at h1
     obtain⟨ci,h3,h4⟩:=h1
     obtain⟨_,h5,h6⟩:=World.cells?_some h3
     obtain⟨r,h7,h8,h80⟩:=arg_rec5 hT c e hcov ci _ h4 (fun m hm=>hw m (by
      simp only[DataW.weights,hu,List.mem_cons,List.mem_append]
      exact .inr (.inl (weightsAll_mem (i:=i) (by rw[List.getElem?_map,h2];try rfl) hm))))
     exact⟨r,⟨by rw[h8.len,h5],h7,_,by rw[List.getElem?_map,h2];try rfl,h80⟩,ci,h8,h5,h6⟩
    obtain⟨rows,hrl,hrows⟩:=exists_list len each
    refine⟨[.imm (P.cellsOf e) rows],?_,⟨fun v hv=>?_,fun β m=>?_⟩,?_⟩
    ·unfold Arg;rw[hu]
     refine⟨rows,rfl,?_,by omega,fun r hr=>?_⟩
     ·have:=hw ((elems.map (·.1)).length*P.bytesOf e+(rest.map (·.1)).length*P.bytesOf e) (by
       simp only[DataW.weights,hu,List.mem_cons,Nat.add_mul,true_or])
      have h9:rows.length=(elems.map (·.1)).length:=by simp[hrl,hlen]
      rw[h9]
      exact Nat.le_trans (Nat.le_add_right _ _) this
     ·obtain ⟨i,hi⟩:=List.getElem?_of_mem hr
      exact⟨(hrows i r hi).1.1,(hrows i r hi).1.2.1⟩
    ·simp at hv;subst hv;rfl
    ·simp only[RepL,Rep]
     refine⟨⟨some a,cap,by rw[hrl],by omega,hm,?_⟩,trivial⟩
     by_cases h0:len=0
     ·left;exact List.length_eq_zero_iff.1 (by omega)
     ·right
      obtain⟨_,_,c0,_,hc0,hcell0⟩:=each 0 (by omega)
      have h10:=hcell0 0 hpos
      rw[List.getElem?_eq_getElem (by omega)]at h10
      simp only[Nat.zero_mul,Addr.add,if_true]at h10
      have hs:a.spot=none:=by
       unfold World.cell? at h10
       split at h10
       ·split at h10
        ·simp at h10
        ·rename_i hsp;simpa using hsp
       ·simp at h10
      have hblk:a.block<w.heap.size:=by
       unfold World.cell? at h10
       split at h10
       ·rename_i hh;exact(Array.getElem?_eq_some_iff.1 hh).1
       ·simp at h10
      refine⟨a.block,a.off,hblk,by cases a;simp only at hs;subst hs;rfl,?_⟩
      rw[RepR_iff]
      intro i r hr
      obtain⟨⟨g1,_⟩,ci,g2,g3,g4⟩:=hrows i r hr
      refine⟨g1,?_⟩
      rw[RepS_iff]
      intro j p hp
      obtain⟨v,hv,hrep⟩:=(g2.2 β m).get hp
      have hj:j<P.cellsOf e:=by rw[← g3];exact(List.getElem?_eq_some_iff.1 hv).1
      refine⟨v,?_,g2.1 v (List.mem_of_getElem? hv),hrep⟩
      rw[← hv, ← g4 j hj]
      congr 1
      cases a
      simp only at hs;subst hs
      simp only[Addr.add]
      split<;>split<;>simp_all<;>omega
    ·have hb5:=bulkR_le rows (elems.map (·.1)) (by simp[hrl,hlen]) fun i r hr=>(hrows i r hr).1.2.2
     simp only[PV.bulkL,PV.bulk,Rows.uptoBulk]
     omega
  ·rename_i fs hu
   simp only[Bool.and_eq_true,List.all_eq_true]at h
   obtain⟨xs,n,hfu,rfl,hcl,hxl,hp⟩:=DataW.trod_struct hu hx
   obtain rfl:c=n:=by omega
   have hpt:partsT P t=fs.toList.map fun f=>(f.offset,f.type):=by unfold partsT;rw[hu]
   obtain⟨ps,h1,h2,h30⟩:=parts_rep5 (w:=w) (c:=c) (cs:=cs) (partsT P t) (xs.map (·.1)) 0 (by rw[hcl];exact h.1) (fun i p hi=>by
    have hcv:=h.2 p (List.mem_of_getElem? hi)
    rw[hpt]at hi
    rw[List.getElem?_map,Option.map_eq_some_iff]at hi
    obtain⟨f,hf,rfl⟩:=hi
    have hf':fs[i]? =some f:=by simpa using hf
    have hi':i<xs.length:=by
     rw[hxl]
     exact(Array.getElem?_eq_some_iff.1 hf').1
    have h3:=hp i f hf'
    rw[List.getElem?_eq_getElem hi']at h3
    exact⟨xs[i].1,by rw[List.getElem?_map,List.getElem?_eq_getElem hi'];try rfl,arg_rec5 hT c f.type hcv _ _ h3 (fun m hm=>hw m (by
     simp only[DataW.weights,hu]
     exact DataW.weights_mem_each (j:=i) (t:=f.type) (d:=xs[i].1) (by rw[List.getElem?_map,hf];try rfl) (by rw[List.getElem?_map,List.getElem?_eq_getElem hi'];try rfl) m hm))⟩)
   refine⟨ps,?_,by simpa using h1,by simp only[Rows.uptoBulk];omega⟩
   unfold Arg;rw[hu]
   exact⟨by rw[h1.len,List.drop_zero,hcl],fun p hpm=>by simpa using h2 p hpm⟩
  ·rename_i k e hu
   simp only[Bool.and_eq_true,List.all_eq_true]at h
   obtain⟨xs,n,hfu,rfl,hcl,hxl,hp⟩:=DataW.trod_array hu hx
   obtain rfl:c=n:=by omega
   have hpt:partsT P t=(List.range k).map fun i=>(i*P.cellsOf e,e):=by unfold partsT;rw[hu]
   obtain⟨ps,h1,h2,h30⟩:=parts_rep5 (w:=w) (c:=c) (cs:=cs) (partsT P t) (xs.map (·.1)) 0 (by rw[hcl];exact h.1) (fun i p hi=>by
    have hcv:=h.2 p (List.mem_of_getElem? hi)
    rw[hpt,List.getElem?_map,Option.map_eq_some_iff]at hi
    obtain⟨j,hj,rfl⟩:=hi
    obtain⟨hjk,rfl⟩:=List.getElem?_range_some hj
    have hi':i<xs.length:=by rw[hxl];exact hjk
    have h3:=hp i hjk
    rw[List.getElem?_eq_getElem hi']at h3
    exact⟨xs[i].1,by rw[List.getElem?_map,List.getElem?_eq_getElem hi'];try rfl,arg_rec5 hT c e hcv _ _ h3 (fun m hm=>hw m (by
     simp only[DataW.weights,hu]
     exact weightsAll_mem (i:=i) (d:=xs[i].1) (by rw[List.getElem?_map,List.getElem?_eq_getElem hi'];try rfl) hm))⟩)
   refine⟨ps,?_,by simpa using h1,by simp only[Rows.uptoBulk];omega⟩
   unfold Arg;rw[hu]
   exact⟨by rw[h1.len,List.drop_zero,hcl],fun p hpm=>by simpa using h2 p hpm⟩
  ·simp at h
theorem arg_value5{Ts:List TypeId}(hT:covC P Ts=true){t:TypeId}(ht:Ts.contains t=true){fs:Array Field}(hu:P.underlying t=some (.struct fs)){v:Value}{d:DataW H}{pl:List MemPlace}
  (h:DataW.Trod enc P w 0 sp held t v d pl)(hv: ∃ base,Value.okWide P w .any base t v)(hw: ∀ n∈d.weights P t,n≤reachBytes):
  ∃ c ps,Arg P c t ps∧(∀ β n,Rep β n (fun b=>b<w.heap.size) w (.agg ps) v)∧PV.bulkL ps≤Rows.uptoBulk d:=by
 obtain⟨fuel,hf⟩:=h
 obtain⟨ps,h1,h2,h3⟩:=arg_rec5 hT fuel t ht _ _ hf hw
 obtain⟨base,hv⟩:=hv
 unfold Value.okWide at hv
 simp only[hu]at hv
 obtain⟨cs,rfl,_⟩:=hv
 refine⟨fuel,ps,h1,fun β n=>?_,h3⟩
 simp only[Rep]
 exact⟨cs.toList,by simp,h2.1,h2.2 β n⟩
end
end Go.AM
namespace Go.AM
theorem bulkR_strs: ∀ l:List ByteArray,l.length≤PV.bulkR (strRows l)
 |[]=>by simp
 |s::l=>by
  have:=bulkR_strs l
  simp only[strRows,List.map_cons,PV.bulkR,PV.bulkL,PV.bulk,List.length_cons]at this⊢
  omega
mutual
theorem Ex.small_bulk: ∀ (e:Ex),PV.bulkL e.cells≤1048576→e.small
 | .mk op name n args kids,h=>by
  simp only[Ex.cells,PV.bulkL,PV.bulk]at h
  simp only[Ex.small]
  have:=bulkR_strs args
  exact⟨by omega,Ex.smalls_bulk kids (by omega)⟩
theorem Ex.smalls_bulk: ∀ (l:List Ex),PV.bulkR (Ex.rows l)≤1048576→Ex.smalls l
 |[],_=>by simp[Ex.smalls]
 |k::ks,h=>by
  simp only[Ex.rows,PV.bulkR]at h
  simp only[Ex.smalls]
  exact⟨Ex.small_bulk k (by omega),Ex.smalls_bulk ks (by omega)⟩
end
end Go.AM
namespace Go.Proofs.Ytdekkbdlcblhcaa
open Go.AM
end Go.Proofs.Ytdekkbdlcblhcaa
namespace Go.AM
theorem bulkR_pms: ∀ l:List Pm,2*l.length≤PV.bulkR (pmRows l)
 |[]=>by simp
 |s::l=>by
  have:=bulkR_pms l
  simp only[pmRows,pmRow,List.map_cons,PV.bulkR,PV.bulkL,PV.bulk,List.length_cons]at this⊢
  omega
theorem bulkR_fms: ∀ l:List Fm,l.length≤PV.bulkR (Fm.rows l)
 |[]=>by simp
 |s::l=>by
  have:=bulkR_fms l
  cases s
  simp only[Fm.rows,Fm.cells,PV.bulkR,PV.bulkL,PV.bulk,List.length_cons]at this⊢
  omega
mutual
theorem Fm.small_bulk: ∀ (f:Fm),PV.bulkL f.cells≤1048576→f.small
 | .mk op name args params exprs kids,h=>by
  simp only[Fm.cells,PV.bulkL,PV.bulk]at h
  simp only[Fm.small]
  have:=bulkR_strs args
  have:=bulkR_pms params
  have:=bulkR_fms kids
  exact⟨by omega,by omega,Ex.smalls_bulk exprs (by omega),by omega,Fm.smalls_bulk kids (by omega)⟩
theorem Fm.smalls_bulk: ∀ (l:List Fm),PV.bulkR (Fm.rows l)≤1048576→Fm.smalls l
 |[],_=>by simp[Fm.smalls]
 |k::ks,h=>by
  simp only[Fm.rows,PV.bulkR]at h
  simp only[Fm.smalls]
  exact⟨Fm.small_bulk k (by omega),Fm.smalls_bulk ks (by omega)⟩
end
end Go.AM
namespace Go.Proofs.Ytdekkbdlcblhcaa
open Go.AM
end Go.Proofs.Ytdekkbdlcblhcaa
namespace Go.Proofs.Ytdekkbdlcblhcaa
open Go.AM
set_option maxHeartbeats 8000000
set_option maxRecDepth 20000
structure PbSm(p:Pb):Prop where
 g:p.goal.small
 o:p.objects.length≤1048576
 i:p.init.length≤1048576
 v:p.values.length≤1048576
 ia: ∀ a∈p.init,a.args.length≤1048576
 va: ∀ v∈p.values,v.at_.args.length≤1048576
end Go.Proofs.Ytdekkbdlcblhcaa
namespace Go.Proofs.Ytdekkbdlcblhcaa
open Go.AM
set_option maxHeartbeats 4000000
set_option maxRecDepth 20000
theorem bulkR_ats: ∀ l:List At,l.length≤PV.bulkR (atRows l)∧ ∀ a∈l,a.args.length≤PV.bulkR (atRows l)
 |[]=>by simp
 |a::l=>by
  have ih:=bulkR_ats l
  have hs:=bulkR_strs a.args
  have e:PV.bulkR (atRows (a::l))=PV.bulkL (atRow a)+PV.bulkR (atRows l):=rfl
  have e2:PV.bulkR (strRows a.args)+1≤PV.bulkL (atRow a):=by simp only[atRow,PV.bulkL,PV.bulk];omega
  rw[e]
  refine⟨by simp only[List.length_cons];omega,?_⟩
  intro b hb
  rcases List.mem_cons.1 hb with rfl|hb
  ·omega
  ·have:=ih.2 b hb;omega
theorem bulkR_vls: ∀ l:List Vl,l.length≤PV.bulkR (vlRows l)∧ ∀ a∈l,a.at_.args.length≤PV.bulkR (vlRows l)
 |[]=>by simp
 |a::l=>by
  have ih:=bulkR_vls l
  have hs:=bulkR_strs a.at_.args
  have e:PV.bulkR (vlRows (a::l))=PV.bulkL (vlRow a)+PV.bulkR (vlRows l):=rfl
  have e2:PV.bulkR (strRows a.at_.args)+1≤PV.bulkL (vlRow a):=by simp only[vlRow,PV.bulkL,PV.bulk];omega
  rw[e]
  refine⟨by simp only[List.length_cons];omega,?_⟩
  intro b hb
  rcases List.mem_cons.1 hb with rfl|hb
  ·omega
  ·have:=ih.2 b hb;omega
theorem pb_small{p:Pb}(hb:PV.bulkL p.cells≤1048576):PbSm p:=by
 obtain⟨name,domain,objects,init,values,goal⟩:=p
 have h1:=bulkR_pms objects
 have h2:=bulkR_ats init
 have h3:=bulkR_vls values
 have hg:PV.bulkL goal.cells+PV.bulkR (pmRows objects)+PV.bulkR (atRows init)+PV.bulkR (vlRows values)≤PV.bulkL (Pb.cells ⟨name,domain,objects,init,values,goal⟩):=by
  obtain⟨op,gn,ga,gp,ge,gk⟩:=goal
  simp only[Pb.cells,Fm.cells,List.cons_append,List.nil_append,PV.bulkL,PV.bulk]
  omega
 exact⟨Fm.small_bulk goal (by omega),by simp only;omega,by simp only;omega,by simp only;omega,fun a ha=>by have:=h2.2 a ha;omega,fun a ha=>by have:=h3.2 a ha;omega⟩
end Go.Proofs.Ytdekkbdlcblhcaa
