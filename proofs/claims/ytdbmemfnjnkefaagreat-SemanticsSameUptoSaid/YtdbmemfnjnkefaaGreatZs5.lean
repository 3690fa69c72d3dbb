/- What the claim rests on, part 5: the abstract machine, contracts of the functions, plain data. -/
import Derived.Test.YtdbmemfnjnkefaaGreatZs4
set_option linter.unusedVariables false
set_option linter.unusedSimpArgs false
set_option linter.unusedSectionVars false
namespace Go.AM
theorem owp_useFn'{P:Program}{ow:Nat→Bool}{n:Nat}{s:Slots}{h:Heap}{f:FuncId}{first caps:List PV}{fo:Operand}{dst:Option Tmp}{args:List Operand}{ts:Array TypeId}{ty:TypeId}{pos:String}{af:Array Edge}{gd:Option (Nat × Bool)}{av:List PV}{v:PV}{K:Slots→Heap→Prop}{ops rest:List Oper}
  (hf:pev s fo= .fn f first caps)(hc:PCall P f av h fun r h'=>r=v∧h'=h)(ha:first++(args.map (pev s)++caps)=av)(hk:lwn P ow n ops rest K (updO s dst v) h):
  owp P ow {dst:=dst,op:= .call {callee:= .value fo,args:=args.toArray,argTypes:=ts},type:=ty,pos:=pos,after:=af,guard:=gd} (lwp P ow n ops rest K) s h:=by
 unfold owp
 simp only[callee,hf]
 rw[ha]
 exact hc.mono fun r h' hr=>by rw[hr.1,hr.2];exact lwn_lwp _ _ _ hk
def idxH{α:Type}(q:α→Bool)(l:List α):Int:=match l.findIdx? q with
 |some i=>i
 |none=> -1
theorem idxH_any{α:Type}(q:α→Bool)(l:List α):decide (idxH q l≥0)=l.any q:=by
 unfold idxH
 cases h:l.findIdx? q with
 |none=>
  rw[List.findIdx?_eq_none_iff]at h
  have:l.any q=false:=by
   rw[List.any_eq_false]
   intro s hs
   simpa using h s hs
  rw[this];try rfl
 |some i=>
  rw[List.findIdx?_eq_some_iff_getElem]at h
  obtain⟨hi,h1,_⟩:=h
  have:l.any q=true:=by
   rw[List.any_eq_true]
   exact⟨l[i],List.getElem_mem hi,by simpa using h1⟩
  rw[this];simp
structure Wo where
 atoms:List At
 values:List Vl
def Wo.cells(w:Wo):List PV:=[.imm 2 (atRows w.atoms),.imm 3 (vlRows w.values)]
structure Wo.ok(w:Wo):Prop where
 atoms:w.atoms.length≤bigN∧ ∀ a∈w.atoms,a.ok
 values:w.values.length≤bigN∧ ∀ v∈w.values,v.okS
def wA(l m:List At):Bool:=!(l.any fun x=>!(m.any fun y=>x.same y))
def wV(l m:List Vl):Bool:=!(l.any fun x=>!(m.any fun y=>x.same y))
def Wo.same(a b:Wo):Bool:=wA a.atoms b.atoms&&wA b.atoms a.atoms&&wV a.values b.values&&wV b.values a.values
def hasR(l:List At)(a:At):Bool:=l.any fun y=>y.same a
def allR(l m:List At):Bool:=l.all fun a=>hasR m a
def withR(l m:List Vl):Bool:=l.all fun a=>m.any fun y=>a.same y
def Wo.rsame(a b:Wo):Bool:=allR a.atoms b.atoms&&allR b.atoms a.atoms&&(withR a.values b.values&&withR b.values a.values)
theorem bsEq_comm: ∀ l m:List ByteArray,bsEq l m=bsEq m l
 |[],[]=>rfl
 |[],_::_=>rfl
 |_::_,[]=>rfl
 |a::l,b::m=>by
  simp only[bsEq,bsEq_comm l m,bEq]
  congr 1
  exact BEq.comm
theorem At.same_comm(a b:At):a.same b=b.same a:=by
 simp only[At.same,bsEq_comm a.args b.args,bEq]
 congr 1
 exact BEq.comm
theorem not_any_not{α:Type}(l:List α)(q:α→Bool):(!(l.any fun x=>!q x))=l.all q:=by
 induction l with
 |nil=>rfl
 |cons a l ih=>simp only[List.any_cons,List.all_cons,Bool.not_or,Bool.not_not,ih]
theorem wA_all(l m:List At):wA l m=l.all fun x=>m.any fun y=>x.same y:=not_any_not l _
theorem wV_all(l m:List Vl):wV l m=l.all fun x=>m.any fun y=>x.same y:=not_any_not l _
theorem allR_eq(l m:List At):allR l m=wA l m:=by
 rw[wA_all]
 unfold allR hasR
 congr 1
 funext x
 congr 1
 funext y
 exact At.same_comm y x
theorem withR_eq(l m:List Vl):withR l m=wV l m:=by rw[wV_all];try rfl
theorem rsame_eq(a b:Wo):a.rsame b=a.same b:=by
 simp only[Wo.rsame,Wo.same,allR_eq,withR_eq,Bool.and_assoc]
theorem Wo.same_comm(a b:Wo):a.same b=b.same a:=by
 simp only[Wo.same]
 cases wA a.atoms b.atoms<;>cases wA b.atoms a.atoms<;>cases wV a.values b.values<;>cases wV b.values a.values<;>rfl
theorem bsEq_refl': ∀ l:List ByteArray,bsEq l l=true
 |[]=>rfl
 |a::l=>by simp[bsEq,bsEq_refl' l,bEq]
theorem At.same_refl'(a:At):a.same a=true:=by simp[At.same,bsEq_refl',bEq]
theorem Vl.same_refl'(a:Vl):a.same a=true:=by simp[Vl.same,At.same_refl']
theorem wA_of{l m:List At}(h: ∀ x∈l,x∈m):wA l m=true:=by
 rw[wA_all,List.all_eq_true]
 intro x hx
 rw[List.any_eq_true]
 exact⟨x,h x hx,At.same_refl' x⟩
theorem wV_of{l m:List Vl}(h: ∀ x∈l,x∈m):wV l m=true:=by
 rw[wV_all,List.all_eq_true]
 intro x hx
 rw[List.any_eq_true]
 exact⟨x,h x hx,Vl.same_refl' x⟩
def Wo.twice(a:Wo):Wo:=⟨a.atoms++a.atoms,a.values++a.values⟩
theorem same_twice(a:Wo):a.same a.twice=true:=by
 simp only[Wo.same,Wo.twice,wA_of (l:=a.atoms) (m:=a.atoms++a.atoms) (by simp),wA_of (l:=a.atoms++a.atoms) (m:=a.atoms) (by simp),wV_of (l:=a.values) (m:=a.values++a.values) (by simp),wV_of (l:=a.values++a.values) (m:=a.values) (by simp),Bool.and_self]
theorem twice_same(a b:Wo):a.twice.same b=a.same b:=by
 simp only[Wo.same,Wo.twice,wA_all,wV_all,List.all_append,List.any_append,Bool.or_self,Bool.and_self]
end Go.AM
namespace Go.Proofs.YtdbmemfnjnkefaaGreat
open Go.AM
set_option maxHeartbeats 4000000
set_option maxRecDepth 20000
theorem anyAti_c{h:Heap}{g:FuncId}{cp:PV}{l:List At}{q:At→Bool}(hl:l.length≤bigN)(hf: ∀ s∈l,PCall Tryz.prog g [.agg (atRow s),cp] h fun r h'=>r= .sc (.bool (q s))∧h'=h):
  PCall Tryz.prog 56 [.imm 2 (atRows l),.fn g [] [cp]] h fun r h'=>r= .sc (.int .i64 (idxH q l))∧h'=h:=by
 unfold bigN at hl
 have hlen:=atRows_len l
 refine pcall_body (ow:=fun _=>false) (wf:=fun _=>false) Ty.mixed Tryz.func56 rfl Ty.hb_56 (by rw[Tryz.ntmps56];simp) ?_
 rw[Tryz.ntmps56,Tryz.results56]
 repeat'(first
  |refine a_seq fun K hK=>?_
  |(refine a_block ?_)
  |((first|refine a_regionS ?_|refine a_region (fun K hK=>?_)|refine a_ret ?_);simp(maxSteps:=2000000) only[undef,am0,am1,am2,am3,amb0,amb1,amb2,amb3,amb4,lwn,drn,callee,wantedB,isW,eff,pev,pst0,retPost,resAll,resP,resV,intP,mkV,putC,pbin,sbin,strsEq,peq,pint,pshift,pstr,pun,pconv,isShift,isConstB,app,subS,lay,rowsOf,lkV,keyKind,keyEq,mfind,mput,oInt,isZeroInt,forall_const,exists_eq_left',implies_true,IntKind.bits, ↓reduceIte,Nat.reduceEqDiff,Nat.reduceAdd,Nat.reduceSub,Nat.reduceMul,Nat.reduceLT,Nat.reduceLeDiff,Nat.reduceBEq,Int.reduceLE,Int.reduceLT,Int.reduceToNat,reduceCtorEq,Ty.all,hlen])
  |(refine a_skip ?_;try simp only[pst0, ↓reduceIte,Nat.reduceEqDiff])
  |(refine a_exit ?_;try simp only[pst0, ↓reduceIte,Nat.reduceEqDiff])
  |(refine a_cond _ (by(try simp(maxSteps:=2000000) only[undef,am0,am1,am2,am3,amb0,amb1,amb2,amb3,amb4,lwn,drn,callee,wantedB,isW,eff,pev,pst0,retPost,resAll,resP,resV,intP,mkV,putC,pbin,sbin,strsEq,peq,pint,pshift,pstr,pun,pconv,isShift,isConstB,app,subS,lay,rowsOf,lkV,keyKind,keyEq,mfind,mput,oInt,isZeroInt,forall_const,exists_eq_left',implies_true,IntKind.bits, ↓reduceIte,Nat.reduceEqDiff,Nat.reduceAdd,Nat.reduceSub,Nat.reduceMul,Nat.reduceLT,Nat.reduceLeDiff,Nat.reduceBEq,Int.reduceLE,Int.reduceLT,Int.reduceToNat,reduceCtorEq,Ty.all,hlen]);rfl) (fun hb=>?_) (fun hb=>?_)<;>(try simp only[hb0,decide_eq_true_eq,decide_eq_false_iff_not,reduceCtorEq]at hb)<;>(try(exfalso;omega)))
  |(with_reducible refine ite_in (fun hb=>?_) (fun hb=>?_)<;>(try simp only[Decidable.not_not]at hb)<;>(try simp only[hb,if_true,if_false,not_false_eq_true,not_true_eq_false, ↓reduceIte])<;>(try simp only[hb0,decide_eq_true_eq,decide_eq_false_iff_not,reduceCtorEq]at hb)<;>(try(exfalso;omega)))
  |(refine hK _ _ ?_;clear hK;try simp only[pst0, ↓reduceIte,Nat.reduceEqDiff])
  |(clear hK;refine hK _ _ ?_;clear hK;try simp only[pst0, ↓reduceIte,Nat.reduceEqDiff])
  |(clear hK;clear hK;refine hK _ _ ?_;clear hK;try simp only[pst0, ↓reduceIte,Nat.reduceEqDiff])
  |(clear hK;clear hK;clear hK;refine hK _ _ ?_;clear hK;try simp only[pst0, ↓reduceIte,Nat.reduceEqDiff])
  |(rw[if_pos];rotate_left 1;omega;simp(maxSteps:=2000000) only[undef,am0,am1,am2,am3,amb0,amb1,amb2,amb3,amb4,lwn,drn,callee,wantedB,isW,eff,pev,pst0,retPost,resAll,resP,resV,intP,mkV,putC,pbin,sbin,strsEq,peq,pint,pshift,pstr,pun,pconv,isShift,isConstB,app,subS,lay,rowsOf,lkV,keyKind,keyEq,mfind,mput,oInt,isZeroInt,forall_const,exists_eq_left',implies_true,IntKind.bits, ↓reduceIte,Nat.reduceEqDiff,Nat.reduceAdd,Nat.reduceSub,Nat.reduceMul,Nat.reduceLT,Nat.reduceLeDiff,Nat.reduceBEq,Int.reduceLE,Int.reduceLT,Int.reduceToNat,reduceCtorEq,Ty.all,hlen]))
 refine a_loop (fun m S h'=>h'=h∧S 0= .imm 2 (atRows l)∧S 1= .fn g [] [cp]∧S 7= .sc (.int .i64 l.length)∧ ∃ k:Nat,S 8= .sc (.int .i64 k)∧k≤l.length∧m=l.length-k∧ ∀ (i:Nat)(w:At),i<k→l[i]? =some w→q w=false) l.length ?_ ?_
 ·simp only[undef,am0,am1,am2,am3,amb0,amb1,amb2,amb3,amb4,lwn,drn,callee,wantedB,isW,eff,pev,pst0,retPost,resAll,resP,resV,intP,mkV,putC,pbin,sbin,strsEq,peq,pint,pshift,pstr,pun,pconv,isShift,isConstB,app,subS,lay,rowsOf,lkV,keyKind,keyEq,mfind,mput,oInt,isZeroInt,forall_const,exists_eq_left',implies_true,IntKind.bits, ↓reduceIte,Nat.reduceEqDiff,Nat.reduceAdd,Nat.reduceSub,Nat.reduceMul,Nat.reduceLT,Nat.reduceLeDiff,Nat.reduceBEq,Int.reduceLE,Int.reduceLT,Int.reduceToNat,reduceCtorEq]
  exact⟨0,rfl,by omega,rfl,by omega⟩
 ·rintro m S h' ⟨rfl,g0,g1,g7,k,g8,hk,rfl,hall⟩
  by_cases hlt:k<l.length
  ·have hd:decide ((k:Int)<(l.length:Int))=true:=by simp;omega
   have w7:IntKind.i64.wrap ((k:Int)+1)=k+1:=by rw[wrap64 (by omega) (by omega)]
   obtain⟨w,hx⟩: ∃ w,l[k]? =some w:=⟨l[k],List.getElem?_eq_getElem hlt⟩
   have hr:=atRows_get hx
   have hc:=hf w (List.mem_of_getElem? hx)
   simp only[atRow]at hc
   cases he:q w with
   |true=>
    rw[he]at hc
    repeat'(first
     |refine a_seq fun K hK=>?_
     |(refine a_block ?_)
     |((first|refine a_regionS ?_|refine a_region (fun K hK=>?_)|refine a_ret ?_);simp(maxSteps:=2000000) only[undef,am0,am1,am2,am3,amb0,amb1,amb2,amb3,amb4,lwn,drn,callee,wantedB,isW,eff,pev,pst0,retPost,resAll,resP,resV,intP,mkV,putC,pbin,sbin,strsEq,peq,pint,pshift,pstr,pun,pconv,isShift,isConstB,app,subS,lay,rowsOf,lkV,keyKind,keyEq,mfind,mput,oInt,isZeroInt,forall_const,exists_eq_left',implies_true,IntKind.bits, ↓reduceIte,Nat.reduceEqDiff,Nat.reduceAdd,Nat.reduceSub,Nat.reduceMul,Nat.reduceLT,Nat.reduceLeDiff,Nat.reduceBEq,Int.reduceLE,Int.reduceLT,Int.reduceToNat,reduceCtorEq,Ty.all,g0,g1,g7,g8,hd,hr])
     |(refine a_skip ?_;try simp only[pst0, ↓reduceIte,Nat.reduceEqDiff])
     |(refine a_exit ?_;try simp only[pst0, ↓reduceIte,Nat.reduceEqDiff])
     |(refine a_cond _ (by(try simp(maxSteps:=2000000) only[undef,am0,am1,am2,am3,amb0,amb1,amb2,amb3,amb4,lwn,drn,callee,wantedB,isW,eff,pev,pst0,retPost,resAll,resP,resV,intP,mkV,putC,pbin,sbin,strsEq,peq,pint,pshift,pstr,pun,pconv,isShift,isConstB,app,subS,lay,rowsOf,lkV,keyKind,keyEq,mfind,mput,oInt,isZeroInt,forall_const,exists_eq_left',implies_true,IntKind.bits, ↓reduceIte,Nat.reduceEqDiff,Nat.reduceAdd,Nat.reduceSub,Nat.reduceMul,Nat.reduceLT,Nat.reduceLeDiff,Nat.reduceBEq,Int.reduceLE,Int.reduceLT,Int.reduceToNat,reduceCtorEq,Ty.all,g0,g1,g7,g8,hd,hr]);rfl) (fun hb=>?_) (fun hb=>?_)<;>(try simp only[hb0,decide_eq_true_eq,decide_eq_false_iff_not,reduceCtorEq]at hb)<;>(try(exfalso;omega)))
     |(with_reducible refine ite_in (fun hb=>?_) (fun hb=>?_)<;>(try simp only[Decidable.not_not]at hb)<;>(try simp only[hb,if_true,if_false,not_false_eq_true,not_true_eq_false, ↓reduceIte])<;>(try simp only[hb0,decide_eq_true_eq,decide_eq_false_iff_not,reduceCtorEq]at hb)<;>(try(exfalso;omega)))
     |(refine hK _ _ ?_;clear hK;try simp only[pst0, ↓reduceIte,Nat.reduceEqDiff])
     |(clear hK;refine hK _ _ ?_;clear hK;try simp only[pst0, ↓reduceIte,Nat.reduceEqDiff])
     |(clear hK;clear hK;refine hK _ _ ?_;clear hK;try simp only[pst0, ↓reduceIte,Nat.reduceEqDiff])
     |(clear hK;clear hK;clear hK;refine hK _ _ ?_;clear hK;try simp only[pst0, ↓reduceIte,Nat.reduceEqDiff])
     |(rw[if_pos];rotate_left 1;omega;simp(maxSteps:=2000000) only[undef,am0,am1,am2,am3,amb0,amb1,amb2,amb3,amb4,lwn,drn,callee,wantedB,isW,eff,pev,pst0,retPost,resAll,resP,resV,intP,mkV,putC,pbin,sbin,strsEq,peq,pint,pshift,pstr,pun,pconv,isShift,isConstB,app,subS,lay,rowsOf,lkV,keyKind,keyEq,mfind,mput,oInt,isZeroInt,forall_const,exists_eq_left',implies_true,IntKind.bits, ↓reduceIte,Nat.reduceEqDiff,Nat.reduceAdd,Nat.reduceSub,Nat.reduceMul,Nat.reduceLT,Nat.reduceLeDiff,Nat.reduceBEq,Int.reduceLE,Int.reduceLT,Int.reduceToNat,reduceCtorEq,Ty.all,g0,g1,g7,g8,hd,hr]))
    refine owp_useFn' (by simp only[undef,am0,am1,am2,am3,amb0,amb1,amb2,amb3,amb4,lwn,drn,callee,wantedB,isW,eff,pev,pst0,retPost,resAll,resP,resV,intP,mkV,putC,pbin,sbin,strsEq,peq,pint,pshift,pstr,pun,pconv,isShift,isConstB,app,subS,lay,rowsOf,lkV,keyKind,keyEq,mfind,mput,oInt,isZeroInt,forall_const,exists_eq_left',implies_true,IntKind.bits, ↓reduceIte,Nat.reduceEqDiff,Nat.reduceAdd,Nat.reduceSub,Nat.reduceMul,Nat.reduceLT,Nat.reduceLeDiff,Nat.reduceBEq,Int.reduceLE,Int.reduceLT,Int.reduceToNat,reduceCtorEq,g1];rfl) hc (by simp only[undef,am0,am1,am2,am3,amb0,amb1,amb2,amb3,amb4,lwn,drn,callee,wantedB,isW,eff,pev,pst0,retPost,resAll,resP,resV,intP,mkV,putC,pbin,sbin,strsEq,peq,pint,pshift,pstr,pun,pconv,isShift,isConstB,app,subS,lay,rowsOf,lkV,keyKind,keyEq,mfind,mput,oInt,isZeroInt,forall_const,exists_eq_left',implies_true,IntKind.bits, ↓reduceIte,Nat.reduceEqDiff,Nat.reduceAdd,Nat.reduceSub,Nat.reduceMul,Nat.reduceLT,Nat.reduceLeDiff,Nat.reduceBEq,Int.reduceLE,Int.reduceLT,Int.reduceToNat,reduceCtorEq,g0,g1,g7,g8];try rfl) ?_
    simp(maxSteps:=2000000) only[undef,am0,am1,am2,am3,amb0,amb1,amb2,amb3,amb4,lwn,drn,callee,wantedB,isW,eff,pev,pst0,retPost,resAll,resP,resV,intP,mkV,putC,pbin,sbin,strsEq,peq,pint,pshift,pstr,pun,pconv,isShift,isConstB,app,subS,lay,rowsOf,lkV,keyKind,keyEq,mfind,mput,oInt,isZeroInt,forall_const,exists_eq_left',implies_true,IntKind.bits, ↓reduceIte,Nat.reduceEqDiff,Nat.reduceAdd,Nat.reduceSub,Nat.reduceMul,Nat.reduceLT,Nat.reduceLeDiff,Nat.reduceBEq,Int.reduceLE,Int.reduceLT,Int.reduceToNat,reduceCtorEq,Ty.all]
    repeat'(first
     |refine a_seq fun K hK=>?_
     |(refine a_block ?_)
     |((first|refine a_regionS ?_|refine a_region (fun K hK=>?_)|refine a_ret ?_);simp(maxSteps:=2000000) only[undef,am0,am1,am2,am3,amb0,amb1,amb2,amb3,amb4,lwn,drn,callee,wantedB,isW,eff,pev,pst0,retPost,resAll,resP,resV,intP,mkV,putC,pbin,sbin,strsEq,peq,pint,pshift,pstr,pun,pconv,isShift,isConstB,app,subS,lay,rowsOf,lkV,keyKind,keyEq,mfind,mput,oInt,isZeroInt,forall_const,exists_eq_left',implies_true,IntKind.bits, ↓reduceIte,Nat.reduceEqDiff,Nat.reduceAdd,Nat.reduceSub,Nat.reduceMul,Nat.reduceLT,Nat.reduceLeDiff,Nat.reduceBEq,Int.reduceLE,Int.reduceLT,Int.reduceToNat,reduceCtorEq,Ty.all,g0,g1,g7,g8])
     |(refine a_skip ?_;try simp only[pst0, ↓reduceIte,Nat.reduceEqDiff])
     |(refine a_exit ?_;try simp only[pst0, ↓reduceIte,Nat.reduceEqDiff])
     |(refine a_cond _ (by(try simp(maxSteps:=2000000) only[undef,am0,am1,am2,am3,amb0,amb1,amb2,amb3,amb4,lwn,drn,callee,wantedB,isW,eff,pev,pst0,retPost,resAll,resP,resV,intP,mkV,putC,pbin,sbin,strsEq,peq,pint,pshift,pstr,pun,pconv,isShift,isConstB,app,subS,lay,rowsOf,lkV,keyKind,keyEq,mfind,mput,oInt,isZeroInt,forall_const,exists_eq_left',implies_true,IntKind.bits, ↓reduceIte,Nat.reduceEqDiff,Nat.reduceAdd,Nat.reduceSub,Nat.reduceMul,Nat.reduceLT,Nat.reduceLeDiff,Nat.reduceBEq,Int.reduceLE,Int.reduceLT,Int.reduceToNat,reduceCtorEq,Ty.all,g0,g1,g7,g8]);rfl) (fun hb=>?_) (fun hb=>?_)<;>(try simp only[hb0,decide_eq_true_eq,decide_eq_false_iff_not,reduceCtorEq]at hb)<;>(try(exfalso;omega)))
     |(with_reducible refine ite_in (fun hb=>?_) (fun hb=>?_)<;>(try simp only[Decidable.not_not]at hb)<;>(try simp only[hb,if_true,if_false,not_false_eq_true,not_true_eq_false, ↓reduceIte])<;>(try simp only[hb0,decide_eq_true_eq,decide_eq_false_iff_not,reduceCtorEq]at hb)<;>(try(exfalso;omega)))
     |(refine hK _ _ ?_;clear hK;try simp only[pst0, ↓reduceIte,Nat.reduceEqDiff])
     |(clear hK;refine hK _ _ ?_;clear hK;try simp only[pst0, ↓reduceIte,Nat.reduceEqDiff])
     |(clear hK;clear hK;refine hK _ _ ?_;clear hK;try simp only[pst0, ↓reduceIte,Nat.reduceEqDiff])
     |(clear hK;clear hK;clear hK;refine hK _ _ ?_;clear hK;try simp only[pst0, ↓reduceIte,Nat.reduceEqDiff])
     |(rw[if_pos];rotate_left 1;omega;simp(maxSteps:=2000000) only[undef,am0,am1,am2,am3,amb0,amb1,amb2,amb3,amb4,lwn,drn,callee,wantedB,isW,eff,pev,pst0,retPost,resAll,resP,resV,intP,mkV,putC,pbin,sbin,strsEq,peq,pint,pshift,pstr,pun,pconv,isShift,isConstB,app,subS,lay,rowsOf,lkV,keyKind,keyEq,mfind,mput,oInt,isZeroInt,forall_const,exists_eq_left',implies_true,IntKind.bits, ↓reduceIte,Nat.reduceEqDiff,Nat.reduceAdd,Nat.reduceSub,Nat.reduceMul,Nat.reduceLT,Nat.reduceLeDiff,Nat.reduceBEq,Int.reduceLE,Int.reduceLT,Int.reduceToNat,reduceCtorEq,Ty.all,g0,g1,g7,g8]))
    have:l.findIdx? q=some k:=by
     rw[List.findIdx?_eq_some_iff_getElem]
     refine⟨hlt,?_,fun j hj=>?_⟩
     ·rw [List.getElem?_eq_getElem hlt]at hx
      simp only[Option.some.injEq]at hx
      rw[hx,he]
     ·rw [hall j l[j] hj (List.getElem?_eq_getElem (by omega))];simp
    simp only[idxH,this]
   |false=>
    rw[he]at hc
    repeat'(first
     |refine a_seq fun K hK=>?_
     |(refine a_block ?_)
     |((first|refine a_regionS ?_|refine a_region (fun K hK=>?_)|refine a_ret ?_);simp(maxSteps:=2000000) only[undef,am0,am1,am2,am3,amb0,amb1,amb2,amb3,amb4,lwn,drn,callee,wantedB,isW,eff,pev,pst0,retPost,resAll,resP,resV,intP,mkV,putC,pbin,sbin,strsEq,peq,pint,pshift,pstr,pun,pconv,isShift,isConstB,app,subS,lay,rowsOf,lkV,keyKind,keyEq,mfind,mput,oInt,isZeroInt,forall_const,exists_eq_left',implies_true,IntKind.bits, ↓reduceIte,Nat.reduceEqDiff,Nat.reduceAdd,Nat.reduceSub,Nat.reduceMul,Nat.reduceLT,Nat.reduceLeDiff,Nat.reduceBEq,Int.reduceLE,Int.reduceLT,Int.reduceToNat,reduceCtorEq,Ty.all,g0,g1,g7,g8,hd,hr])
     |(refine a_skip ?_;try simp only[pst0, ↓reduceIte,Nat.reduceEqDiff])
     |(refine a_exit ?_;try simp only[pst0, ↓reduceIte,Nat.reduceEqDiff])
     |(refine a_cond _ (by(try simp(maxSteps:=2000000) only[undef,am0,am1,am2,am3,amb0,amb1,amb2,amb3,amb4,lwn,drn,callee,wantedB,isW,eff,pev,pst0,retPost,resAll,resP,resV,intP,mkV,putC,pbin,sbin,strsEq,peq,pint,pshift,pstr,pun,pconv,isShift,isConstB,app,subS,lay,rowsOf,lkV,keyKind,keyEq,mfind,mput,oInt,isZeroInt,forall_const,exists_eq_left',implies_true,IntKind.bits, ↓reduceIte,Nat.reduceEqDiff,Nat.reduceAdd,Nat.reduceSub,Nat.reduceMul,Nat.reduceLT,Nat.reduceLeDiff,Nat.reduceBEq,Int.reduceLE,Int.reduceLT,Int.reduceToNat,reduceCtorEq,Ty.all,g0,g1,g7,g8,hd,hr]);rfl) (fun hb=>?_) (fun hb=>?_)<;>(try simp only[hb0,decide_eq_true_eq,decide_eq_false_iff_not,reduceCtorEq]at hb)<;>(try(exfalso;omega)))
     |(with_reducible refine ite_in (fun hb=>?_) (fun hb=>?_)<;>(try simp only[Decidable.not_not]at hb)<;>(try simp only[hb,if_true,if_false,not_false_eq_true,not_true_eq_false, ↓reduceIte])<;>(try simp only[hb0,decide_eq_true_eq,decide_eq_false_iff_not,reduceCtorEq]at hb)<;>(try(exfalso;omega)))
     |(refine hK _ _ ?_;clear hK;try simp only[pst0, ↓reduceIte,Nat.reduceEqDiff])
     |(clear hK;refine hK _ _ ?_;clear hK;try simp only[pst0, ↓reduceIte,Nat.reduceEqDiff])
     |(clear hK;clear hK;refine hK _ _ ?_;clear hK;try simp only[pst0, ↓reduceIte,Nat.reduceEqDiff])
     |(clear hK;clear hK;clear hK;refine hK _ _ ?_;clear hK;try simp only[pst0, ↓reduceIte,Nat.reduceEqDiff])
     |(rw[if_pos];rotate_left 1;omega;simp(maxSteps:=2000000) only[undef,am0,am1,am2,am3,amb0,amb1,amb2,amb3,amb4,lwn,drn,callee,wantedB,isW,eff,pev,pst0,retPost,resAll,resP,resV,intP,mkV,putC,pbin,sbin,strsEq,peq,pint,pshift,pstr,pun,pconv,isShift,isConstB,app,subS,lay,rowsOf,lkV,keyKind,keyEq,mfind,mput,oInt,isZeroInt,forall_const,exists_eq_left',implies_true,IntKind.bits, ↓reduceIte,Nat.reduceEqDiff,Nat.reduceAdd,Nat.reduceSub,Nat.reduceMul,Nat.reduceLT,Nat.reduceLeDiff,Nat.reduceBEq,Int.reduceLE,Int.reduceLT,Int.reduceToNat,reduceCtorEq,Ty.all,g0,g1,g7,g8,hd,hr]))
    refine owp_useFn' (by simp only[undef,am0,am1,am2,am3,amb0,amb1,amb2,amb3,amb4,lwn,drn,callee,wantedB,isW,eff,pev,pst0,retPost,resAll,resP,resV,intP,mkV,putC,pbin,sbin,strsEq,peq,pint,pshift,pstr,pun,pconv,isShift,isConstB,app,subS,lay,rowsOf,lkV,keyKind,keyEq,mfind,mput,oInt,isZeroInt,forall_const,exists_eq_left',implies_true,IntKind.bits, ↓reduceIte,Nat.reduceEqDiff,Nat.reduceAdd,Nat.reduceSub,Nat.reduceMul,Nat.reduceLT,Nat.reduceLeDiff,Nat.reduceBEq,Int.reduceLE,Int.reduceLT,Int.reduceToNat,reduceCtorEq,g1];rfl) hc (by simp only[undef,am0,am1,am2,am3,amb0,amb1,amb2,amb3,amb4,lwn,drn,callee,wantedB,isW,eff,pev,pst0,retPost,resAll,resP,resV,intP,mkV,putC,pbin,sbin,strsEq,peq,pint,pshift,pstr,pun,pconv,isShift,isConstB,app,subS,lay,rowsOf,lkV,keyKind,keyEq,mfind,mput,oInt,isZeroInt,forall_const,exists_eq_left',implies_true,IntKind.bits, ↓reduceIte,Nat.reduceEqDiff,Nat.reduceAdd,Nat.reduceSub,Nat.reduceMul,Nat.reduceLT,Nat.reduceLeDiff,Nat.reduceBEq,Int.reduceLE,Int.reduceLT,Int.reduceToNat,reduceCtorEq,g0,g1,g7,g8];try rfl) ?_
    simp(maxSteps:=2000000) only[undef,am0,am1,am2,am3,amb0,amb1,amb2,amb3,amb4,lwn,drn,callee,wantedB,isW,eff,pev,pst0,retPost,resAll,resP,resV,intP,mkV,putC,pbin,sbin,strsEq,peq,pint,pshift,pstr,pun,pconv,isShift,isConstB,app,subS,lay,rowsOf,lkV,keyKind,keyEq,mfind,mput,oInt,isZeroInt,forall_const,exists_eq_left',implies_true,IntKind.bits, ↓reduceIte,Nat.reduceEqDiff,Nat.reduceAdd,Nat.reduceSub,Nat.reduceMul,Nat.reduceLT,Nat.reduceLeDiff,Nat.reduceBEq,Int.reduceLE,Int.reduceLT,Int.reduceToNat,reduceCtorEq,Ty.all]
    repeat'(first
     |refine a_seq fun K hK=>?_
     |(refine a_block ?_)
     |((first|refine a_regionS ?_|refine a_region (fun K hK=>?_)|refine a_ret ?_);simp(maxSteps:=2000000) only[undef,am0,am1,am2,am3,amb0,amb1,amb2,amb3,amb4,lwn,drn,callee,wantedB,isW,eff,pev,pst0,retPost,resAll,resP,resV,intP,mkV,putC,pbin,sbin,strsEq,peq,pint,pshift,pstr,pun,pconv,isShift,isConstB,app,subS,lay,rowsOf,lkV,keyKind,keyEq,mfind,mput,oInt,isZeroInt,forall_const,exists_eq_left',implies_true,IntKind.bits, ↓reduceIte,Nat.reduceEqDiff,Nat.reduceAdd,Nat.reduceSub,Nat.reduceMul,Nat.reduceLT,Nat.reduceLeDiff,Nat.reduceBEq,Int.reduceLE,Int.reduceLT,Int.reduceToNat,reduceCtorEq,Ty.all,g0,g1,g7,g8,w7])
     |(refine a_skip ?_;try simp only[pst0, ↓reduceIte,Nat.reduceEqDiff])
     |(refine a_exit ?_;try simp only[pst0, ↓reduceIte,Nat.reduceEqDiff])
     |(refine a_cond _ (by(try simp(maxSteps:=2000000) only[undef,am0,am1,am2,am3,amb0,amb1,amb2,amb3,amb4,lwn,drn,callee,wantedB,isW,eff,pev,pst0,retPost,resAll,resP,resV,intP,mkV,putC,pbin,sbin,strsEq,peq,pint,pshift,pstr,pun,pconv,isShift,isConstB,app,subS,lay,rowsOf,lkV,keyKind,keyEq,mfind,mput,oInt,isZeroInt,forall_const,exists_eq_left',implies_true,IntKind.bits, ↓reduceIte,Nat.reduceEqDiff,Nat.reduceAdd,Nat.reduceSub,Nat.reduceMul,Nat.reduceLT,Nat.reduceLeDiff,Nat.reduceBEq,Int.reduceLE,Int.reduceLT,Int.reduceToNat,reduceCtorEq,Ty.all,g0,g1,g7,g8,w7]);rfl) (fun hb=>?_) (fun hb=>?_)<;>(try simp only[hb0,decide_eq_true_eq,decide_eq_false_iff_not,reduceCtorEq]at hb)<;>(try(exfalso;omega)))
     |(with_reducible refine ite_in (fun hb=>?_) (fun hb=>?_)<;>(try simp only[Decidable.not_not]at hb)<;>(try simp only[hb,if_true,if_false,not_false_eq_true,not_true_eq_false, ↓reduceIte])<;>(try simp only[hb0,decide_eq_true_eq,decide_eq_false_iff_not,reduceCtorEq]at hb)<;>(try(exfalso;omega)))
     |(refine hK _ _ ?_;clear hK;try simp only[pst0, ↓reduceIte,Nat.reduceEqDiff])
     |(clear hK;refine hK _ _ ?_;clear hK;try simp only[pst0, ↓reduceIte,Nat.reduceEqDiff])
     |(clear hK;clear hK;refine hK _ _ ?_;clear hK;try simp only[pst0, ↓reduceIte,Nat.reduceEqDiff])
     |(clear hK;clear hK;clear hK;refine hK _ _ ?_;clear hK;try simp only[pst0, ↓reduceIte,Nat.reduceEqDiff])
     |(rw[if_pos];rotate_left 1;omega;simp(maxSteps:=2000000) only[undef,am0,am1,am2,am3,amb0,amb1,amb2,amb3,amb4,lwn,drn,callee,wantedB,isW,eff,pev,pst0,retPost,resAll,resP,resV,intP,mkV,putC,pbin,sbin,strsEq,peq,pint,pshift,pstr,pun,pconv,isShift,isConstB,app,subS,lay,rowsOf,lkV,keyKind,keyEq,mfind,mput,oInt,isZeroInt,forall_const,exists_eq_left',implies_true,IntKind.bits, ↓reduceIte,Nat.reduceEqDiff,Nat.reduceAdd,Nat.reduceSub,Nat.reduceMul,Nat.reduceLT,Nat.reduceLeDiff,Nat.reduceBEq,Int.reduceLE,Int.reduceLT,Int.reduceToNat,reduceCtorEq,Ty.all,g0,g1,g7,g8,w7]))
    refine⟨l.length-(k+1),by omega,k+1,by simp,by omega,rfl,fun i w2 hi hw=>?_⟩
    by_cases hik:i=k
    ·subst hik;rw[hx]at hw;simp at hw;rw[← hw];exact he
    ·exact hall i w2 (by omega) hw
  ·have hd:decide ((k:Int)<(l.length:Int))=false:=by simp;omega
   repeat'(first
    |refine a_seq fun K hK=>?_
    |(refine a_block ?_)
    |((first|refine a_regionS ?_|refine a_region (fun K hK=>?_)|refine a_ret ?_);simp(maxSteps:=2000000) only[undef,am0,am1,am2,am3,amb0,amb1,amb2,amb3,amb4,lwn,drn,callee,wantedB,isW,eff,pev,pst0,retPost,resAll,resP,resV,intP,mkV,putC,pbin,sbin,strsEq,peq,pint,pshift,pstr,pun,pconv,isShift,isConstB,app,subS,lay,rowsOf,lkV,keyKind,keyEq,mfind,mput,oInt,isZeroInt,forall_const,exists_eq_left',implies_true,IntKind.bits, ↓reduceIte,Nat.reduceEqDiff,Nat.reduceAdd,Nat.reduceSub,Nat.reduceMul,Nat.reduceLT,Nat.reduceLeDiff,Nat.reduceBEq,Int.reduceLE,Int.reduceLT,Int.reduceToNat,reduceCtorEq,Ty.all,g0,g1,g7,g8,hd])
    |(refine a_skip ?_;try simp only[pst0, ↓reduceIte,Nat.reduceEqDiff])
    |(refine a_exit ?_;try simp only[pst0, ↓reduceIte,Nat.reduceEqDiff])
    |(refine a_cond _ (by(try simp(maxSteps:=2000000) only[undef,am0,am1,am2,am3,amb0,amb1,amb2,amb3,amb4,lwn,drn,callee,wantedB,isW,eff,pev,pst0,retPost,resAll,resP,resV,intP,mkV,putC,pbin,sbin,strsEq,peq,pint,pshift,pstr,pun,pconv,isShift,isConstB,app,subS,lay,rowsOf,lkV,keyKind,keyEq,mfind,mput,oInt,isZeroInt,forall_const,exists_eq_left',implies_true,IntKind.bits, ↓reduceIte,Nat.reduceEqDiff,Nat.reduceAdd,Nat.reduceSub,Nat.reduceMul,Nat.reduceLT,Nat.reduceLeDiff,Nat.reduceBEq,Int.reduceLE,Int.reduceLT,Int.reduceToNat,reduceCtorEq,Ty.all,g0,g1,g7,g8,hd]);rfl) (fun hb=>?_) (fun hb=>?_)<;>(try simp only[hb0,decide_eq_true_eq,decide_eq_false_iff_not,reduceCtorEq]at hb)<;>(try(exfalso;omega)))
    |(with_reducible refine ite_in (fun hb=>?_) (fun hb=>?_)<;>(try simp only[Decidable.not_not]at hb)<;>(try simp only[hb,if_true,if_false,not_false_eq_true,not_true_eq_false, ↓reduceIte])<;>(try simp only[hb0,decide_eq_true_eq,decide_eq_false_iff_not,reduceCtorEq]at hb)<;>(try(exfalso;omega)))
    |(refine hK _ _ ?_;clear hK;try simp only[pst0, ↓reduceIte,Nat.reduceEqDiff])
    |(clear hK;refine hK _ _ ?_;clear hK;try simp only[pst0, ↓reduceIte,Nat.reduceEqDiff])
    |(clear hK;clear hK;refine hK _ _ ?_;clear hK;try simp only[pst0, ↓reduceIte,Nat.reduceEqDiff])
    |(clear hK;clear hK;clear hK;refine hK _ _ ?_;clear hK;try simp only[pst0, ↓reduceIte,Nat.reduceEqDiff])
    |(rw[if_pos];rotate_left 1;omega;simp(maxSteps:=2000000) only[undef,am0,am1,am2,am3,amb0,amb1,amb2,amb3,amb4,lwn,drn,callee,wantedB,isW,eff,pev,pst0,retPost,resAll,resP,resV,intP,mkV,putC,pbin,sbin,strsEq,peq,pint,pshift,pstr,pun,pconv,isShift,isConstB,app,subS,lay,rowsOf,lkV,keyKind,keyEq,mfind,mput,oInt,isZeroInt,forall_const,exists_eq_left',implies_true,IntKind.bits, ↓reduceIte,Nat.reduceEqDiff,Nat.reduceAdd,Nat.reduceSub,Nat.reduceMul,Nat.reduceLT,Nat.reduceLeDiff,Nat.reduceBEq,Int.reduceLE,Int.reduceLT,Int.reduceToNat,reduceCtorEq,Ty.all,g0,g1,g7,g8,hd]))
   have:l.findIdx? q=none:=by
    rw[List.findIdx?_eq_none_iff]
    intro w hw
    obtain⟨i,hi⟩:=List.getElem?_of_mem hw
    have:i<l.length:=(List.getElem?_eq_some_iff.1 hi).1
    rw[hall i w (by omega) hi]
   simp only[idxH,this]
theorem anyAt_c{h:Heap}{g:FuncId}{cp:PV}{l:List At}{q:At→Bool}(hl:l.length≤bigN)(hf: ∀ s∈l,PCall Tryz.prog g [.agg (atRow s),cp] h fun r h'=>r= .sc (.bool (q s))∧h'=h):
  PCall Tryz.prog 24 [.imm 2 (atRows l),.fn g [] [cp]] h fun r h'=>r= .sc (.bool (l.any q))∧h'=h:=by
 refine pcall_body (ow:=fun _=>false) (wf:=fun _=>false) Ty.mixed Tryz.func24 rfl Ty.hb_24 (by rw[Tryz.ntmps24];simp) ?_
 rw[Tryz.ntmps24,Tryz.results24]
 repeat'(first
  |refine a_seq fun K hK=>?_
  |(refine a_block ?_)
  |((first|refine a_regionS ?_|refine a_region (fun K hK=>?_)|refine a_ret ?_);simp(maxSteps:=2000000) only[undef,am0,am1,am2,am3,amb0,amb1,amb2,amb3,amb4,lwn,drn,callee,wantedB,isW,eff,pev,pst0,retPost,resAll,resP,resV,intP,mkV,putC,pbin,sbin,strsEq,peq,pint,pshift,pstr,pun,pconv,isShift,isConstB,app,subS,lay,rowsOf,lkV,keyKind,keyEq,mfind,mput,oInt,isZeroInt,forall_const,exists_eq_left',implies_true,IntKind.bits, ↓reduceIte,Nat.reduceEqDiff,Nat.reduceAdd,Nat.reduceSub,Nat.reduceMul,Nat.reduceLT,Nat.reduceLeDiff,Nat.reduceBEq,Int.reduceLE,Int.reduceLT,Int.reduceToNat,reduceCtorEq,Ty.all])
  |(refine a_skip ?_;try simp only[pst0, ↓reduceIte,Nat.reduceEqDiff])
  |(refine a_exit ?_;try simp only[pst0, ↓reduceIte,Nat.reduceEqDiff])
  |(refine a_cond _ (by(try simp(maxSteps:=2000000) only[undef,am0,am1,am2,am3,amb0,amb1,amb2,amb3,amb4,lwn,drn,callee,wantedB,isW,eff,pev,pst0,retPost,resAll,resP,resV,intP,mkV,putC,pbin,sbin,strsEq,peq,pint,pshift,pstr,pun,pconv,isShift,isConstB,app,subS,lay,rowsOf,lkV,keyKind,keyEq,mfind,mput,oInt,isZeroInt,forall_const,exists_eq_left',implies_true,IntKind.bits, ↓reduceIte,Nat.reduceEqDiff,Nat.reduceAdd,Nat.reduceSub,Nat.reduceMul,Nat.reduceLT,Nat.reduceLeDiff,Nat.reduceBEq,Int.reduceLE,Int.reduceLT,Int.reduceToNat,reduceCtorEq,Ty.all]);rfl) (fun hb=>?_) (fun hb=>?_)<;>(try simp only[hb0,decide_eq_true_eq,decide_eq_false_iff_not,reduceCtorEq]at hb)<;>(try(exfalso;omega)))
  |(with_reducible refine ite_in (fun hb=>?_) (fun hb=>?_)<;>(try simp only[Decidable.not_not]at hb)<;>(try simp only[hb,if_true,if_false,not_false_eq_true,not_true_eq_false, ↓reduceIte])<;>(try simp only[hb0,decide_eq_true_eq,decide_eq_false_iff_not,reduceCtorEq]at hb)<;>(try(exfalso;omega)))
  |(refine hK _ _ ?_;clear hK;try simp only[pst0, ↓reduceIte,Nat.reduceEqDiff])
  |(clear hK;refine hK _ _ ?_;clear hK;try simp only[pst0, ↓reduceIte,Nat.reduceEqDiff])
  |(clear hK;clear hK;refine hK _ _ ?_;clear hK;try simp only[pst0, ↓reduceIte,Nat.reduceEqDiff])
  |(clear hK;clear hK;clear hK;refine hK _ _ ?_;clear hK;try simp only[pst0, ↓reduceIte,Nat.reduceEqDiff])
  |(rw[if_pos];rotate_left 1;omega;simp(maxSteps:=2000000) only[undef,am0,am1,am2,am3,amb0,amb1,amb2,amb3,amb4,lwn,drn,callee,wantedB,isW,eff,pev,pst0,retPost,resAll,resP,resV,intP,mkV,putC,pbin,sbin,strsEq,peq,pint,pshift,pstr,pun,pconv,isShift,isConstB,app,subS,lay,rowsOf,lkV,keyKind,keyEq,mfind,mput,oInt,isZeroInt,forall_const,exists_eq_left',implies_true,IntKind.bits, ↓reduceIte,Nat.reduceEqDiff,Nat.reduceAdd,Nat.reduceSub,Nat.reduceMul,Nat.reduceLT,Nat.reduceLeDiff,Nat.reduceBEq,Int.reduceLE,Int.reduceLT,Int.reduceToNat,reduceCtorEq,Ty.all]))
 refine owp_useQ (anyAti_c (l:=l) (g:=g) hl hf) (by(try simp only[undef,am0,am1,am2,am3,amb0,amb1,amb2,amb3,amb4,lwn,drn,callee,wantedB,isW,eff,pev,pst0,retPost,resAll,resP,resV,intP,mkV,putC,pbin,sbin,strsEq,peq,pint,pshift,pstr,pun,pconv,isShift,isConstB,app,subS,lay,rowsOf,lkV,keyKind,keyEq,mfind,mput,oInt,isZeroInt,forall_const,exists_eq_left',implies_true,IntKind.bits, ↓reduceIte,Nat.reduceEqDiff,Nat.reduceAdd,Nat.reduceSub,Nat.reduceMul,Nat.reduceLT,Nat.reduceLeDiff,Nat.reduceBEq,Int.reduceLE,Int.reduceLT,Int.reduceToNat,reduceCtorEq,]);try rfl) ?_
 simp(maxSteps:=2000000) only[undef,am0,am1,am2,am3,amb0,amb1,amb2,amb3,amb4,lwn,drn,callee,wantedB,isW,eff,pev,pst0,retPost,resAll,resP,resV,intP,mkV,putC,pbin,sbin,strsEq,peq,pint,pshift,pstr,pun,pconv,isShift,isConstB,app,subS,lay,rowsOf,lkV,keyKind,keyEq,mfind,mput,oInt,isZeroInt,forall_const,exists_eq_left',implies_true,IntKind.bits, ↓reduceIte,Nat.reduceEqDiff,Nat.reduceAdd,Nat.reduceSub,Nat.reduceMul,Nat.reduceLT,Nat.reduceLeDiff,Nat.reduceBEq,Int.reduceLE,Int.reduceLT,Int.reduceToNat,reduceCtorEq,Ty.all,]
 repeat'(first
  |refine a_seq fun K hK=>?_
  |(refine a_block ?_)
  |((first|refine a_regionS ?_|refine a_region (fun K hK=>?_)|refine a_ret ?_);simp(maxSteps:=2000000) only[undef,am0,am1,am2,am3,amb0,amb1,amb2,amb3,amb4,lwn,drn,callee,wantedB,isW,eff,pev,pst0,retPost,resAll,resP,resV,intP,mkV,putC,pbin,sbin,strsEq,peq,pint,pshift,pstr,pun,pconv,isShift,isConstB,app,subS,lay,rowsOf,lkV,keyKind,keyEq,mfind,mput,oInt,isZeroInt,forall_const,exists_eq_left',implies_true,IntKind.bits, ↓reduceIte,Nat.reduceEqDiff,Nat.reduceAdd,Nat.reduceSub,Nat.reduceMul,Nat.reduceLT,Nat.reduceLeDiff,Nat.reduceBEq,Int.reduceLE,Int.reduceLT,Int.reduceToNat,reduceCtorEq,Ty.all])
  |(refine a_skip ?_;try simp only[pst0, ↓reduceIte,Nat.reduceEqDiff])
  |(refine a_exit ?_;try simp only[pst0, ↓reduceIte,Nat.reduceEqDiff])
  |(refine a_cond _ (by(try simp(maxSteps:=2000000) only[undef,am0,am1,am2,am3,amb0,amb1,amb2,amb3,amb4,lwn,drn,callee,wantedB,isW,eff,pev,pst0,retPost,resAll,resP,resV,intP,mkV,putC,pbin,sbin,strsEq,peq,pint,pshift,pstr,pun,pconv,isShift,isConstB,app,subS,lay,rowsOf,lkV,keyKind,keyEq,mfind,mput,oInt,isZeroInt,forall_const,exists_eq_left',implies_true,IntKind.bits, ↓reduceIte,Nat.reduceEqDiff,Nat.reduceAdd,Nat.reduceSub,Nat.reduceMul,Nat.reduceLT,Nat.reduceLeDiff,Nat.reduceBEq,Int.reduceLE,Int.reduceLT,Int.reduceToNat,reduceCtorEq,Ty.all]);rfl) (fun hb=>?_) (fun hb=>?_)<;>(try simp only[hb0,decide_eq_true_eq,decide_eq_false_iff_not,reduceCtorEq]at hb)<;>(try(exfalso;omega)))
  |(with_reducible refine ite_in (fun hb=>?_) (fun hb=>?_)<;>(try simp only[Decidable.not_not]at hb)<;>(try simp only[hb,if_true,if_false,not_false_eq_true,not_true_eq_false, ↓reduceIte])<;>(try simp only[hb0,decide_eq_true_eq,decide_eq_false_iff_not,reduceCtorEq]at hb)<;>(try(exfalso;omega)))
  |(refine hK _ _ ?_;clear hK;try simp only[pst0, ↓reduceIte,Nat.reduceEqDiff])
  |(clear hK;refine hK _ _ ?_;clear hK;try simp only[pst0, ↓reduceIte,Nat.reduceEqDiff])
  |(clear hK;clear hK;refine hK _ _ ?_;clear hK;try simp only[pst0, ↓reduceIte,Nat.reduceEqDiff])
  |(clear hK;clear hK;clear hK;refine hK _ _ ?_;clear hK;try simp only[pst0, ↓reduceIte,Nat.reduceEqDiff])
  |(rw[if_pos];rotate_left 1;omega;simp(maxSteps:=2000000) only[undef,am0,am1,am2,am3,amb0,amb1,amb2,amb3,amb4,lwn,drn,callee,wantedB,isW,eff,pev,pst0,retPost,resAll,resP,resV,intP,mkV,putC,pbin,sbin,strsEq,peq,pint,pshift,pstr,pun,pconv,isShift,isConstB,app,subS,lay,rowsOf,lkV,keyKind,keyEq,mfind,mput,oInt,isZeroInt,forall_const,exists_eq_left',implies_true,IntKind.bits, ↓reduceIte,Nat.reduceEqDiff,Nat.reduceAdd,Nat.reduceSub,Nat.reduceMul,Nat.reduceLT,Nat.reduceLeDiff,Nat.reduceBEq,Int.reduceLE,Int.reduceLT,Int.reduceToNat,reduceCtorEq,Ty.all]))
 rw[← idxH_any]
theorem anyVli_c{h:Heap}{g:FuncId}{cp:PV}{l:List Vl}{q:Vl→Bool}(hl:l.length≤bigN)(hf: ∀ s∈l,PCall Tryz.prog g [.agg (vlRow s),cp] h fun r h'=>r= .sc (.bool (q s))∧h'=h):
  PCall Tryz.prog 58 [.imm 3 (vlRows l),.fn g [] [cp]] h fun r h'=>r= .sc (.int .i64 (idxH q l))∧h'=h:=by
 unfold bigN at hl
 have hlen:=vlRows_len l
 refine pcall_body (ow:=fun _=>false) (wf:=fun _=>false) Ty.mixed Tryz.func58 rfl Ty.hb_58 (by rw[Tryz.ntmps58];simp) ?_
 rw[Tryz.ntmps58,Tryz.results58]
 repeat'(first
  |refine a_seq fun K hK=>?_
  |(refine a_block ?_)
  |((first|refine a_regionS ?_|refine a_region (fun K hK=>?_)|refine a_ret ?_);simp(maxSteps:=2000000) only[undef,am0,am1,am2,am3,amb0,amb1,amb2,amb3,amb4,lwn,drn,callee,wantedB,isW,eff,pev,pst0,retPost,resAll,resP,resV,intP,mkV,putC,pbin,sbin,strsEq,peq,pint,pshift,pstr,pun,pconv,isShift,isConstB,app,subS,lay,rowsOf,lkV,keyKind,keyEq,mfind,mput,oInt,isZeroInt,forall_const,exists_eq_left',implies_true,IntKind.bits, ↓reduceIte,Nat.reduceEqDiff,Nat.reduceAdd,Nat.reduceSub,Nat.reduceMul,Nat.reduceLT,Nat.reduceLeDiff,Nat.reduceBEq,Int.reduceLE,Int.reduceLT,Int.reduceToNat,reduceCtorEq,Ty.all,hlen])
  |(refine a_skip ?_;try simp only[pst0, ↓reduceIte,Nat.reduceEqDiff])
  |(refine a_exit ?_;try simp only[pst0, ↓reduceIte,Nat.reduceEqDiff])
  |(refine a_cond _ (by(try simp(maxSteps:=2000000) only[undef,am0,am1,am2,am3,amb0,amb1,amb2,amb3,amb4,lwn,drn,callee,wantedB,isW,eff,pev,pst0,retPost,resAll,resP,resV,intP,mkV,putC,pbin,sbin,strsEq,peq,pint,pshift,pstr,pun,pconv,isShift,isConstB,app,subS,lay,rowsOf,lkV,keyKind,keyEq,mfind,mput,oInt,isZeroInt,forall_const,exists_eq_left',implies_true,IntKind.bits, ↓reduceIte,Nat.reduceEqDiff,Nat.reduceAdd,Nat.reduceSub,Nat.reduceMul,Nat.reduceLT,Nat.reduceLeDiff,Nat.reduceBEq,Int.reduceLE,Int.reduceLT,Int.reduceToNat,reduceCtorEq,Ty.all,hlen]);rfl) (fun hb=>?_) (fun hb=>?_)<;>(try simp only[hb0,decide_eq_true_eq,decide_eq_false_iff_not,reduceCtorEq]at hb)<;>(try(exfalso;omega)))
  |(with_reducible refine ite_in (fun hb=>?_) (fun hb=>?_)<;>(try simp only[Decidable.not_not]at hb)<;>(try simp only[hb,if_true,if_false,not_false_eq_true,not_true_eq_false, ↓reduceIte])<;>(try simp only[hb0,decide_eq_true_eq,decide_eq_false_iff_not,reduceCtorEq]at hb)<;>(try(exfalso;omega)))
  |(refine hK _ _ ?_;clear hK;try simp only[pst0, ↓reduceIte,Nat.reduceEqDiff])
  |(clear hK;refine hK _ _ ?_;clear hK;try simp only[pst0, ↓reduceIte,Nat.reduceEqDiff])
  |(clear hK;clear hK;refine hK _ _ ?_;clear hK;try simp only[pst0, ↓reduceIte,Nat.reduceEqDiff])
  |(clear hK;clear hK;clear hK;refine hK _ _ ?_;clear hK;try simp only[pst0, ↓reduceIte,Nat.reduceEqDiff])
  |(rw[if_pos];rotate_left 1;omega;simp(maxSteps:=2000000) only[undef,am0,am1,am2,am3,amb0,amb1,amb2,amb3,amb4,lwn,drn,callee,wantedB,isW,eff,pev,pst0,retPost,resAll,resP,resV,intP,mkV,putC,pbin,sbin,strsEq,peq,pint,pshift,pstr,pun,pconv,isShift,isConstB,app,subS,lay,rowsOf,lkV,keyKind,keyEq,mfind,mput,oInt,isZeroInt,forall_const,exists_eq_left',implies_true,IntKind.bits, ↓reduceIte,Nat.reduceEqDiff,Nat.reduceAdd,Nat.reduceSub,Nat.reduceMul,Nat.reduceLT,Nat.reduceLeDiff,Nat.reduceBEq,Int.reduceLE,Int.reduceLT,Int.reduceToNat,reduceCtorEq,Ty.all,hlen]))
 refine a_loop (fun m S h'=>h'=h∧S 0= .imm 3 (vlRows l)∧S 1= .fn g [] [cp]∧S 7= .sc (.int .i64 l.length)∧ ∃ k:Nat,S 8= .sc (.int .i64 k)∧k≤l.length∧m=l.length-k∧ ∀ (i:Nat)(w:Vl),i<k→l[i]? =some w→q w=false) l.length ?_ ?_
 ·simp only[undef,am0,am1,am2,am3,amb0,amb1,amb2,amb3,amb4,lwn,drn,callee,wantedB,isW,eff,pev,pst0,retPost,resAll,resP,resV,intP,mkV,putC,pbin,sbin,strsEq,peq,pint,pshift,pstr,pun,pconv,isShift,isConstB,app,subS,lay,rowsOf,lkV,keyKind,keyEq,mfind,mput,oInt,isZeroInt,forall_const,exists_eq_left',implies_true,IntKind.bits, ↓reduceIte,Nat.reduceEqDiff,Nat.reduceAdd,Nat.reduceSub,Nat.reduceMul,Nat.reduceLT,Nat.reduceLeDiff,Nat.reduceBEq,Int.reduceLE,Int.reduceLT,Int.reduceToNat,reduceCtorEq]
  exact⟨0,rfl,by omega,rfl,by omega⟩
 ·rintro m S h' ⟨rfl,g0,g1,g7,k,g8,hk,rfl,hall⟩
  by_cases hlt:k<l.length
  ·have hd:decide ((k:Int)<(l.length:Int))=true:=by simp;omega
   have w7:IntKind.i64.wrap ((k:Int)+1)=k+1:=by rw[wrap64 (by omega) (by omega)]
   obtain⟨w,hx⟩: ∃ w,l[k]? =some w:=⟨l[k],List.getElem?_eq_getElem hlt⟩
   have hr:=vlRows_get hx
   have hc:=hf w (List.mem_of_getElem? hx)
   simp only[vlRow]at hc
   cases he:q w with
   |true=>
    rw[he]at hc
    repeat'(first
     |refine a_seq fun K hK=>?_
     |(refine a_block ?_)
     |((first|refine a_regionS ?_|refine a_region (fun K hK=>?_)|refine a_ret ?_);simp(maxSteps:=2000000) only[undef,am0,am1,am2,am3,amb0,amb1,amb2,amb3,amb4,lwn,drn,callee,wantedB,isW,eff,pev,pst0,retPost,resAll,resP,resV,intP,mkV,putC,pbin,sbin,strsEq,peq,pint,pshift,pstr,pun,pconv,isShift,isConstB,app,subS,lay,rowsOf,lkV,keyKind,keyEq,mfind,mput,oInt,isZeroInt,forall_const,exists_eq_left',implies_true,IntKind.bits, ↓reduceIte,Nat.reduceEqDiff,Nat.reduceAdd,Nat.reduceSub,Nat.reduceMul,Nat.reduceLT,Nat.reduceLeDiff,Nat.reduceBEq,Int.reduceLE,Int.reduceLT,Int.reduceToNat,reduceCtorEq,Ty.all,g0,g1,g7,g8,hd,hr])
     |(refine a_skip ?_;try simp only[pst0, ↓reduceIte,Nat.reduceEqDiff])
     |(refine a_exit ?_;try simp only[pst0, ↓reduceIte,Nat.reduceEqDiff])
     |(refine a_cond _ (by(try simp(maxSteps:=2000000) only[undef,am0,am1,am2,am3,amb0,amb1,amb2,amb3,amb4,lwn,drn,callee,wantedB,isW,eff,pev,pst0,retPost,resAll,resP,resV,intP,mkV,putC,pbin,sbin,strsEq,peq,pint,pshift,pstr,pun,pconv,isShift,isConstB,app,subS,lay,rowsOf,lkV,keyKind,keyEq,mfind,mput,oInt,isZeroInt,forall_const,exists_eq_left',implies_true,IntKind.bits, ↓reduceIte,Nat.reduceEqDiff,Nat.reduceAdd,Nat.reduceSub,Nat.reduceMul,Nat.reduceLT,Nat.reduceLeDiff,Nat.reduceBEq,Int.reduceLE,Int.reduceLT,Int.reduceToNat,reduceCtorEq,Ty.all,g0,g1,g7,g8,hd,hr]);rfl) (fun hb=>?_) (fun hb=>?_)<;>(try simp only[hb0,decide_eq_true_eq,decide_eq_false_iff_not,reduceCtorEq]at hb)<;>(try(exfalso;omega)))
     |(with_reducible refine ite_in (fun hb=>?_) (fun hb=>?_)<;>(try simp only[Decidable.not_not]at hb)<;>(try simp only[hb,if_true,if_false,not_false_eq_true,not_true_eq_false, ↓reduceIte])<;>(try simp only[hb0,decide_eq_true_eq,decide_eq_false_iff_not,reduceCtorEq]at hb)<;>(try(exfalso;omega)))
     |(refine hK _ _ ?_;clear hK;try simp only[pst0, ↓reduceIte,Nat.reduceEqDiff])
     |(clear hK;refine hK _ _ ?_;clear hK;try simp only[pst0, ↓reduceIte,Nat.reduceEqDiff])
     |(clear hK;clear hK;refine hK _ _ ?_;clear hK;try simp only[pst0, ↓reduceIte,Nat.reduceEqDiff])
     |(clear hK;clear hK;clear hK;refine hK _ _ ?_;clear hK;try simp only[pst0, ↓reduceIte,Nat.reduceEqDiff])
     |(rw[if_pos];rotate_left 1;omega;simp(maxSteps:=2000000) only[undef,am0,am1,am2,am3,amb0,amb1,amb2,amb3,amb4,lwn,drn,callee,wantedB,isW,eff,pev,pst0,retPost,resAll,resP,resV,intP,mkV,putC,pbin,sbin,strsEq,peq,pint,pshift,pstr,pun,pconv,isShift,isConstB,app,subS,lay,rowsOf,lkV,keyKind,keyEq,mfind,mput,oInt,isZeroInt,forall_const,exists_eq_left',implies_true,IntKind.bits, ↓reduceIte,Nat.reduceEqDiff,Nat.reduceAdd,Nat.reduceSub,Nat.reduceMul,Nat.reduceLT,Nat.reduceLeDiff,Nat.reduceBEq,Int.reduceLE,Int.reduceLT,Int.reduceToNat,reduceCtorEq,Ty.all,g0,g1,g7,g8,hd,hr]))
    refine owp_useFn' (by simp only[undef,am0,am1,am2,am3,amb0,amb1,amb2,amb3,amb4,lwn,drn,callee,wantedB,isW,eff,pev,pst0,retPost,resAll,resP,resV,intP,mkV,putC,pbin,sbin,strsEq,peq,pint,pshift,pstr,pun,pconv,isShift,isConstB,app,subS,lay,rowsOf,lkV,keyKind,keyEq,mfind,mput,oInt,isZeroInt,forall_const,exists_eq_left',implies_true,IntKind.bits, ↓reduceIte,Nat.reduceEqDiff,Nat.reduceAdd,Nat.reduceSub,Nat.reduceMul,Nat.reduceLT,Nat.reduceLeDiff,Nat.reduceBEq,Int.reduceLE,Int.reduceLT,Int.reduceToNat,reduceCtorEq,g1];rfl) hc (by simp only[undef,am0,am1,am2,am3,amb0,amb1,amb2,amb3,amb4,lwn,drn,callee,wantedB,isW,eff,pev,pst0,retPost,resAll,resP,resV,intP,mkV,putC,pbin,sbin,strsEq,peq,pint,pshift,pstr,pun,pconv,isShift,isConstB,app,subS,lay,rowsOf,lkV,keyKind,keyEq,mfind,mput,oInt,isZeroInt,forall_const,exists_eq_left',implies_true,IntKind.bits, ↓reduceIte,Nat.reduceEqDiff,Nat.reduceAdd,Nat.reduceSub,Nat.reduceMul,Nat.reduceLT,Nat.reduceLeDiff,Nat.reduceBEq,Int.reduceLE,Int.reduceLT,Int.reduceToNat,reduceCtorEq,g0,g1,g7,g8];try rfl) ?_
    simp(maxSteps:=2000000) only[undef,am0,am1,am2,am3,amb0,amb1,amb2,amb3,amb4,lwn,drn,callee,wantedB,isW,eff,pev,pst0,retPost,resAll,resP,resV,intP,mkV,putC,pbin,sbin,strsEq,peq,pint,pshift,pstr,pun,pconv,isShift,isConstB,app,subS,lay,rowsOf,lkV,keyKind,keyEq,mfind,mput,oInt,isZeroInt,forall_const,exists_eq_left',implies_true,IntKind.bits, ↓reduceIte,Nat.reduceEqDiff,Nat.reduceAdd,Nat.reduceSub,Nat.reduceMul,Nat.reduceLT,Nat.reduceLeDiff,Nat.reduceBEq,Int.reduceLE,Int.reduceLT,Int.reduceToNat,reduceCtorEq,Ty.all]
    repeat'(first
     |refine a_seq fun K hK=>?_
     |(refine a_block ?_)
     |((first|refine a_regionS ?_|refine a_region (fun K hK=>?_)|refine a_ret ?_);simp(maxSteps:=2000000) only[undef,am0,am1,am2,am3,amb0,amb1,amb2,amb3,amb4,lwn,drn,callee,wantedB,isW,eff,pev,pst0,retPost,resAll,resP,resV,intP,mkV,putC,pbin,sbin,strsEq,peq,pint,pshift,pstr,pun,pconv,isShift,isConstB,app,subS,lay,rowsOf,lkV,keyKind,keyEq,mfind,mput,oInt,isZeroInt,forall_const,exists_eq_left',implies_true,IntKind.bits, ↓reduceIte,Nat.reduceEqDiff,Nat.reduceAdd,Nat.reduceSub,Nat.reduceMul,Nat.reduceLT,Nat.reduceLeDiff,Nat.reduceBEq,Int.reduceLE,Int.reduceLT,Int.reduceToNat,reduceCtorEq,Ty.all,g0,g1,g7,g8])
     |(refine a_skip ?_;try simp only[pst0, ↓reduceIte,Nat.reduceEqDiff])
     |(refine a_exit ?_;try simp only[pst0, ↓reduceIte,Nat.reduceEqDiff])
     |(refine a_cond _ (by(try simp(maxSteps:=2000000) only[undef,am0,am1,am2,am3,amb0,amb1,amb2,amb3,amb4,lwn,drn,callee,wantedB,isW,eff,pev,pst0,retPost,resAll,resP,resV,intP,mkV,putC,pbin,sbin,strsEq,peq,pint,pshift,pstr,pun,pconv,isShift,isConstB,app,subS,lay,rowsOf,lkV,keyKind,keyEq,mfind,mput,oInt,isZeroInt,forall_const,exists_eq_left',implies_true,IntKind.bits, ↓reduceIte,Nat.reduceEqDiff,Nat.reduceAdd,Nat.reduceSub,Nat.reduceMul,Nat.reduceLT,Nat.reduceLeDiff,Nat.reduceBEq,Int.reduceLE,Int.reduceLT,Int.reduceToNat,reduceCtorEq,Ty.all,g0,g1,g7,g8]);rfl) (fun hb=>?_) (fun hb=>?_)<;>(try simp only[hb0,decide_eq_true_eq,decide_eq_false_iff_not,reduceCtorEq]at hb)<;>(try(exfalso;omega)))
     |(with_reducible refine ite_in (fun hb=>?_) (fun hb=>?_)<;>(try simp only[Decidable.not_not]at hb)<;>(try simp only[hb,if_true,if_false,not_false_eq_true,not_true_eq_false, ↓reduceIte])<;>(try simp only[hb0,decide_eq_true_eq,decide_eq_false_iff_not,reduceCtorEq]at hb)<;>(try(exfalso;omega)))
     |(refine hK _ _ ?_;clear hK;try simp only[pst0, ↓reduceIte,Nat.reduceEqDiff])
     |(clear hK;refine hK _ _ ?_;clear hK;try simp only[pst0, ↓reduceIte,Nat.reduceEqDiff])
     |(clear hK;clear hK;refine hK _ _ ?_;clear hK;try simp only[pst0, ↓reduceIte,Nat.reduceEqDiff])
     |(clear hK;clear hK;clear hK;refine hK _ _ ?_;clear hK;try simp only[pst0, ↓reduceIte,Nat.reduceEqDiff])
     |(rw[if_pos];rotate_left 1;omega;simp(maxSteps:=2000000) only[undef,am0,am1,am2,am3,amb0,amb1,amb2,amb3,amb4,lwn,drn,callee,wantedB,isW,eff,pev,pst0,retPost,resAll,resP,resV,intP,mkV,putC,pbin,sbin,strsEq,peq,pint,pshift,pstr,pun,pconv,isShift,isConstB,app,subS,lay,rowsOf,lkV,keyKind,keyEq,mfind,mput,oInt,isZeroInt,forall_const,exists_eq_left',implies_true,IntKind.bits, ↓reduceIte,Nat.reduceEqDiff,Nat.reduceAdd,Nat.reduceSub,Nat.reduceMul,Nat.reduceLT,Nat.reduceLeDiff,Nat.reduceBEq,Int.reduceLE,Int.reduceLT,Int.reduceToNat,reduceCtorEq,Ty.all,g0,g1,g7,g8]))
    have:l.findIdx? q=some k:=by
     rw[List.findIdx?_eq_some_iff_getElem]
     refine⟨hlt,?_,fun j hj=>?_⟩
     ·rw [List.getElem?_eq_getElem hlt]at hx
      simp only[Option.some.injEq]at hx
      rw[hx,he]
     ·rw [hall j l[j] hj (List.getElem?_eq_getElem (by omega))];simp
    simp only[idxH,this]
   |false=>
    rw[he]at hc
    repeat'(first
     |refine a_seq fun K hK=>?_
     |(refine a_block ?_)
     |((first|refine a_regionS ?_|refine a_region (fun K hK=>?_)|refine a_ret ?_);simp(maxSteps:=2000000) only[undef,am0,am1,am2,am3,amb0,amb1,amb2,amb3,amb4,lwn,drn,callee,wantedB,isW,eff,pev,pst0,retPost,resAll,resP,resV,intP,mkV,putC,pbin,sbin,strsEq,peq,pint,pshift,pstr,pun,pconv,isShift,isConstB,app,subS,lay,rowsOf,lkV,keyKind,keyEq,mfind,mput,oInt,isZeroInt,forall_const,exists_eq_left',implies_true,IntKind.bits, ↓reduceIte,Nat.reduceEqDiff,Nat.reduceAdd,Nat.reduceSub,Nat.reduceMul,Nat.reduceLT,Nat.reduceLeDiff,Nat.reduceBEq,Int.reduceLE,Int.reduceLT,Int.reduceToNat,reduceCtorEq,Ty.all,g0,g1,g7,g8,hd,hr])
     |(refine a_skip ?_;try simp only[pst0, ↓reduceIte,Nat.reduceEqDiff])
     |(refine a_exit ?_;try simp only[pst0, ↓reduceIte,Nat.reduceEqDiff])
     |(refine a_cond _ (by(try simp(maxSteps:=2000000) only[undef,am0,am1,am2,am3,amb0,amb1,amb2,amb3,amb4,lwn,drn,callee,wantedB,isW,eff,pev,pst0,retPost,resAll,resP,resV,intP,mkV,putC,pbin,sbin,strsEq,peq,pint,pshift,pstr,pun,pconv,isShift,isConstB,app,subS,lay,rowsOf,lkV,keyKind,keyEq,mfind,mput,oInt,isZeroInt,forall_const,exists_eq_left',implies_true,IntKind.bits, ↓reduceIte,Nat.reduceEqDiff,Nat.reduceAdd,Nat.reduceSub,Nat.reduceMul,Nat.reduceLT,Nat.reduceLeDiff,Nat.reduceBEq,Int.reduceLE,Int.reduceLT,Int.reduceToNat,reduceCtorEq,Ty.all,g0,g1,g7,g8,hd,hr]);rfl) (fun hb=>?_) (fun hb=>?_)<;>(try simp only[hb0,decide_eq_true_eq,decide_eq_false_iff_not,reduceCtorEq]at hb)<;>(try(exfalso;omega)))
     |(with_reducible refine ite_in (fun hb=>?_) (fun hb=>?_)<;>(try simp only[Decidable.not_not]at hb)<;>(try simp only[hb,if_true,if_false,not_false_eq_true,not_true_eq_false, ↓reduceIte])<;>(try simp only[hb0,decide_eq_true_eq,decide_eq_false_iff_not,reduceCtorEq]at hb)<;>(try(exfalso;omega)))
     |(refine hK _ _ ?_;clear hK;try simp only[pst0, ↓reduceIte,Nat.reduceEqDiff])
     |(clear hK;refine hK _ _ ?_;clear hK;try simp only[pst0, ↓reduceIte,Nat.reduceEqDiff])
     |(clear hK;clear hK;refine hK _ _ ?_;clear hK;try simp only[pst0, ↓reduceIte,Nat.reduceEqDiff])
     |(clear hK;clear hK;clear hK;refine hK _ _ ?_;clear hK;try simp only[pst0, ↓reduceIte,Nat.reduceEqDiff])
     |(rw[if_pos];rotate_left 1;omega;simp(maxSteps:=2000000) only[undef,am0,am1,am2,am3,amb0,amb1,amb2,amb3,amb4,lwn,drn,callee,wantedB,isW,eff,pev,pst0,retPost,resAll,resP,resV,intP,mkV,putC,pbin,sbin,strsEq,peq,pint,pshift,pstr,pun,pconv,isShift,isConstB,app,subS,lay,rowsOf,lkV,keyKind,keyEq,mfind,mput,oInt,isZeroInt,forall_const,exists_eq_left',implies_true,IntKind.bits, ↓reduceIte,Nat.reduceEqDiff,Nat.reduceAdd,Nat.reduceSub,Nat.reduceMul,Nat.reduceLT,Nat.reduceLeDiff,Nat.reduceBEq,Int.reduceLE,Int.reduceLT,Int.reduceToNat,reduceCtorEq,Ty.all,g0,g1,g7,g8,hd,hr]))
    refine owp_useFn' (by simp only[undef,am0,am1,am2,am3,amb0,amb1,amb2,amb3,amb4,lwn,drn,callee,wantedB,isW,eff,pev,pst0,retPost,resAll,resP,resV,intP,mkV,putC,pbin,sbin,strsEq,peq,pint,pshift,pstr,pun,pconv,isShift,isConstB,app,subS,lay,rowsOf,lkV,keyKind,keyEq,mfind,mput,oInt,isZeroInt,forall_const,exists_eq_left',implies_true,IntKind.bits, ↓reduceIte,Nat.reduceEqDiff,Nat.reduceAdd,Nat.reduceSub,Nat.reduceMul,Nat.reduceLT,Nat.reduceLeDiff,Nat.reduceBEq,Int.reduceLE,Int.reduceLT,Int.reduceToNat,reduceCtorEq,g1];rfl) hc (by simp only[undef,am0,am1,am2,am3,amb0,amb1,amb2,amb3,amb4,lwn,drn,callee,wantedB,isW,eff,pev,pst0,retPost,resAll,resP,resV,intP,mkV,putC,pbin,sbin,strsEq,peq,pint,pshift,pstr,pun,pconv,isShift,isConstB,app,subS,lay,rowsOf,lkV,keyKind,keyEq,mfind,mput,oInt,isZeroInt,forall_const,exists_eq_left',implies_true,IntKind.bits, ↓reduceIte,Nat.reduceEqDiff,Nat.reduceAdd,Nat.reduceSub,Nat.reduceMul,Nat.reduceLT,Nat.reduceLeDiff,Nat.reduceBEq,Int.reduceLE,Int.reduceLT,Int.reduceToNat,reduceCtorEq,g0,g1,g7,g8];try rfl) ?_
    simp(maxSteps:=2000000) only[undef,am0,am1,am2,am3,amb0,amb1,amb2,amb3,amb4,lwn,drn,callee,wantedB,isW,eff,pev,pst0,retPost,resAll,resP,resV,intP,mkV,putC,pbin,sbin,strsEq,peq,pint,pshift,pstr,pun,pconv,isShift,isConstB,app,subS,lay,rowsOf,lkV,keyKind,keyEq,mfind,mput,oInt,isZeroInt,forall_const,exists_eq_left',implies_true,IntKind.bits, ↓reduceIte,Nat.reduceEqDiff,Nat.reduceAdd,Nat.reduceSub,Nat.reduceMul,Nat.reduceLT,Nat.reduceLeDiff,Nat.reduceBEq,Int.reduceLE,Int.reduceLT,Int.reduceToNat,reduceCtorEq,Ty.all]
    repeat'(first
     |refine a_seq fun K hK=>?_
     |(refine a_block ?_)
     |((first|refine a_regionS ?_|refine a_region (fun K hK=>?_)|refine a_ret ?_);simp(maxSteps:=2000000) only[undef,am0,am1,am2,am3,amb0,amb1,amb2,amb3,amb4,lwn,drn,callee,wantedB,isW,eff,pev,pst0,retPost,resAll,resP,resV,intP,mkV,putC,pbin,sbin,strsEq,peq,pint,pshift,pstr,pun,pconv,isShift,isConstB,app,subS,lay,rowsOf,lkV,keyKind,keyEq,mfind,mput,oInt,isZeroInt,forall_const,exists_eq_left',implies_true,IntKind.bits, ↓reduceIte,Nat.reduceEqDiff,Nat.reduceAdd,Nat.reduceSub,Nat.reduceMul,Nat.reduceLT,Nat.reduceLeDiff,Nat.reduceBEq,Int.reduceLE,Int.reduceLT,Int.reduceToNat,reduceCtorEq,Ty.all,g0,g1,g7,g8,w7])
     |(refine a_skip ?_;try simp only[pst0, ↓reduceIte,Nat.reduceEqDiff])
     |(refine a_exit ?_;try simp only[pst0, ↓reduceIte,Nat.reduceEqDiff])
     |(refine a_cond _ (by(try simp(maxSteps:=2000000) only[undef,am0,am1,am2,am3,amb0,amb1,amb2,amb3,amb4,lwn,drn,callee,wantedB,isW,eff,pev,pst0,retPost,resAll,resP,resV,intP,mkV,putC,pbin,sbin,strsEq,peq,pint,pshift,pstr,pun,pconv,isShift,isConstB,app,subS,lay,rowsOf,lkV,keyKind,keyEq,mfind,mput,oInt,isZeroInt,forall_const,exists_eq_left',implies_true,IntKind.bits, ↓reduceIte,Nat.reduceEqDiff,Nat.reduceAdd,Nat.reduceSub,Nat.reduceMul,Nat.reduceLT,Nat.reduceLeDiff,Nat.reduceBEq,Int.reduceLE,Int.reduceLT,Int.reduceToNat,reduceCtorEq,Ty.all,g0,g1,g7,g8,w7]);rfl) (fun hb=>?_) (fun hb=>?_)<;>(try simp only[hb0,decide_eq_true_eq,decide_eq_false_iff_not,reduceCtorEq]at hb)<;>(try(exfalso;omega)))
     |(with_reducible refine ite_in (fun hb=>?_) (fun hb=>?_)<;>(try simp only[Decidable.not_not]at hb)<;>(try simp only[hb,if_true,if_false,not_false_eq_true,not_true_eq_false, ↓reduceIte])<;>(try simp only[hb0,decide_eq_true_eq,decide_eq_false_iff_not,reduceCtorEq]at hb)<;>(try(exfalso;omega)))
     |(refine hK _ _ ?_;clear hK;try simp only[pst0, ↓reduceIte,Nat.reduceEqDiff])
     |(clear hK;refine hK _ _ ?_;clear hK;try simp only[pst0, ↓reduceIte,Nat.reduceEqDiff])
     |(clear hK;clear hK;refine hK _ _ ?_;clear hK;try simp only[pst0, ↓reduceIte,Nat.reduceEqDiff])
     |(clear hK;clear hK;clear hK;refine hK _ _ ?_;clear hK;try simp only[pst0, ↓reduceIte,Nat.reduceEqDiff])
     |(rw[if_pos];rotate_left 1;omega;simp(maxSteps:=2000000) only[undef,am0,am1,am2,am3,amb0,amb1,amb2,amb3,amb4,lwn,drn,callee,wantedB,isW,eff,pev,pst0,retPost,resAll,resP,resV,intP,mkV,putC,pbin,sbin,strsEq,peq,pint,pshift,pstr,pun,pconv,isShift,isConstB,app,subS,lay,rowsOf,lkV,keyKind,keyEq,mfind,mput,oInt,isZeroInt,forall_const,exists_eq_left',implies_true,IntKind.bits, ↓reduceIte,Nat.reduceEqDiff,Nat.reduceAdd,Nat.reduceSub,Nat.reduceMul,Nat.reduceLT,Nat.reduceLeDiff,Nat.reduceBEq,Int.reduceLE,Int.reduceLT,Int.reduceToNat,reduceCtorEq,Ty.all,g0,g1,g7,g8,w7]))
    refine⟨l.length-(k+1),by omega,k+1,by simp,by omega,rfl,fun i w2 hi hw=>?_⟩
    by_cases hik:i=k
    ·subst hik;rw[hx]at hw;simp at hw;rw[← hw];exact he
    ·exact hall i w2 (by omega) hw
  ·have hd:decide ((k:Int)<(l.length:Int))=false:=by simp;omega
   repeat'(first
    |refine a_seq fun K hK=>?_
    |(refine a_block ?_)
    |((first|refine a_regionS ?_|refine a_region (fun K hK=>?_)|refine a_ret ?_);simp(maxSteps:=2000000) only[undef,am0,am1,am2,am3,amb0,amb1,amb2,amb3,amb4,lwn,drn,callee,wantedB,isW,eff,pev,pst0,retPost,resAll,resP,resV,intP,mkV,putC,pbin,sbin,strsEq,peq,pint,pshift,pstr,pun,pconv,isShift,isConstB,app,subS,lay,rowsOf,lkV,keyKind,keyEq,mfind,mput,oInt,isZeroInt,forall_const,exists_eq_left',implies_true,IntKind.bits, ↓reduceIte,Nat.reduceEqDiff,Nat.reduceAdd,Nat.reduceSub,Nat.reduceMul,Nat.reduceLT,Nat.reduceLeDiff,Nat.reduceBEq,Int.reduceLE,Int.reduceLT,Int.reduceToNat,reduceCtorEq,Ty.all,g0,g1,g7,g8,hd])
    |(refine a_skip ?_;try simp only[pst0, ↓reduceIte,Nat.reduceEqDiff])
    |(refine a_exit ?_;try simp only[pst0, ↓reduceIte,Nat.reduceEqDiff])
    |(refine a_cond _ (by(try simp(maxSteps:=2000000) only[undef,am0,am1,am2,am3,amb0,amb1,amb2,amb3,amb4,lwn,drn,callee,wantedB,isW,eff,pev,pst0,retPost,resAll,resP,resV,intP,mkV,putC,pbin,sbin,strsEq,peq,pint,pshift,pstr,pun,pconv,isShift,isConstB,app,subS,lay,rowsOf,lkV,keyKind,keyEq,mfind,mput,oInt,isZeroInt,forall_const,exists_eq_left',implies_true,IntKind.bits, ↓reduceIte,Nat.reduceEqDiff,Nat.reduceAdd,Nat.reduceSub,Nat.reduceMul,Nat.reduceLT,Nat.reduceLeDiff,Nat.reduceBEq,Int.reduceLE,Int.reduceLT,Int.reduceToNat,reduceCtorEq,Ty.all,g0,g1,g7,g8,hd]);rfl) (fun hb=>?_) (fun hb=>?_)<;>(try simp only[hb0,decide_eq_true_eq,decide_eq_false_iff_not,reduceCtorEq]at hb)<;>(try(exfalso;omega)))
    |(with_reducible refine ite_in (fun hb=>?_) (fun hb=>?_)<;>(try simp only[Decidable.not_not]at hb)<;>(try simp only[hb,if_true,if_false,not_false_eq_true,not_true_eq_false, ↓reduceIte])<;>(try simp only[hb0,decide_eq_true_eq,decide_eq_false_iff_not,reduceCtorEq]at hb)<;>(try(exfalso;omega)))
    |(refine hK _ _ ?_;clear hK;try simp only[pst0, ↓reduceIte,Nat.reduceEqDiff])
    |(clear hK;refine hK _ _ ?_;clear hK;try simp only[pst0, ↓reduceIte,Nat.reduceEqDiff])
    |(clear hK;clear hK;refine hK _ _ ?_;clear hK;try simp only[pst0, ↓reduceIte,Nat.reduceEqDiff])
    |(clear hK;clear hK;clear hK;refine hK _ _ ?_;clear hK;try simp only[pst0, ↓reduceIte,Nat.reduceEqDiff])
    |(rw[if_pos];rotate_left 1;omega;simp(maxSteps:=2000000) only[undef,am0,am1,am2,am3,amb0,amb1,amb2,amb3,amb4,lwn,drn,callee,wantedB,isW,eff,pev,pst0,retPost,resAll,resP,resV,intP,mkV,putC,pbin,sbin,strsEq,peq,pint,pshift,pstr,pun,pconv,isShift,isConstB,app,subS,lay,rowsOf,lkV,keyKind,keyEq,mfind,mput,oInt,isZeroInt,forall_const,exists_eq_left',implies_true,IntKind.bits, ↓reduceIte,Nat.reduceEqDiff,Nat.reduceAdd,Nat.reduceSub,Nat.reduceMul,Nat.reduceLT,Nat.reduceLeDiff,Nat.reduceBEq,Int.reduceLE,Int.reduceLT,Int.reduceToNat,reduceCtorEq,Ty.all,g0,g1,g7,g8,hd]))
   have:l.findIdx? q=none:=by
    rw[List.findIdx?_eq_none_iff]
    intro w hw
    obtain⟨i,hi⟩:=List.getElem?_of_mem hw
    have:i<l.length:=(List.getElem?_eq_some_iff.1 hi).1
    rw[hall i w (by omega) hi]
   simp only[idxH,this]
theorem anyVl_c{h:Heap}{g:FuncId}{cp:PV}{l:List Vl}{q:Vl→Bool}(hl:l.length≤bigN)(hf: ∀ s∈l,PCall Tryz.prog g [.agg (vlRow s),cp] h fun r h'=>r= .sc (.bool (q s))∧h'=h):
  PCall Tryz.prog 28 [.imm 3 (vlRows l),.fn g [] [cp]] h fun r h'=>r= .sc (.bool (l.any q))∧h'=h:=by
 refine pcall_body (ow:=fun _=>false) (wf:=fun _=>false) Ty.mixed Tryz.func28 rfl Ty.hb_28 (by rw[Tryz.ntmps28];simp) ?_
 rw[Tryz.ntmps28,Tryz.results28]
 repeat'(first
  |refine a_seq fun K hK=>?_
  |(refine a_block ?_)
  |((first|refine a_regionS ?_|refine a_region (fun K hK=>?_)|refine a_ret ?_);simp(maxSteps:=2000000) only[undef,am0,am1,am2,am3,amb0,amb1,amb2,amb3,amb4,lwn,drn,callee,wantedB,isW,eff,pev,pst0,retPost,resAll,resP,resV,intP,mkV,putC,pbin,sbin,strsEq,peq,pint,pshift,pstr,pun,pconv,isShift,isConstB,app,subS,lay,rowsOf,lkV,keyKind,keyEq,mfind,mput,oInt,isZeroInt,forall_const,exists_eq_left',implies_true,IntKind.bits, ↓reduceIte,Nat.reduceEqDiff,Nat.reduceAdd,Nat.reduceSub,Nat.reduceMul,Nat.reduceLT,Nat.reduceLeDiff,Nat.reduceBEq,Int.reduceLE,Int.reduceLT,Int.reduceToNat,reduceCtorEq,Ty.all])
  |(refine a_skip ?_;try simp only[pst0, ↓reduceIte,Nat.reduceEqDiff])
  |(refine a_exit ?_;try simp only[pst0, ↓reduceIte,Nat.reduceEqDiff])
  |(refine a_cond _ (by(try simp(maxSteps:=2000000) only[undef,am0,am1,am2,am3,amb0,amb1,amb2,amb3,amb4,lwn,drn,callee,wantedB,isW,eff,pev,pst0,retPost,resAll,resP,resV,intP,mkV,putC,pbin,sbin,strsEq,peq,pint,pshift,pstr,pun,pconv,isShift,isConstB,app,subS,lay,rowsOf,lkV,keyKind,keyEq,mfind,mput,oInt,isZeroInt,forall_const,exists_eq_left',implies_true,IntKind.bits, ↓reduceIte,Nat.reduceEqDiff,Nat.reduceAdd,Nat.reduceSub,Nat.reduceMul,Nat.reduceLT,Nat.reduceLeDiff,Nat.reduceBEq,Int.reduceLE,Int.reduceLT,Int.reduceToNat,reduceCtorEq,Ty.all]);rfl) (fun hb=>?_) (fun hb=>?_)<;>(try simp only[hb0,decide_eq_true_eq,decide_eq_false_iff_not,reduceCtorEq]at hb)<;>(try(exfalso;omega)))
  |(with_reducible refine ite_in (fun hb=>?_) (fun hb=>?_)<;>(try simp only[Decidable.not_not]at hb)<;>(try simp only[hb,if_true,if_false,not_false_eq_true,not_true_eq_false, ↓reduceIte])<;>(try simp only[hb0,decide_eq_true_eq,decide_eq_false_iff_not,reduceCtorEq]at hb)<;>(try(exfalso;omega)))
  |(refine hK _ _ ?_;clear hK;try simp only[pst0, ↓reduceIte,Nat.reduceEqDiff])
  |(clear hK;refine hK _ _ ?_;clear hK;try simp only[pst0, ↓reduceIte,Nat.reduceEqDiff])
  |(clear hK;clear hK;refine hK _ _ ?_;clear hK;try simp only[pst0, ↓reduceIte,Nat.reduceEqDiff])
  |(clear hK;clear hK;clear hK;refine hK _ _ ?_;clear hK;try simp only[pst0, ↓reduceIte,Nat.reduceEqDiff])
  |(rw[if_pos];rotate_left 1;omega;simp(maxSteps:=2000000) only[undef,am0,am1,am2,am3,amb0,amb1,amb2,amb3,amb4,lwn,drn,callee,wantedB,isW,eff,pev,pst0,retPost,resAll,resP,resV,intP,mkV,putC,pbin,sbin,strsEq,peq,pint,pshift,pstr,pun,pconv,isShift,isConstB,app,subS,lay,rowsOf,lkV,keyKind,keyEq,mfind,mput,oInt,isZeroInt,forall_const,exists_eq_left',implies_true,IntKind.bits, ↓reduceIte,Nat.reduceEqDiff,Nat.reduceAdd,Nat.reduceSub,Nat.reduceMul,Nat.reduceLT,Nat.reduceLeDiff,Nat.reduceBEq,Int.reduceLE,Int.reduceLT,Int.reduceToNat,reduceCtorEq,Ty.all]))
 refine owp_useQ (anyVli_c (l:=l) (g:=g) hl hf) (by(try simp only[undef,am0,am1,am2,am3,amb0,amb1,amb2,amb3,amb4,lwn,drn,callee,wantedB,isW,eff,pev,pst0,retPost,resAll,resP,resV,intP,mkV,putC,pbin,sbin,strsEq,peq,pint,pshift,pstr,pun,pconv,isShift,isConstB,app,subS,lay,rowsOf,lkV,keyKind,keyEq,mfind,mput,oInt,isZeroInt,forall_const,exists_eq_left',implies_true,IntKind.bits, ↓reduceIte,Nat.reduceEqDiff,Nat.reduceAdd,Nat.reduceSub,Nat.reduceMul,Nat.reduceLT,Nat.reduceLeDiff,Nat.reduceBEq,Int.reduceLE,Int.reduceLT,Int.reduceToNat,reduceCtorEq,]);try rfl) ?_
 simp(maxSteps:=2000000) only[undef,am0,am1,am2,am3,amb0,amb1,amb2,amb3,amb4,lwn,drn,callee,wantedB,isW,eff,pev,pst0,retPost,resAll,resP,resV,intP,mkV,putC,pbin,sbin,strsEq,peq,pint,pshift,pstr,pun,pconv,isShift,isConstB,app,subS,lay,rowsOf,lkV,keyKind,keyEq,mfind,mput,oInt,isZeroInt,forall_const,exists_eq_left',implies_true,IntKind.bits, ↓reduceIte,Nat.reduceEqDiff,Nat.reduceAdd,Nat.reduceSub,Nat.reduceMul,Nat.reduceLT,Nat.reduceLeDiff,Nat.reduceBEq,Int.reduceLE,Int.reduceLT,Int.reduceToNat,reduceCtorEq,Ty.all,]
 repeat'(first
  |refine a_seq fun K hK=>?_
  |(refine a_block ?_)
  |((first|refine a_regionS ?_|refine a_region (fun K hK=>?_)|refine a_ret ?_);simp(maxSteps:=2000000) only[undef,am0,am1,am2,am3,amb0,amb1,amb2,amb3,amb4,lwn,drn,callee,wantedB,isW,eff,pev,pst0,retPost,resAll,resP,resV,intP,mkV,putC,pbin,sbin,strsEq,peq,pint,pshift,pstr,pun,pconv,isShift,isConstB,app,subS,lay,rowsOf,lkV,keyKind,keyEq,mfind,mput,oInt,isZeroInt,forall_const,exists_eq_left',implies_true,IntKind.bits, ↓reduceIte,Nat.reduceEqDiff,Nat.reduceAdd,Nat.reduceSub,Nat.reduceMul,Nat.reduceLT,Nat.reduceLeDiff,Nat.reduceBEq,Int.reduceLE,Int.reduceLT,Int.reduceToNat,reduceCtorEq,Ty.all])
  |(refine a_skip ?_;try simp only[pst0, ↓reduceIte,Nat.reduceEqDiff])
  |(refine a_exit ?_;try simp only[pst0, ↓reduceIte,Nat.reduceEqDiff])
  |(refine a_cond _ (by(try simp(maxSteps:=2000000) only[undef,am0,am1,am2,am3,amb0,amb1,amb2,amb3,amb4,lwn,drn,callee,wantedB,isW,eff,pev,pst0,retPost,resAll,resP,resV,intP,mkV,putC,pbin,sbin,strsEq,peq,pint,pshift,pstr,pun,pconv,isShift,isConstB,app,subS,lay,rowsOf,lkV,keyKind,keyEq,mfind,mput,oInt,isZeroInt,forall_const,exists_eq_left',implies_true,IntKind.bits, ↓reduceIte,Nat.reduceEqDiff,Nat.reduceAdd,Nat.reduceSub,Nat.reduceMul,Nat.reduceLT,Nat.reduceLeDiff,Nat.reduceBEq,Int.reduceLE,Int.reduceLT,Int.reduceToNat,reduceCtorEq,Ty.all]);rfl) (fun hb=>?_) (fun hb=>?_)<;>(try simp only[hb0,decide_eq_true_eq,decide_eq_false_iff_not,reduceCtorEq]at hb)<;>(try(exfalso;omega)))
  |(with_reducible refine ite_in (fun hb=>?_) (fun hb=>?_)<;>(try simp only[Decidable.not_not]at hb)<;>(try simp only[hb,if_true,if_false,not_false_eq_true,not_true_eq_false, ↓reduceIte])<;>(try simp only[hb0,decide_eq_true_eq,decide_eq_false_iff_not,reduceCtorEq]at hb)<;>(try(exfalso;omega)))
  |(refine hK _ _ ?_;clear hK;try simp only[pst0, ↓reduceIte,Nat.reduceEqDiff])
  |(clear hK;refine hK _ _ ?_;clear hK;try simp only[pst0, ↓reduceIte,Nat.reduceEqDiff])
  |(clear hK;clear hK;refine hK _ _ ?_;clear hK;try simp only[pst0, ↓reduceIte,Nat.reduceEqDiff])
  |(clear hK;clear hK;clear hK;refine hK _ _ ?_;clear hK;try simp only[pst0, ↓reduceIte,Nat.reduceEqDiff])
  |(rw[if_pos];rotate_left 1;omega;simp(maxSteps:=2000000) only[undef,am0,am1,am2,am3,amb0,amb1,amb2,amb3,amb4,lwn,drn,callee,wantedB,isW,eff,pev,pst0,retPost,resAll,resP,resV,intP,mkV,putC,pbin,sbin,strsEq,peq,pint,pshift,pstr,pun,pconv,isShift,isConstB,app,subS,lay,rowsOf,lkV,keyKind,keyEq,mfind,mput,oInt,isZeroInt,forall_const,exists_eq_left',implies_true,IntKind.bits, ↓reduceIte,Nat.reduceEqDiff,Nat.reduceAdd,Nat.reduceSub,Nat.reduceMul,Nat.reduceLT,Nat.reduceLeDiff,Nat.reduceBEq,Int.reduceLE,Int.reduceLT,Int.reduceToNat,reduceCtorEq,Ty.all]))
 rw[← idxH_any]
theorem ssameAtom_c{a b:At}(ha:a.ok)(hb:b.ok)(h:Heap):PCall Tryz.prog 27 [.agg (atRow a),.agg (atRow b)] h fun r h'=>r= .sc (.bool (a.same b))∧h'=h:=by
 have hc:=fun h:Heap=>ftexts_c (h:=h) (l:=a.args) (m:=b.args) ha.2.1 hb.2.1
 unfold At.same bEq
 simp only[atRow]
 generalize bsEq a.args b.args=e at hc⊢
 cases e0:(a.name.data.toList==b.name.data.toList)with
 |false=>
  refine pcall_body (ow:=fun _=>false) (wf:=fun _=>false) Ty.mixed Tryz.func27 rfl Ty.hb_27 (by rw[Tryz.ntmps27];simp) ?_
  rw[Tryz.ntmps27,Tryz.results27]
  repeat'(first
   |refine a_seq fun K hK=>?_
   |(refine a_block ?_)
   |((first|refine a_regionS ?_|refine a_region (fun K hK=>?_)|refine a_ret ?_);simp(maxSteps:=2000000) only[undef,am0,am1,am2,am3,amb0,amb1,amb2,amb3,amb4,lwn,drn,callee,wantedB,isW,eff,pev,pst0,retPost,resAll,resP,resV,intP,mkV,putC,pbin,sbin,strsEq,peq,pint,pshift,pstr,pun,pconv,isShift,isConstB,app,subS,lay,rowsOf,lkV,keyKind,keyEq,mfind,mput,oInt,isZeroInt,forall_const,exists_eq_left',implies_true,IntKind.bits, ↓reduceIte,Nat.reduceEqDiff,Nat.reduceAdd,Nat.reduceSub,Nat.reduceMul,Nat.reduceLT,Nat.reduceLeDiff,Nat.reduceBEq,Int.reduceLE,Int.reduceLT,Int.reduceToNat,reduceCtorEq,Ty.all,e0])
   |(refine a_skip ?_;try simp only[pst0, ↓reduceIte,Nat.reduceEqDiff])
   |(refine a_exit ?_;try simp only[pst0, ↓reduceIte,Nat.reduceEqDiff])
   |(refine a_cond _ (by(try simp(maxSteps:=2000000) only[undef,am0,am1,am2,am3,amb0,amb1,amb2,amb3,amb4,lwn,drn,callee,wantedB,isW,eff,pev,pst0,retPost,resAll,resP,resV,intP,mkV,putC,pbin,sbin,strsEq,peq,pint,pshift,pstr,pun,pconv,isShift,isConstB,app,subS,lay,rowsOf,lkV,keyKind,keyEq,mfind,mput,oInt,isZeroInt,forall_const,exists_eq_left',implies_true,IntKind.bits, ↓reduceIte,Nat.reduceEqDiff,Nat.reduceAdd,Nat.reduceSub,Nat.reduceMul,Nat.reduceLT,Nat.reduceLeDiff,Nat.reduceBEq,Int.reduceLE,Int.reduceLT,Int.reduceToNat,reduceCtorEq,Ty.all,e0]);rfl) (fun hb=>?_) (fun hb=>?_)<;>(try simp only[hb0,decide_eq_true_eq,decide_eq_false_iff_not,reduceCtorEq]at hb)<;>(try(exfalso;omega)))
   |(with_reducible refine ite_in (fun hb=>?_) (fun hb=>?_)<;>(try simp only[Decidable.not_not]at hb)<;>(try simp only[hb,if_true,if_false,not_false_eq_true,not_true_eq_false, ↓reduceIte])<;>(try simp only[hb0,decide_eq_true_eq,decide_eq_false_iff_not,reduceCtorEq]at hb)<;>(try(exfalso;omega)))
   |(refine hK _ _ ?_;clear hK;try simp only[pst0, ↓reduceIte,Nat.reduceEqDiff])
   |(clear hK;refine hK _ _ ?_;clear hK;try simp only[pst0, ↓reduceIte,Nat.reduceEqDiff])
   |(clear hK;clear hK;refine hK _ _ ?_;clear hK;try simp only[pst0, ↓reduceIte,Nat.reduceEqDiff])
   |(clear hK;clear hK;clear hK;refine hK _ _ ?_;clear hK;try simp only[pst0, ↓reduceIte,Nat.reduceEqDiff])
   |(rw[if_pos];rotate_left 1;omega;simp(maxSteps:=2000000) only[undef,am0,am1,am2,am3,amb0,amb1,amb2,amb3,amb4,lwn,drn,callee,wantedB,isW,eff,pev,pst0,retPost,resAll,resP,resV,intP,mkV,putC,pbin,sbin,strsEq,peq,pint,pshift,pstr,pun,pconv,isShift,isConstB,app,subS,lay,rowsOf,lkV,keyKind,keyEq,mfind,mput,oInt,isZeroInt,forall_const,exists_eq_left',implies_true,IntKind.bits, ↓reduceIte,Nat.reduceEqDiff,Nat.reduceAdd,Nat.reduceSub,Nat.reduceMul,Nat.reduceLT,Nat.reduceLeDiff,Nat.reduceBEq,Int.reduceLE,Int.reduceLT,Int.reduceToNat,reduceCtorEq,Ty.all,e0]))
  all_goals simp only[Bool.false_and]
 |true=>
  refine pcall_body (ow:=fun _=>false) (wf:=fun _=>false) Ty.mixed Tryz.func27 rfl Ty.hb_27 (by rw[Tryz.ntmps27];simp) ?_
  rw[Tryz.ntmps27,Tryz.results27]
  repeat'(first
   |refine a_seq fun K hK=>?_
   |(refine a_block ?_)
   |((first|refine a_regionS ?_|refine a_region (fun K hK=>?_)|refine a_ret ?_);simp(maxSteps:=2000000) only[undef,am0,am1,am2,am3,amb0,amb1,amb2,amb3,amb4,lwn,drn,callee,wantedB,isW,eff,pev,pst0,retPost,resAll,resP,resV,intP,mkV,putC,pbin,sbin,strsEq,peq,pint,pshift,pstr,pun,pconv,isShift,isConstB,app,subS,lay,rowsOf,lkV,keyKind,keyEq,mfind,mput,oInt,isZeroInt,forall_const,exists_eq_left',implies_true,IntKind.bits, ↓reduceIte,Nat.reduceEqDiff,Nat.reduceAdd,Nat.reduceSub,Nat.reduceMul,Nat.reduceLT,Nat.reduceLeDiff,Nat.reduceBEq,Int.reduceLE,Int.reduceLT,Int.reduceToNat,reduceCtorEq,Ty.all,e0])
   |(refine a_skip ?_;try simp only[pst0, ↓reduceIte,Nat.reduceEqDiff])
   |(refine a_exit ?_;try simp only[pst0, ↓reduceIte,Nat.reduceEqDiff])
   |(refine a_cond _ (by(try simp(maxSteps:=2000000) only[undef,am0,am1,am2,am3,amb0,amb1,amb2,amb3,amb4,lwn,drn,callee,wantedB,isW,eff,pev,pst0,retPost,resAll,resP,resV,intP,mkV,putC,pbin,sbin,strsEq,peq,pint,pshift,pstr,pun,pconv,isShift,isConstB,app,subS,lay,rowsOf,lkV,keyKind,keyEq,mfind,mput,oInt,isZeroInt,forall_const,exists_eq_left',implies_true,IntKind.bits, ↓reduceIte,Nat.reduceEqDiff,Nat.reduceAdd,Nat.reduceSub,Nat.reduceMul,Nat.reduceLT,Nat.reduceLeDiff,Nat.reduceBEq,Int.reduceLE,Int.reduceLT,Int.reduceToNat,reduceCtorEq,Ty.all,e0]);rfl) (fun hb=>?_) (fun hb=>?_)<;>(try simp only[hb0,decide_eq_true_eq,decide_eq_false_iff_not,reduceCtorEq]at hb)<;>(try(exfalso;omega)))
   |(with_reducible refine ite_in (fun hb=>?_) (fun hb=>?_)<;>(try simp only[Decidable.not_not]at hb)<;>(try simp only[hb,if_true,if_false,not_false_eq_true,not_true_eq_false, ↓reduceIte])<;>(try simp only[hb0,decide_eq_true_eq,decide_eq_false_iff_not,reduceCtorEq]at hb)<;>(try(exfalso;omega)))
   |(refine hK _ _ ?_;clear hK;try simp only[pst0, ↓reduceIte,Nat.reduceEqDiff])
   |(clear hK;refine hK _ _ ?_;clear hK;try simp only[pst0, ↓reduceIte,Nat.reduceEqDiff])
   |(clear hK;clear hK;refine hK _ _ ?_;clear hK;try simp only[pst0, ↓reduceIte,Nat.reduceEqDiff])
   |(clear hK;clear hK;clear hK;refine hK _ _ ?_;clear hK;try simp only[pst0, ↓reduceIte,Nat.reduceEqDiff])
   |(rw[if_pos];rotate_left 1;omega;simp(maxSteps:=2000000) only[undef,am0,am1,am2,am3,amb0,amb1,amb2,amb3,amb4,lwn,drn,callee,wantedB,isW,eff,pev,pst0,retPost,resAll,resP,resV,intP,mkV,putC,pbin,sbin,strsEq,peq,pint,pshift,pstr,pun,pconv,isShift,isConstB,app,subS,lay,rowsOf,lkV,keyKind,keyEq,mfind,mput,oInt,isZeroInt,forall_const,exists_eq_left',implies_true,IntKind.bits, ↓reduceIte,Nat.reduceEqDiff,Nat.reduceAdd,Nat.reduceSub,Nat.reduceMul,Nat.reduceLT,Nat.reduceLeDiff,Nat.reduceBEq,Int.reduceLE,Int.reduceLT,Int.reduceToNat,reduceCtorEq,Ty.all,e0]))
  refine owp_useQ (hc _) (by(try simp only[undef,am0,am1,am2,am3,amb0,amb1,amb2,amb3,amb4,lwn,drn,callee,wantedB,isW,eff,pev,pst0,retPost,resAll,resP,resV,intP,mkV,putC,pbin,sbin,strsEq,peq,pint,pshift,pstr,pun,pconv,isShift,isConstB,app,subS,lay,rowsOf,lkV,keyKind,keyEq,mfind,mput,oInt,isZeroInt,forall_const,exists_eq_left',implies_true,IntKind.bits, ↓reduceIte,Nat.reduceEqDiff,Nat.reduceAdd,Nat.reduceSub,Nat.reduceMul,Nat.reduceLT,Nat.reduceLeDiff,Nat.reduceBEq,Int.reduceLE,Int.reduceLT,Int.reduceToNat,reduceCtorEq,e0]);try rfl) ?_
  simp(maxSteps:=2000000) only[undef,am0,am1,am2,am3,amb0,amb1,amb2,amb3,amb4,lwn,drn,callee,wantedB,isW,eff,pev,pst0,retPost,resAll,resP,resV,intP,mkV,putC,pbin,sbin,strsEq,peq,pint,pshift,pstr,pun,pconv,isShift,isConstB,app,subS,lay,rowsOf,lkV,keyKind,keyEq,mfind,mput,oInt,isZeroInt,forall_const,exists_eq_left',implies_true,IntKind.bits, ↓reduceIte,Nat.reduceEqDiff,Nat.reduceAdd,Nat.reduceSub,Nat.reduceMul,Nat.reduceLT,Nat.reduceLeDiff,Nat.reduceBEq,Int.reduceLE,Int.reduceLT,Int.reduceToNat,reduceCtorEq,Ty.all,e0]
  repeat'(first
   |refine a_seq fun K hK=>?_
   |(refine a_block ?_)
   |((first|refine a_regionS ?_|refine a_region (fun K hK=>?_)|refine a_ret ?_);simp(maxSteps:=2000000) only[undef,am0,am1,am2,am3,amb0,amb1,amb2,amb3,amb4,lwn,drn,callee,wantedB,isW,eff,pev,pst0,retPost,resAll,resP,resV,intP,mkV,putC,pbin,sbin,strsEq,peq,pint,pshift,pstr,pun,pconv,isShift,isConstB,app,subS,lay,rowsOf,lkV,keyKind,keyEq,mfind,mput,oInt,isZeroInt,forall_const,exists_eq_left',implies_true,IntKind.bits, ↓reduceIte,Nat.reduceEqDiff,Nat.reduceAdd,Nat.reduceSub,Nat.reduceMul,Nat.reduceLT,Nat.reduceLeDiff,Nat.reduceBEq,Int.reduceLE,Int.reduceLT,Int.reduceToNat,reduceCtorEq,Ty.all,e0])
   |(refine a_skip ?_;try simp only[pst0, ↓reduceIte,Nat.reduceEqDiff])
   |(refine a_exit ?_;try simp only[pst0, ↓reduceIte,Nat.reduceEqDiff])
   |(refine a_cond _ (by(try simp(maxSteps:=2000000) only[undef,am0,am1,am2,am3,amb0,amb1,amb2,amb3,amb4,lwn,drn,callee,wantedB,isW,eff,pev,pst0,retPost,resAll,resP,resV,intP,mkV,putC,pbin,sbin,strsEq,peq,pint,pshift,pstr,pun,pconv,isShift,isConstB,app,subS,lay,rowsOf,lkV,keyKind,keyEq,mfind,mput,oInt,isZeroInt,forall_const,exists_eq_left',implies_true,IntKind.bits, ↓reduceIte,Nat.reduceEqDiff,Nat.reduceAdd,Nat.reduceSub,Nat.reduceMul,Nat.reduceLT,Nat.reduceLeDiff,Nat.reduceBEq,Int.reduceLE,Int.reduceLT,Int.reduceToNat,reduceCtorEq,Ty.all,e0]);rfl) (fun hb=>?_) (fun hb=>?_)<;>(try simp only[hb0,decide_eq_true_eq,decide_eq_false_iff_not,reduceCtorEq]at hb)<;>(try(exfalso;omega)))
   |(with_reducible refine ite_in (fun hb=>?_) (fun hb=>?_)<;>(try simp only[Decidable.not_not]at hb)<;>(try simp only[hb,if_true,if_false,not_false_eq_true,not_true_eq_false, ↓reduceIte])<;>(try simp only[hb0,decide_eq_true_eq,decide_eq_false_iff_not,reduceCtorEq]at hb)<;>(try(exfalso;omega)))
   |(refine hK _ _ ?_;clear hK;try simp only[pst0, ↓reduceIte,Nat.reduceEqDiff])
   |(clear hK;refine hK _ _ ?_;clear hK;try simp only[pst0, ↓reduceIte,Nat.reduceEqDiff])
   |(clear hK;clear hK;refine hK _ _ ?_;clear hK;try simp only[pst0, ↓reduceIte,Nat.reduceEqDiff])
   |(clear hK;clear hK;clear hK;refine hK _ _ ?_;clear hK;try simp only[pst0, ↓reduceIte,Nat.reduceEqDiff])
   |(rw[if_pos];rotate_left 1;omega;simp(maxSteps:=2000000) only[undef,am0,am1,am2,am3,amb0,amb1,amb2,amb3,amb4,lwn,drn,callee,wantedB,isW,eff,pev,pst0,retPost,resAll,resP,resV,intP,mkV,putC,pbin,sbin,strsEq,peq,pint,pshift,pstr,pun,pconv,isShift,isConstB,app,subS,lay,rowsOf,lkV,keyKind,keyEq,mfind,mput,oInt,isZeroInt,forall_const,exists_eq_left',implies_true,IntKind.bits, ↓reduceIte,Nat.reduceEqDiff,Nat.reduceAdd,Nat.reduceSub,Nat.reduceMul,Nat.reduceLT,Nat.reduceLeDiff,Nat.reduceBEq,Int.reduceLE,Int.reduceLT,Int.reduceToNat,reduceCtorEq,Ty.all,e0]))
  all_goals simp only[Bool.true_and]
theorem swithin11_c{x y:At}(hx:x.ok)(hy:y.ok)(h:Heap):PCall Tryz.prog 26 [.agg (atRow y),.cptr (atRow x)] h fun r h'=>r= .sc (.bool (x.same y))∧h'=h:=by
 have hc:=ssameAtom_c hx hy
 generalize x.same y=e at hc⊢
 simp only[atRow]at hc⊢
 refine pcall_body (ow:=fun _=>false) (wf:=fun _=>false) Ty.mixed Tryz.func26 rfl Ty.hb_26 (by rw[Tryz.ntmps26];simp) ?_
 rw[Tryz.ntmps26,Tryz.results26]
 repeat'(first
  |refine a_seq fun K hK=>?_
  |(refine a_block ?_)
  |((first|refine a_regionS ?_|refine a_region (fun K hK=>?_)|refine a_ret ?_);simp(maxSteps:=2000000) only[undef,am0,am1,am2,am3,amb0,amb1,amb2,amb3,amb4,lwn,drn,callee,wantedB,isW,eff,pev,pst0,retPost,resAll,resP,resV,intP,mkV,putC,pbin,sbin,strsEq,peq,pint,pshift,pstr,pun,pconv,isShift,isConstB,app,subS,lay,rowsOf,lkV,keyKind,keyEq,mfind,mput,oInt,isZeroInt,forall_const,exists_eq_left',implies_true,IntKind.bits, ↓reduceIte,Nat.reduceEqDiff,Nat.reduceAdd,Nat.reduceSub,Nat.reduceMul,Nat.reduceLT,Nat.reduceLeDiff,Nat.reduceBEq,Int.reduceLE,Int.reduceLT,Int.reduceToNat,reduceCtorEq,Ty.all])
  |(refine a_skip ?_;try simp only[pst0, ↓reduceIte,Nat.reduceEqDiff])
  |(refine a_exit ?_;try simp only[pst0, ↓reduceIte,Nat.reduceEqDiff])
  |(refine a_cond _ (by(try simp(maxSteps:=2000000) only[undef,am0,am1,am2,am3,amb0,amb1,amb2,amb3,amb4,lwn,drn,callee,wantedB,isW,eff,pev,pst0,retPost,resAll,resP,resV,intP,mkV,putC,pbin,sbin,strsEq,peq,pint,pshift,pstr,pun,pconv,isShift,isConstB,app,subS,lay,rowsOf,lkV,keyKind,keyEq,mfind,mput,oInt,isZeroInt,forall_const,exists_eq_left',implies_true,IntKind.bits, ↓reduceIte,Nat.reduceEqDiff,Nat.reduceAdd,Nat.reduceSub,Nat.reduceMul,Nat.reduceLT,Nat.reduceLeDiff,Nat.reduceBEq,Int.reduceLE,Int.reduceLT,Int.reduceToNat,reduceCtorEq,Ty.all]);rfl) (fun hb=>?_) (fun hb=>?_)<;>(try simp only[hb0,decide_eq_true_eq,decide_eq_false_iff_not,reduceCtorEq]at hb)<;>(try(exfalso;omega)))
  |(with_reducible refine ite_in (fun hb=>?_) (fun hb=>?_)<;>(try simp only[Decidable.not_not]at hb)<;>(try simp only[hb,if_true,if_false,not_false_eq_true,not_true_eq_false, ↓reduceIte])<;>(try simp only[hb0,decide_eq_true_eq,decide_eq_false_iff_not,reduceCtorEq]at hb)<;>(try(exfalso;omega)))
  |(refine hK _ _ ?_;clear hK;try simp only[pst0, ↓reduceIte,Nat.reduceEqDiff])
  |(clear hK;refine hK _ _ ?_;clear hK;try simp only[pst0, ↓reduceIte,Nat.reduceEqDiff])
  |(clear hK;clear hK;refine hK _ _ ?_;clear hK;try simp only[pst0, ↓reduceIte,Nat.reduceEqDiff])
  |(clear hK;clear hK;clear hK;refine hK _ _ ?_;clear hK;try simp only[pst0, ↓reduceIte,Nat.reduceEqDiff])
  |(rw[if_pos];rotate_left 1;omega;simp(maxSteps:=2000000) only[undef,am0,am1,am2,am3,amb0,amb1,amb2,amb3,amb4,lwn,drn,callee,wantedB,isW,eff,pev,pst0,retPost,resAll,resP,resV,intP,mkV,putC,pbin,sbin,strsEq,peq,pint,pshift,pstr,pun,pconv,isShift,isConstB,app,subS,lay,rowsOf,lkV,keyKind,keyEq,mfind,mput,oInt,isZeroInt,forall_const,exists_eq_left',implies_true,IntKind.bits, ↓reduceIte,Nat.reduceEqDiff,Nat.reduceAdd,Nat.reduceSub,Nat.reduceMul,Nat.reduceLT,Nat.reduceLeDiff,Nat.reduceBEq,Int.reduceLE,Int.reduceLT,Int.reduceToNat,reduceCtorEq,Ty.all]))
 refine owp_useQ (hc _) (by(try simp only[undef,am0,am1,am2,am3,amb0,amb1,amb2,amb3,amb4,lwn,drn,callee,wantedB,isW,eff,pev,pst0,retPost,resAll,resP,resV,intP,mkV,putC,pbin,sbin,strsEq,peq,pint,pshift,pstr,pun,pconv,isShift,isConstB,app,subS,lay,rowsOf,lkV,keyKind,keyEq,mfind,mput,oInt,isZeroInt,forall_const,exists_eq_left',implies_true,IntKind.bits, ↓reduceIte,Nat.reduceEqDiff,Nat.reduceAdd,Nat.reduceSub,Nat.reduceMul,Nat.reduceLT,Nat.reduceLeDiff,Nat.reduceBEq,Int.reduceLE,Int.reduceLT,Int.reduceToNat,reduceCtorEq,]);try rfl) ?_
 simp(maxSteps:=2000000) only[undef,am0,am1,am2,am3,amb0,amb1,amb2,amb3,amb4,lwn,drn,callee,wantedB,isW,eff,pev,pst0,retPost,resAll,resP,resV,intP,mkV,putC,pbin,sbin,strsEq,peq,pint,pshift,pstr,pun,pconv,isShift,isConstB,app,subS,lay,rowsOf,lkV,keyKind,keyEq,mfind,mput,oInt,isZeroInt,forall_const,exists_eq_left',implies_true,IntKind.bits, ↓reduceIte,Nat.reduceEqDiff,Nat.reduceAdd,Nat.reduceSub,Nat.reduceMul,Nat.reduceLT,Nat.reduceLeDiff,Nat.reduceBEq,Int.reduceLE,Int.reduceLT,Int.reduceToNat,reduceCtorEq,Ty.all,]
 repeat'(first
  |refine a_seq fun K hK=>?_
  |(refine a_block ?_)
  |((first|refine a_regionS ?_|refine a_region (fun K hK=>?_)|refine a_ret ?_);simp(maxSteps:=2000000) only[undef,am0,am1,am2,am3,amb0,amb1,amb2,amb3,amb4,lwn,drn,callee,wantedB,isW,eff,pev,pst0,retPost,resAll,resP,resV,intP,mkV,putC,pbin,sbin,strsEq,peq,pint,pshift,pstr,pun,pconv,isShift,isConstB,app,subS,lay,rowsOf,lkV,keyKind,keyEq,mfind,mput,oInt,isZeroInt,forall_const,exists_eq_left',implies_true,IntKind.bits, ↓reduceIte,Nat.reduceEqDiff,Nat.reduceAdd,Nat.reduceSub,Nat.reduceMul,Nat.reduceLT,Nat.reduceLeDiff,Nat.reduceBEq,Int.reduceLE,Int.reduceLT,Int.reduceToNat,reduceCtorEq,Ty.all])
  |(refine a_skip ?_;try simp only[pst0, ↓reduceIte,Nat.reduceEqDiff])
  |(refine a_exit ?_;try simp only[pst0, ↓reduceIte,Nat.reduceEqDiff])
  |(refine a_cond _ (by(try simp(maxSteps:=2000000) only[undef,am0,am1,am2,am3,amb0,amb1,amb2,amb3,amb4,lwn,drn,callee,wantedB,isW,eff,pev,pst0,retPost,resAll,resP,resV,intP,mkV,putC,pbin,sbin,strsEq,peq,pint,pshift,pstr,pun,pconv,isShift,isConstB,app,subS,lay,rowsOf,lkV,keyKind,keyEq,mfind,mput,oInt,isZeroInt,forall_const,exists_eq_left',implies_true,IntKind.bits, ↓reduceIte,Nat.reduceEqDiff,Nat.reduceAdd,Nat.reduceSub,Nat.reduceMul,Nat.reduceLT,Nat.reduceLeDiff,Nat.reduceBEq,Int.reduceLE,Int.reduceLT,Int.reduceToNat,reduceCtorEq,Ty.all]);rfl) (fun hb=>?_) (fun hb=>?_)<;>(try simp only[hb0,decide_eq_true_eq,decide_eq_false_iff_not,reduceCtorEq]at hb)<;>(try(exfalso;omega)))
  |(with_reducible refine ite_in (fun hb=>?_) (fun hb=>?_)<;>(try simp only[Decidable.not_not]at hb)<;>(try simp only[hb,if_true,if_false,not_false_eq_true,not_true_eq_false, ↓reduceIte])<;>(try simp only[hb0,decide_eq_true_eq,decide_eq_false_iff_not,reduceCtorEq]at hb)<;>(try(exfalso;omega)))
  |(refine hK _ _ ?_;clear hK;try simp only[pst0, ↓reduceIte,Nat.reduceEqDiff])
  |(clear hK;refine hK _ _ ?_;clear hK;try simp only[pst0, ↓reduceIte,Nat.reduceEqDiff])
  |(clear hK;clear hK;refine hK _ _ ?_;clear hK;try simp only[pst0, ↓reduceIte,Nat.reduceEqDiff])
  |(clear hK;clear hK;clear hK;refine hK _ _ ?_;clear hK;try simp only[pst0, ↓reduceIte,Nat.reduceEqDiff])
  |(rw[if_pos];rotate_left 1;omega;simp(maxSteps:=2000000) only[undef,am0,am1,am2,am3,amb0,amb1,amb2,amb3,amb4,lwn,drn,callee,wantedB,isW,eff,pev,pst0,retPost,resAll,resP,resV,intP,mkV,putC,pbin,sbin,strsEq,peq,pint,pshift,pstr,pun,pconv,isShift,isConstB,app,subS,lay,rowsOf,lkV,keyKind,keyEq,mfind,mput,oInt,isZeroInt,forall_const,exists_eq_left',implies_true,IntKind.bits, ↓reduceIte,Nat.reduceEqDiff,Nat.reduceAdd,Nat.reduceSub,Nat.reduceMul,Nat.reduceLT,Nat.reduceLeDiff,Nat.reduceBEq,Int.reduceLE,Int.reduceLT,Int.reduceToNat,reduceCtorEq,Ty.all]))
theorem swithin1_c{x:At}{m:List At}(hx:x.ok)(hm:m.length≤bigN)(ho: ∀ a∈m,a.ok)(h:Heap):PCall Tryz.prog 25 [.agg (atRow x),.cptr [.imm 2 (atRows m)]] h fun r h'=>r= .sc (.bool (!(m.any fun y=>x.same y)))∧h'=h:=by
 have hc:=fun h:Heap=>anyAt_c (h:=h) (g:=26) (cp:= .cptr (atRow x)) (l:=m) (q:=fun y=>x.same y) hm (fun s hs=>swithin11_c hx (ho s hs) h)
 generalize(m.any fun y=>x.same y)=e at hc⊢
 generalize atRows m=R at hc⊢
 simp only[atRow]at hc⊢
 refine pcall_body (ow:=fun _=>false) (wf:=fun _=>false) Ty.mixed Tryz.func25 rfl Ty.hb_25 (by rw[Tryz.ntmps25];simp) ?_
 rw[Tryz.ntmps25,Tryz.results25]
 repeat'(first
  |refine a_seq fun K hK=>?_
  |(refine a_block ?_)
  |((first|refine a_regionS ?_|refine a_region (fun K hK=>?_)|refine a_ret ?_);simp(maxSteps:=2000000) only[undef,am0,am1,am2,am3,amb0,amb1,amb2,amb3,amb4,lwn,drn,callee,wantedB,isW,eff,pev,pst0,retPost,resAll,resP,resV,intP,mkV,putC,pbin,sbin,strsEq,peq,pint,pshift,pstr,pun,pconv,isShift,isConstB,app,subS,lay,rowsOf,lkV,keyKind,keyEq,mfind,mput,oInt,isZeroInt,forall_const,exists_eq_left',implies_true,IntKind.bits, ↓reduceIte,Nat.reduceEqDiff,Nat.reduceAdd,Nat.reduceSub,Nat.reduceMul,Nat.reduceLT,Nat.reduceLeDiff,Nat.reduceBEq,Int.reduceLE,Int.reduceLT,Int.reduceToNat,reduceCtorEq,Ty.all])
  |(refine a_skip ?_;try simp only[pst0, ↓reduceIte,Nat.reduceEqDiff])
  |(refine a_exit ?_;try simp only[pst0, ↓reduceIte,Nat.reduceEqDiff])
  |(refine a_cond _ (by(try simp(maxSteps:=2000000) only[undef,am0,am1,am2,am3,amb0,amb1,amb2,amb3,amb4,lwn,drn,callee,wantedB,isW,eff,pev,pst0,retPost,resAll,resP,resV,intP,mkV,putC,pbin,sbin,strsEq,peq,pint,pshift,pstr,pun,pconv,isShift,isConstB,app,subS,lay,rowsOf,lkV,keyKind,keyEq,mfind,mput,oInt,isZeroInt,forall_const,exists_eq_left',implies_true,IntKind.bits, ↓reduceIte,Nat.reduceEqDiff,Nat.reduceAdd,Nat.reduceSub,Nat.reduceMul,Nat.reduceLT,Nat.reduceLeDiff,Nat.reduceBEq,Int.reduceLE,Int.reduceLT,Int.reduceToNat,reduceCtorEq,Ty.all]);rfl) (fun hb=>?_) (fun hb=>?_)<;>(try simp only[hb0,decide_eq_true_eq,decide_eq_false_iff_not,reduceCtorEq]at hb)<;>(try(exfalso;omega)))
  |(with_reducible refine ite_in (fun hb=>?_) (fun hb=>?_)<;>(try simp only[Decidable.not_not]at hb)<;>(try simp only[hb,if_true,if_false,not_false_eq_true,not_true_eq_false, ↓reduceIte])<;>(try simp only[hb0,decide_eq_true_eq,decide_eq_false_iff_not,reduceCtorEq]at hb)<;>(try(exfalso;omega)))
  |(refine hK _ _ ?_;clear hK;try simp only[pst0, ↓reduceIte,Nat.reduceEqDiff])
  |(clear hK;refine hK _ _ ?_;clear hK;try simp only[pst0, ↓reduceIte,Nat.reduceEqDiff])
  |(clear hK;clear hK;refine hK _ _ ?_;clear hK;try simp only[pst0, ↓reduceIte,Nat.reduceEqDiff])
  |(clear hK;clear hK;clear hK;refine hK _ _ ?_;clear hK;try simp only[pst0, ↓reduceIte,Nat.reduceEqDiff])
  |(rw[if_pos];rotate_left 1;omega;simp(maxSteps:=2000000) only[undef,am0,am1,am2,am3,amb0,amb1,amb2,amb3,amb4,lwn,drn,callee,wantedB,isW,eff,pev,pst0,retPost,resAll,resP,resV,intP,mkV,putC,pbin,sbin,strsEq,peq,pint,pshift,pstr,pun,pconv,isShift,isConstB,app,subS,lay,rowsOf,lkV,keyKind,keyEq,mfind,mput,oInt,isZeroInt,forall_const,exists_eq_left',implies_true,IntKind.bits, ↓reduceIte,Nat.reduceEqDiff,Nat.reduceAdd,Nat.reduceSub,Nat.reduceMul,Nat.reduceLT,Nat.reduceLeDiff,Nat.reduceBEq,Int.reduceLE,Int.reduceLT,Int.reduceToNat,reduceCtorEq,Ty.all]))
 refine owp_useQ (hc _) (by(try simp only[undef,am0,am1,am2,am3,amb0,amb1,amb2,amb3,amb4,lwn,drn,callee,wantedB,isW,eff,pev,pst0,retPost,resAll,resP,resV,intP,mkV,putC,pbin,sbin,strsEq,peq,pint,pshift,pstr,pun,pconv,isShift,isConstB,app,subS,lay,rowsOf,lkV,keyKind,keyEq,mfind,mput,oInt,isZeroInt,forall_const,exists_eq_left',implies_true,IntKind.bits, ↓reduceIte,Nat.reduceEqDiff,Nat.reduceAdd,Nat.reduceSub,Nat.reduceMul,Nat.reduceLT,Nat.reduceLeDiff,Nat.reduceBEq,Int.reduceLE,Int.reduceLT,Int.reduceToNat,reduceCtorEq,]);try rfl) ?_
 simp(maxSteps:=2000000) only[undef,am0,am1,am2,am3,amb0,amb1,amb2,amb3,amb4,lwn,drn,callee,wantedB,isW,eff,pev,pst0,retPost,resAll,resP,resV,intP,mkV,putC,pbin,sbin,strsEq,peq,pint,pshift,pstr,pun,pconv,isShift,isConstB,app,subS,lay,rowsOf,lkV,keyKind,keyEq,mfind,mput,oInt,isZeroInt,forall_const,exists_eq_left',implies_true,IntKind.bits, ↓reduceIte,Nat.reduceEqDiff,Nat.reduceAdd,Nat.reduceSub,Nat.reduceMul,Nat.reduceLT,Nat.reduceLeDiff,Nat.reduceBEq,Int.reduceLE,Int.reduceLT,Int.reduceToNat,reduceCtorEq,Ty.all,]
 repeat'(first
  |refine a_seq fun K hK=>?_
  |(refine a_block ?_)
  |((first|refine a_regionS ?_|refine a_region (fun K hK=>?_)|refine a_ret ?_);simp(maxSteps:=2000000) only[undef,am0,am1,am2,am3,amb0,amb1,amb2,amb3,amb4,lwn,drn,callee,wantedB,isW,eff,pev,pst0,retPost,resAll,resP,resV,intP,mkV,putC,pbin,sbin,strsEq,peq,pint,pshift,pstr,pun,pconv,isShift,isConstB,app,subS,lay,rowsOf,lkV,keyKind,keyEq,mfind,mput,oInt,isZeroInt,forall_const,exists_eq_left',implies_true,IntKind.bits, ↓reduceIte,Nat.reduceEqDiff,Nat.reduceAdd,Nat.reduceSub,Nat.reduceMul,Nat.reduceLT,Nat.reduceLeDiff,Nat.reduceBEq,Int.reduceLE,Int.reduceLT,Int.reduceToNat,reduceCtorEq,Ty.all])
  |(refine a_skip ?_;try simp only[pst0, ↓reduceIte,Nat.reduceEqDiff])
  |(refine a_exit ?_;try simp only[pst0, ↓reduceIte,Nat.reduceEqDiff])
  |(refine a_cond _ (by(try simp(maxSteps:=2000000) only[undef,am0,am1,am2,am3,amb0,amb1,amb2,amb3,amb4,lwn,drn,callee,wantedB,isW,eff,pev,pst0,retPost,resAll,resP,resV,intP,mkV,putC,pbin,sbin,strsEq,peq,pint,pshift,pstr,pun,pconv,isShift,isConstB,app,subS,lay,rowsOf,lkV,keyKind,keyEq,mfind,mput,oInt,isZeroInt,forall_const,exists_eq_left',implies_true,IntKind.bits, ↓reduceIte,Nat.reduceEqDiff,Nat.reduceAdd,Nat.reduceSub,Nat.reduceMul,Nat.reduceLT,Nat.reduceLeDiff,Nat.reduceBEq,Int.reduceLE,Int.reduceLT,Int.reduceToNat,reduceCtorEq,Ty.all]);rfl) (fun hb=>?_) (fun hb=>?_)<;>(try simp only[hb0,decide_eq_true_eq,decide_eq_false_iff_not,reduceCtorEq]at hb)<;>(try(exfalso;omega)))
  |(with_reducible refine ite_in (fun hb=>?_) (fun hb=>?_)<;>(try simp only[Decidable.not_not]at hb)<;>(try simp only[hb,if_true,if_false,not_false_eq_true,not_true_eq_false, ↓reduceIte])<;>(try simp only[hb0,decide_eq_true_eq,decide_eq_false_iff_not,reduceCtorEq]at hb)<;>(try(exfalso;omega)))
  |(refine hK _ _ ?_;clear hK;try simp only[pst0, ↓reduceIte,Nat.reduceEqDiff])
  |(clear hK;refine hK _ _ ?_;clear hK;try simp only[pst0, ↓reduceIte,Nat.reduceEqDiff])
  |(clear hK;clear hK;refine hK _ _ ?_;clear hK;try simp only[pst0, ↓reduceIte,Nat.reduceEqDiff])
  |(clear hK;clear hK;clear hK;refine hK _ _ ?_;clear hK;try simp only[pst0, ↓reduceIte,Nat.reduceEqDiff])
  |(rw[if_pos];rotate_left 1;omega;simp(maxSteps:=2000000) only[undef,am0,am1,am2,am3,amb0,amb1,amb2,amb3,amb4,lwn,drn,callee,wantedB,isW,eff,pev,pst0,retPost,resAll,resP,resV,intP,mkV,putC,pbin,sbin,strsEq,peq,pint,pshift,pstr,pun,pconv,isShift,isConstB,app,subS,lay,rowsOf,lkV,keyKind,keyEq,mfind,mput,oInt,isZeroInt,forall_const,exists_eq_left',implies_true,IntKind.bits, ↓reduceIte,Nat.reduceEqDiff,Nat.reduceAdd,Nat.reduceSub,Nat.reduceMul,Nat.reduceLT,Nat.reduceLeDiff,Nat.reduceBEq,Int.reduceLE,Int.reduceLT,Int.reduceToNat,reduceCtorEq,Ty.all]))
theorem swithin_c{l m:List At}(hl:l.length≤bigN)(hm:m.length≤bigN)(hol: ∀ a∈l,a.ok)(hom: ∀ a∈m,a.ok)(h:Heap):PCall Tryz.prog 14 [.imm 2 (atRows l),.imm 2 (atRows m)] h fun r h'=>r= .sc (.bool (wA l m))∧h'=h:=by
 have hc:=fun h:Heap=>anyAt_c (h:=h) (g:=25) (cp:= .cptr [.imm 2 (atRows m)]) (l:=l) (q:=fun x=>!(m.any fun y=>x.same y)) hl (fun s hs=>swithin1_c (hol s hs) hm hom h)
 unfold wA
 generalize(l.any fun x=>!(m.any fun y=>x.same y))=e at hc⊢
 generalize atRows m=R at hc⊢
 generalize atRows l=R2 at hc⊢
 refine pcall_body (ow:=fun _=>false) (wf:=fun _=>false) Ty.mixed Tryz.func14 rfl Ty.hb_14 (by rw[Tryz.ntmps14];simp) ?_
 rw[Tryz.ntmps14,Tryz.results14]
 repeat'(first
  |refine a_seq fun K hK=>?_
  |(refine a_block ?_)
  |((first|refine a_regionS ?_|refine a_region (fun K hK=>?_)|refine a_ret ?_);simp(maxSteps:=2000000) only[undef,am0,am1,am2,am3,amb0,amb1,amb2,amb3,amb4,lwn,drn,callee,wantedB,isW,eff,pev,pst0,retPost,resAll,resP,resV,intP,mkV,putC,pbin,sbin,strsEq,peq,pint,pshift,pstr,pun,pconv,isShift,isConstB,app,subS,lay,rowsOf,lkV,keyKind,keyEq,mfind,mput,oInt,isZeroInt,forall_const,exists_eq_left',implies_true,IntKind.bits, ↓reduceIte,Nat.reduceEqDiff,Nat.reduceAdd,Nat.reduceSub,Nat.reduceMul,Nat.reduceLT,Nat.reduceLeDiff,Nat.reduceBEq,Int.reduceLE,Int.reduceLT,Int.reduceToNat,reduceCtorEq,Ty.all])
  |(refine a_skip ?_;try simp only[pst0, ↓reduceIte,Nat.reduceEqDiff])
  |(refine a_exit ?_;try simp only[pst0, ↓reduceIte,Nat.reduceEqDiff])
  |(refine a_cond _ (by(try simp(maxSteps:=2000000) only[undef,am0,am1,am2,am3,amb0,amb1,amb2,amb3,amb4,lwn,drn,callee,wantedB,isW,eff,pev,pst0,retPost,resAll,resP,resV,intP,mkV,putC,pbin,sbin,strsEq,peq,pint,pshift,pstr,pun,pconv,isShift,isConstB,app,subS,lay,rowsOf,lkV,keyKind,keyEq,mfind,mput,oInt,isZeroInt,forall_const,exists_eq_left',implies_true,IntKind.bits, ↓reduceIte,Nat.reduceEqDiff,Nat.reduceAdd,Nat.reduceSub,Nat.reduceMul,Nat.reduceLT,Nat.reduceLeDiff,Nat.reduceBEq,Int.reduceLE,Int.reduceLT,Int.reduceToNat,reduceCtorEq,Ty.all]);rfl) (fun hb=>?_) (fun hb=>?_)<;>(try simp only[hb0,decide_eq_true_eq,decide_eq_false_iff_not,reduceCtorEq]at hb)<;>(try(exfalso;omega)))
  |(with_reducible refine ite_in (fun hb=>?_) (fun hb=>?_)<;>(try simp only[Decidable.not_not]at hb)<;>(try simp only[hb,if_true,if_false,not_false_eq_true,not_true_eq_false, ↓reduceIte])<;>(try simp only[hb0,decide_eq_true_eq,decide_eq_false_iff_not,reduceCtorEq]at hb)<;>(try(exfalso;omega)))
  |(refine hK _ _ ?_;clear hK;try simp only[pst0, ↓reduceIte,Nat.reduceEqDiff])
  |(clear hK;refine hK _ _ ?_;clear hK;try simp only[pst0, ↓reduceIte,Nat.reduceEqDiff])
  |(clear hK;clear hK;refine hK _ _ ?_;clear hK;try simp only[pst0, ↓reduceIte,Nat.reduceEqDiff])
  |(clear hK;clear hK;clear hK;refine hK _ _ ?_;clear hK;try simp only[pst0, ↓reduceIte,Nat.reduceEqDiff])
  |(rw[if_pos];rotate_left 1;omega;simp(maxSteps:=2000000) only[undef,am0,am1,am2,am3,amb0,amb1,amb2,amb3,amb4,lwn,drn,callee,wantedB,isW,eff,pev,pst0,retPost,resAll,resP,resV,intP,mkV,putC,pbin,sbin,strsEq,peq,pint,pshift,pstr,pun,pconv,isShift,isConstB,app,subS,lay,rowsOf,lkV,keyKind,keyEq,mfind,mput,oInt,isZeroInt,forall_const,exists_eq_left',implies_true,IntKind.bits, ↓reduceIte,Nat.reduceEqDiff,Nat.reduceAdd,Nat.reduceSub,Nat.reduceMul,Nat.reduceLT,Nat.reduceLeDiff,Nat.reduceBEq,Int.reduceLE,Int.reduceLT,Int.reduceToNat,reduceCtorEq,Ty.all]))
 refine owp_useQ (hc _) (by(try simp only[undef,am0,am1,am2,am3,amb0,amb1,amb2,amb3,amb4,lwn,drn,callee,wantedB,isW,eff,pev,pst0,retPost,resAll,resP,resV,intP,mkV,putC,pbin,sbin,strsEq,peq,pint,pshift,pstr,pun,pconv,isShift,isConstB,app,subS,lay,rowsOf,lkV,keyKind,keyEq,mfind,mput,oInt,isZeroInt,forall_const,exists_eq_left',implies_true,IntKind.bits, ↓reduceIte,Nat.reduceEqDiff,Nat.reduceAdd,Nat.reduceSub,Nat.reduceMul,Nat.reduceLT,Nat.reduceLeDiff,Nat.reduceBEq,Int.reduceLE,Int.reduceLT,Int.reduceToNat,reduceCtorEq,]);try rfl) ?_
 simp(maxSteps:=2000000) only[undef,am0,am1,am2,am3,amb0,amb1,amb2,amb3,amb4,lwn,drn,callee,wantedB,isW,eff,pev,pst0,retPost,resAll,resP,resV,intP,mkV,putC,pbin,sbin,strsEq,peq,pint,pshift,pstr,pun,pconv,isShift,isConstB,app,subS,lay,rowsOf,lkV,keyKind,keyEq,mfind,mput,oInt,isZeroInt,forall_const,exists_eq_left',implies_true,IntKind.bits, ↓reduceIte,Nat.reduceEqDiff,Nat.reduceAdd,Nat.reduceSub,Nat.reduceMul,Nat.reduceLT,Nat.reduceLeDiff,Nat.reduceBEq,Int.reduceLE,Int.reduceLT,Int.reduceToNat,reduceCtorEq,Ty.all,]
 repeat'(first
  |refine a_seq fun K hK=>?_
  |(refine a_block ?_)
  |((first|refine a_regionS ?_|refine a_region (fun K hK=>?_)|refine a_ret ?_);simp(maxSteps:=2000000) only[undef,am0,am1,am2,am3,amb0,amb1,amb2,amb3,amb4,lwn,drn,callee,wantedB,isW,eff,pev,pst0,retPost,resAll,resP,resV,intP,mkV,putC,pbin,sbin,strsEq,peq,pint,pshift,pstr,pun,pconv,isShift,isConstB,app,subS,lay,rowsOf,lkV,keyKind,keyEq,mfind,mput,oInt,isZeroInt,forall_const,exists_eq_left',implies_true,IntKind.bits, ↓reduceIte,Nat.reduceEqDiff,Nat.reduceAdd,Nat.reduceSub,Nat.reduceMul,Nat.reduceLT,Nat.reduceLeDiff,Nat.reduceBEq,Int.reduceLE,Int.reduceLT,Int.reduceToNat,reduceCtorEq,Ty.all])
  |(refine a_skip ?_;try simp only[pst0, ↓reduceIte,Nat.reduceEqDiff])
  |(refine a_exit ?_;try simp only[pst0, ↓reduceIte,Nat.reduceEqDiff])
  |(refine a_cond _ (by(try simp(maxSteps:=2000000) only[undef,am0,am1,am2,am3,amb0,amb1,amb2,amb3,amb4,lwn,drn,callee,wantedB,isW,eff,pev,pst0,retPost,resAll,resP,resV,intP,mkV,putC,pbin,sbin,strsEq,peq,pint,pshift,pstr,pun,pconv,isShift,isConstB,app,subS,lay,rowsOf,lkV,keyKind,keyEq,mfind,mput,oInt,isZeroInt,forall_const,exists_eq_left',implies_true,IntKind.bits, ↓reduceIte,Nat.reduceEqDiff,Nat.reduceAdd,Nat.reduceSub,Nat.reduceMul,Nat.reduceLT,Nat.reduceLeDiff,Nat.reduceBEq,Int.reduceLE,Int.reduceLT,Int.reduceToNat,reduceCtorEq,Ty.all]);rfl) (fun hb=>?_) (fun hb=>?_)<;>(try simp only[hb0,decide_eq_true_eq,decide_eq_false_iff_not,reduceCtorEq]at hb)<;>(try(exfalso;omega)))
  |(with_reducible refine ite_in (fun hb=>?_) (fun hb=>?_)<;>(try simp only[Decidable.not_not]at hb)<;>(try simp only[hb,if_true,if_false,not_false_eq_true,not_true_eq_false, ↓reduceIte])<;>(try simp only[hb0,decide_eq_true_eq,decide_eq_false_iff_not,reduceCtorEq]at hb)<;>(try(exfalso;omega)))
  |(refine hK _ _ ?_;clear hK;try simp only[pst0, ↓reduceIte,Nat.reduceEqDiff])
  |(clear hK;refine hK _ _ ?_;clear hK;try simp only[pst0, ↓reduceIte,Nat.reduceEqDiff])
  |(clear hK;clear hK;refine hK _ _ ?_;clear hK;try simp only[pst0, ↓reduceIte,Nat.reduceEqDiff])
  |(clear hK;clear hK;clear hK;refine hK _ _ ?_;clear hK;try simp only[pst0, ↓reduceIte,Nat.reduceEqDiff])
  |(rw[if_pos];rotate_left 1;omega;simp(maxSteps:=2000000) only[undef,am0,am1,am2,am3,amb0,amb1,amb2,amb3,amb4,lwn,drn,callee,wantedB,isW,eff,pev,pst0,retPost,resAll,resP,resV,intP,mkV,putC,pbin,sbin,strsEq,peq,pint,pshift,pstr,pun,pconv,isShift,isConstB,app,subS,lay,rowsOf,lkV,keyKind,keyEq,mfind,mput,oInt,isZeroInt,forall_const,exists_eq_left',implies_true,IntKind.bits, ↓reduceIte,Nat.reduceEqDiff,Nat.reduceAdd,Nat.reduceSub,Nat.reduceMul,Nat.reduceLT,Nat.reduceLeDiff,Nat.reduceBEq,Int.reduceLE,Int.reduceLT,Int.reduceToNat,reduceCtorEq,Ty.all]))
theorem swithinV11_c{x y:Vl}(hx:x.okS)(hy:y.okS)(h:Heap):PCall Tryz.prog 30 [.agg (vlRow y),.cptr (vlRow x)] h fun r h'=>r= .sc (.bool (x.same y))∧h'=h:=by
 have hc:=ssameAtom_c (a:=x.at_) (b:=y.at_) hx hy
 unfold Vl.same
 generalize x.at_.same y.at_=e at hc⊢
 simp only[atRow]at hc
 simp only[vlRow]
 cases e0:(x.n==y.n)with
 |false=>
  refine pcall_body (ow:=fun _=>false) (wf:=fun _=>false) Ty.mixed Tryz.func30 rfl Ty.hb_30 (by rw[Tryz.ntmps30];simp) ?_
  rw[Tryz.ntmps30,Tryz.results30]
  repeat'(first
   |refine a_seq fun K hK=>?_
   |(refine a_block ?_)
   |((first|refine a_regionS ?_|refine a_region (fun K hK=>?_)|refine a_ret ?_);simp(maxSteps:=2000000) only[undef,am0,am1,am2,am3,amb0,amb1,amb2,amb3,amb4,lwn,drn,callee,wantedB,isW,eff,pev,pst0,retPost,resAll,resP,resV,intP,mkV,putC,pbin,sbin,strsEq,peq,pint,pshift,pstr,pun,pconv,isShift,isConstB,app,subS,lay,rowsOf,lkV,keyKind,keyEq,mfind,mput,oInt,isZeroInt,forall_const,exists_eq_left',implies_true,IntKind.bits, ↓reduceIte,Nat.reduceEqDiff,Nat.reduceAdd,Nat.reduceSub,Nat.reduceMul,Nat.reduceLT,Nat.reduceLeDiff,Nat.reduceBEq,Int.reduceLE,Int.reduceLT,Int.reduceToNat,reduceCtorEq,Ty.all,e0])
   |(refine a_skip ?_;try simp only[pst0, ↓reduceIte,Nat.reduceEqDiff])
   |(refine a_exit ?_;try simp only[pst0, ↓reduceIte,Nat.reduceEqDiff])
   |(refine a_cond _ (by(try simp(maxSteps:=2000000) only[undef,am0,am1,am2,am3,amb0,amb1,amb2,amb3,amb4,lwn,drn,callee,wantedB,isW,eff,pev,pst0,retPost,resAll,resP,resV,intP,mkV,putC,pbin,sbin,strsEq,peq,pint,pshift,pstr,pun,pconv,isShift,isConstB,app,subS,lay,rowsOf,lkV,keyKind,keyEq,mfind,mput,oInt,isZeroInt,forall_const,exists_eq_left',implies_true,IntKind.bits, ↓reduceIte,Nat.reduceEqDiff,Nat.reduceAdd,Nat.reduceSub,Nat.reduceMul,Nat.reduceLT,Nat.reduceLeDiff,Nat.reduceBEq,Int.reduceLE,Int.reduceLT,Int.reduceToNat,reduceCtorEq,Ty.all,e0]);rfl) (fun hb=>?_) (fun hb=>?_)<;>(try simp only[hb0,decide_eq_true_eq,decide_eq_false_iff_not,reduceCtorEq]at hb)<;>(try(exfalso;omega)))
   |(with_reducible refine ite_in (fun hb=>?_) (fun hb=>?_)<;>(try simp only[Decidable.not_not]at hb)<;>(try simp only[hb,if_true,if_false,not_false_eq_true,not_true_eq_false, ↓reduceIte])<;>(try simp only[hb0,decide_eq_true_eq,decide_eq_false_iff_not,reduceCtorEq]at hb)<;>(try(exfalso;omega)))
   |(refine hK _ _ ?_;clear hK;try simp only[pst0, ↓reduceIte,Nat.reduceEqDiff])
   |(clear hK;refine hK _ _ ?_;clear hK;try simp only[pst0, ↓reduceIte,Nat.reduceEqDiff])
   |(clear hK;clear hK;refine hK _ _ ?_;clear hK;try simp only[pst0, ↓reduceIte,Nat.reduceEqDiff])
   |(clear hK;clear hK;clear hK;refine hK _ _ ?_;clear hK;try simp only[pst0, ↓reduceIte,Nat.reduceEqDiff])
   |(rw[if_pos];rotate_left 1;omega;simp(maxSteps:=2000000) only[undef,am0,am1,am2,am3,amb0,amb1,amb2,amb3,amb4,lwn,drn,callee,wantedB,isW,eff,pev,pst0,retPost,resAll,resP,resV,intP,mkV,putC,pbin,sbin,strsEq,peq,pint,pshift,pstr,pun,pconv,isShift,isConstB,app,subS,lay,rowsOf,lkV,keyKind,keyEq,mfind,mput,oInt,isZeroInt,forall_const,exists_eq_left',implies_true,IntKind.bits, ↓reduceIte,Nat.reduceEqDiff,Nat.reduceAdd,Nat.reduceSub,Nat.reduceMul,Nat.reduceLT,Nat.reduceLeDiff,Nat.reduceBEq,Int.reduceLE,Int.reduceLT,Int.reduceToNat,reduceCtorEq,Ty.all,e0]))
  all_goals simp only[Bool.false_and]
 |true=>
  refine pcall_body (ow:=fun _=>false) (wf:=fun _=>false) Ty.mixed Tryz.func30 rfl Ty.hb_30 (by rw[Tryz.ntmps30];simp) ?_
  rw[Tryz.ntmps30,Tryz.results30]
  repeat'(first
   |refine a_seq fun K hK=>?_
   |(refine a_block ?_)
   |((first|refine a_regionS ?_|refine a_region (fun K hK=>?_)|refine a_ret ?_);simp(maxSteps:=2000000) only[undef,am0,am1,am2,am3,amb0,amb1,amb2,amb3,amb4,lwn,drn,callee,wantedB,isW,eff,pev,pst0,retPost,resAll,resP,resV,intP,mkV,putC,pbin,sbin,strsEq,peq,pint,pshift,pstr,pun,pconv,isShift,isConstB,app,subS,lay,rowsOf,lkV,keyKind,keyEq,mfind,mput,oInt,isZeroInt,forall_const,exists_eq_left',implies_true,IntKind.bits, ↓reduceIte,Nat.reduceEqDiff,Nat.reduceAdd,Nat.reduceSub,Nat.reduceMul,Nat.reduceLT,Nat.reduceLeDiff,Nat.reduceBEq,Int.reduceLE,Int.reduceLT,Int.reduceToNat,reduceCtorEq,Ty.all,e0])
   |(refine a_skip ?_;try simp only[pst0, ↓reduceIte,Nat.reduceEqDiff])
   |(refine a_exit ?_;try simp only[pst0, ↓reduceIte,Nat.reduceEqDiff])
   |(refine a_cond _ (by(try simp(maxSteps:=2000000) only[undef,am0,am1,am2,am3,amb0,amb1,amb2,amb3,amb4,lwn,drn,callee,wantedB,isW,eff,pev,pst0,retPost,resAll,resP,resV,intP,mkV,putC,pbin,sbin,strsEq,peq,pint,pshift,pstr,pun,pconv,isShift,isConstB,app,subS,lay,rowsOf,lkV,keyKind,keyEq,mfind,mput,oInt,isZeroInt,forall_const,exists_eq_left',implies_true,IntKind.bits, ↓reduceIte,Nat.reduceEqDiff,Nat.reduceAdd,Nat.reduceSub,Nat.reduceMul,Nat.reduceLT,Nat.reduceLeDiff,Nat.reduceBEq,Int.reduceLE,Int.reduceLT,Int.reduceToNat,reduceCtorEq,Ty.all,e0]);rfl) (fun hb=>?_) (fun hb=>?_)<;>(try simp only[hb0,decide_eq_true_eq,decide_eq_false_iff_not,reduceCtorEq]at hb)<;>(try(exfalso;omega)))
   |(with_reducible refine ite_in (fun hb=>?_) (fun hb=>?_)<;>(try simp only[Decidable.not_not]at hb)<;>(try simp only[hb,if_true,if_false,not_false_eq_true,not_true_eq_false, ↓reduceIte])<;>(try simp only[hb0,decide_eq_true_eq,decide_eq_false_iff_not,reduceCtorEq]at hb)<;>(try(exfalso;omega)))
   |(refine hK _ _ ?_;clear hK;try simp only[pst0, ↓reduceIte,Nat.reduceEqDiff])
   |(clear hK;refine hK _ _ ?_;clear hK;try simp only[pst0, ↓reduceIte,Nat.reduceEqDiff])
   |(clear hK;clear hK;refine hK _ _ ?_;clear hK;try simp only[pst0, ↓reduceIte,Nat.reduceEqDiff])
   |(clear hK;clear hK;clear hK;refine hK _ _ ?_;clear hK;try simp only[pst0, ↓reduceIte,Nat.reduceEqDiff])
   |(rw[if_pos];rotate_left 1;omega;simp(maxSteps:=2000000) only[undef,am0,am1,am2,am3,amb0,amb1,amb2,amb3,amb4,lwn,drn,callee,wantedB,isW,eff,pev,pst0,retPost,resAll,resP,resV,intP,mkV,putC,pbin,sbin,strsEq,peq,pint,pshift,pstr,pun,pconv,isShift,isConstB,app,subS,lay,rowsOf,lkV,keyKind,keyEq,mfind,mput,oInt,isZeroInt,forall_const,exists_eq_left',implies_true,IntKind.bits, ↓reduceIte,Nat.reduceEqDiff,Nat.reduceAdd,Nat.reduceSub,Nat.reduceMul,Nat.reduceLT,Nat.reduceLeDiff,Nat.reduceBEq,Int.reduceLE,Int.reduceLT,Int.reduceToNat,reduceCtorEq,Ty.all,e0]))
  refine owp_useQ (hc _) (by(try simp only[undef,am0,am1,am2,am3,amb0,amb1,amb2,amb3,amb4,lwn,drn,callee,wantedB,isW,eff,pev,pst0,retPost,resAll,resP,resV,intP,mkV,putC,pbin,sbin,strsEq,peq,pint,pshift,pstr,pun,pconv,isShift,isConstB,app,subS,lay,rowsOf,lkV,keyKind,keyEq,mfind,mput,oInt,isZeroInt,forall_const,exists_eq_left',implies_true,IntKind.bits, ↓reduceIte,Nat.reduceEqDiff,Nat.reduceAdd,Nat.reduceSub,Nat.reduceMul,Nat.reduceLT,Nat.reduceLeDiff,Nat.reduceBEq,Int.reduceLE,Int.reduceLT,Int.reduceToNat,reduceCtorEq,e0]);try rfl) ?_
  simp(maxSteps:=2000000) only[undef,am0,am1,am2,am3,amb0,amb1,amb2,amb3,amb4,lwn,drn,callee,wantedB,isW,eff,pev,pst0,retPost,resAll,resP,resV,intP,mkV,putC,pbin,sbin,strsEq,peq,pint,pshift,pstr,pun,pconv,isShift,isConstB,app,subS,lay,rowsOf,lkV,keyKind,keyEq,mfind,mput,oInt,isZeroInt,forall_const,exists_eq_left',implies_true,IntKind.bits, ↓reduceIte,Nat.reduceEqDiff,Nat.reduceAdd,Nat.reduceSub,Nat.reduceMul,Nat.reduceLT,Nat.reduceLeDiff,Nat.reduceBEq,Int.reduceLE,Int.reduceLT,Int.reduceToNat,reduceCtorEq,Ty.all,e0]
  repeat'(first
   |refine a_seq fun K hK=>?_
   |(refine a_block ?_)
   |((first|refine a_regionS ?_|refine a_region (fun K hK=>?_)|refine a_ret ?_);simp(maxSteps:=2000000) only[undef,am0,am1,am2,am3,amb0,amb1,amb2,amb3,amb4,lwn,drn,callee,wantedB,isW,eff,pev,pst0,retPost,resAll,resP,resV,intP,mkV,putC,pbin,sbin,strsEq,peq,pint,pshift,pstr,pun,pconv,isShift,isConstB,app,subS,lay,rowsOf,lkV,keyKind,keyEq,mfind,mput,oInt,isZeroInt,forall_const,exists_eq_left',implies_true,IntKind.bits, ↓reduceIte,Nat.reduceEqDiff,Nat.reduceAdd,Nat.reduceSub,Nat.reduceMul,Nat.reduceLT,Nat.reduceLeDiff,Nat.reduceBEq,Int.reduceLE,Int.reduceLT,Int.reduceToNat,reduceCtorEq,Ty.all,e0])
   |(refine a_skip ?_;try simp only[pst0, ↓reduceIte,Nat.reduceEqDiff])
   |(refine a_exit ?_;try simp only[pst0, ↓reduceIte,Nat.reduceEqDiff])
   |(refine a_cond _ (by(try simp(maxSteps:=2000000) only[undef,am0,am1,am2,am3,amb0,amb1,amb2,amb3,amb4,lwn,drn,callee,wantedB,isW,eff,pev,pst0,retPost,resAll,resP,resV,intP,mkV,putC,pbin,sbin,strsEq,peq,pint,pshift,pstr,pun,pconv,isShift,isConstB,app,subS,lay,rowsOf,lkV,keyKind,keyEq,mfind,mput,oInt,isZeroInt,forall_const,exists_eq_left',implies_true,IntKind.bits, ↓reduceIte,Nat.reduceEqDiff,Nat.reduceAdd,Nat.reduceSub,Nat.reduceMul,Nat.reduceLT,Nat.reduceLeDiff,Nat.reduceBEq,Int.reduceLE,Int.reduceLT,Int.reduceToNat,reduceCtorEq,Ty.all,e0]);rfl) (fun hb=>?_) (fun hb=>?_)<;>(try simp only[hb0,decide_eq_true_eq,decide_eq_false_iff_not,reduceCtorEq]at hb)<;>(try(exfalso;omega)))
   |(with_reducible refine ite_in (fun hb=>?_) (fun hb=>?_)<;>(try simp only[Decidable.not_not]at hb)<;>(try simp only[hb,if_true,if_false,not_false_eq_true,not_true_eq_false, ↓reduceIte])<;>(try simp only[hb0,decide_eq_true_eq,decide_eq_false_iff_not,reduceCtorEq]at hb)<;>(try(exfalso;omega)))
   |(refine hK _ _ ?_;clear hK;try simp only[pst0, ↓reduceIte,Nat.reduceEqDiff])
   |(clear hK;refine hK _ _ ?_;clear hK;try simp only[pst0, ↓reduceIte,Nat.reduceEqDiff])
   |(clear hK;clear hK;refine hK _ _ ?_;clear hK;try simp only[pst0, ↓reduceIte,Nat.reduceEqDiff])
   |(clear hK;clear hK;clear hK;refine hK _ _ ?_;clear hK;try simp only[pst0, ↓reduceIte,Nat.reduceEqDiff])
   |(rw[if_pos];rotate_left 1;omega;simp(maxSteps:=2000000) only[undef,am0,am1,am2,am3,amb0,amb1,amb2,amb3,amb4,lwn,drn,callee,wantedB,isW,eff,pev,pst0,retPost,resAll,resP,resV,intP,mkV,putC,pbin,sbin,strsEq,peq,pint,pshift,pstr,pun,pconv,isShift,isConstB,app,subS,lay,rowsOf,lkV,keyKind,keyEq,mfind,mput,oInt,isZeroInt,forall_const,exists_eq_left',implies_true,IntKind.bits, ↓reduceIte,Nat.reduceEqDiff,Nat.reduceAdd,Nat.reduceSub,Nat.reduceMul,Nat.reduceLT,Nat.reduceLeDiff,Nat.reduceBEq,Int.reduceLE,Int.reduceLT,Int.reduceToNat,reduceCtorEq,Ty.all,e0]))
  all_goals simp only[Bool.true_and]
theorem swithinV1_c{x:Vl}{m:List Vl}(hx:x.okS)(hm:m.length≤bigN)(ho: ∀ a∈m,a.okS)(h:Heap):PCall Tryz.prog 29 [.agg (vlRow x),.cptr [.imm 3 (vlRows m)]] h fun r h'=>r= .sc (.bool (!(m.any fun y=>x.same y)))∧h'=h:=by
 have hc:=fun h:Heap=>anyVl_c (h:=h) (g:=30) (cp:= .cptr (vlRow x)) (l:=m) (q:=fun y=>x.same y) hm (fun s hs=>swithinV11_c hx (ho s hs) h)
 generalize(m.any fun y=>x.same y)=e at hc⊢
 generalize vlRows m=R at hc⊢
 simp only[vlRow]at hc⊢
 refine pcall_body (ow:=fun _=>false) (wf:=fun _=>false) Ty.mixed Tryz.func29 rfl Ty.hb_29 (by rw[Tryz.ntmps29];simp) ?_
 rw[Tryz.ntmps29,Tryz.results29]
 repeat'(first
  |refine a_seq fun K hK=>?_
  |(refine a_block ?_)
  |((first|refine a_regionS ?_|refine a_region (fun K hK=>?_)|refine a_ret ?_);simp(maxSteps:=2000000) only[undef,am0,am1,am2,am3,amb0,amb1,amb2,amb3,amb4,lwn,drn,callee,wantedB,isW,eff,pev,pst0,retPost,resAll,resP,resV,intP,mkV,putC,pbin,sbin,strsEq,peq,pint,pshift,pstr,pun,pconv,isShift,isConstB,app,subS,lay,rowsOf,lkV,keyKind,keyEq,mfind,mput,oInt,isZeroInt,forall_const,exists_eq_left',implies_true,IntKind.bits, ↓reduceIte,Nat.reduceEqDiff,Nat.reduceAdd,Nat.reduceSub,Nat.reduceMul,Nat.reduceLT,Nat.reduceLeDiff,Nat.reduceBEq,Int.reduceLE,Int.reduceLT,Int.reduceToNat,reduceCtorEq,Ty.all])
  |(refine a_skip ?_;try simp only[pst0, ↓reduceIte,Nat.reduceEqDiff])
  |(refine a_exit ?_;try simp only[pst0, ↓reduceIte,Nat.reduceEqDiff])
  |(refine a_cond _ (by(try simp(maxSteps:=2000000) only[undef,am0,am1,am2,am3,amb0,amb1,amb2,amb3,amb4,lwn,drn,callee,wantedB,isW,eff,pev,pst0,retPost,resAll,resP,resV,intP,mkV,putC,pbin,sbin,strsEq,peq,pint,pshift,pstr,pun,pconv,isShift,isConstB,app,subS,lay,rowsOf,lkV,keyKind,keyEq,mfind,mput,oInt,isZeroInt,forall_const,exists_eq_left',implies_true,IntKind.bits, ↓reduceIte,Nat.reduceEqDiff,Nat.reduceAdd,Nat.reduceSub,Nat.reduceMul,Nat.reduceLT,Nat.reduceLeDiff,Nat.reduceBEq,Int.reduceLE,Int.reduceLT,Int.reduceToNat,reduceCtorEq,Ty.all]);rfl) (fun hb=>?_) (fun hb=>?_)<;>(try simp only[hb0,decide_eq_true_eq,decide_eq_false_iff_not,reduceCtorEq]at hb)<;>(try(exfalso;omega)))
  |(with_reducible refine ite_in (fun hb=>?_) (fun hb=>?_)<;>(try simp only[Decidable.not_not]at hb)<;>(try simp only[hb,if_true,if_false,not_false_eq_true,not_true_eq_false, ↓reduceIte])<;>(try simp only[hb0,decide_eq_true_eq,decide_eq_false_iff_not,reduceCtorEq]at hb)<;>(try(exfalso;omega)))
  |(refine hK _ _ ?_;clear hK;try simp only[pst0, ↓reduceIte,Nat.reduceEqDiff])
  |(clear hK;refine hK _ _ ?_;clear hK;try simp only[pst0, ↓reduceIte,Nat.reduceEqDiff])
  |(clear hK;clear hK;refine hK _ _ ?_;clear hK;try simp only[pst0, ↓reduceIte,Nat.reduceEqDiff])
  |(clear hK;clear hK;clear hK;refine hK _ _ ?_;clear hK;try simp only[pst0, ↓reduceIte,Nat.reduceEqDiff])
  |(rw[if_pos];rotate_left 1;omega;simp(maxSteps:=2000000) only[undef,am0,am1,am2,am3,amb0,amb1,amb2,amb3,amb4,lwn,drn,callee,wantedB,isW,eff,pev,pst0,retPost,resAll,resP,resV,intP,mkV,putC,pbin,sbin,strsEq,peq,pint,pshift,pstr,pun,pconv,isShift,isConstB,app,subS,lay,rowsOf,lkV,keyKind,keyEq,mfind,mput,oInt,isZeroInt,forall_const,exists_eq_left',implies_true,IntKind.bits, ↓reduceIte,Nat.reduceEqDiff,Nat.reduceAdd,Nat.reduceSub,Nat.reduceMul,Nat.reduceLT,Nat.reduceLeDiff,Nat.reduceBEq,Int.reduceLE,Int.reduceLT,Int.reduceToNat,reduceCtorEq,Ty.all]))
 refine owp_useQ (hc _) (by(try simp only[undef,am0,am1,am2,am3,amb0,amb1,amb2,amb3,amb4,lwn,drn,callee,wantedB,isW,eff,pev,pst0,retPost,resAll,resP,resV,intP,mkV,putC,pbin,sbin,strsEq,peq,pint,pshift,pstr,pun,pconv,isShift,isConstB,app,subS,lay,rowsOf,lkV,keyKind,keyEq,mfind,mput,oInt,isZeroInt,forall_const,exists_eq_left',implies_true,IntKind.bits, ↓reduceIte,Nat.reduceEqDiff,Nat.reduceAdd,Nat.reduceSub,Nat.reduceMul,Nat.reduceLT,Nat.reduceLeDiff,Nat.reduceBEq,Int.reduceLE,Int.reduceLT,Int.reduceToNat,reduceCtorEq,]);try rfl) ?_
 simp(maxSteps:=2000000) only[undef,am0,am1,am2,am3,amb0,amb1,amb2,amb3,amb4,lwn,drn,callee,wantedB,isW,eff,pev,pst0,retPost,resAll,resP,resV,intP,mkV,putC,pbin,sbin,strsEq,peq,pint,pshift,pstr,pun,pconv,isShift,isConstB,app,subS,lay,rowsOf,lkV,keyKind,keyEq,mfind,mput,oInt,isZeroInt,forall_const,exists_eq_left',implies_true,IntKind.bits, ↓reduceIte,Nat.reduceEqDiff,Nat.reduceAdd,Nat.reduceSub,Nat.reduceMul,Nat.reduceLT,Nat.reduceLeDiff,Nat.reduceBEq,Int.reduceLE,Int.reduceLT,Int.reduceToNat,reduceCtorEq,Ty.all,]
 repeat'(first
  |refine a_seq fun K hK=>?_
  |(refine a_block ?_)
  |((first|refine a_regionS ?_|refine a_region (fun K hK=>?_)|refine a_ret ?_);simp(maxSteps:=2000000) only[undef,am0,am1,am2,am3,amb0,amb1,amb2,amb3,amb4,lwn,drn,callee,wantedB,isW,eff,pev,pst0,retPost,resAll,resP,resV,intP,mkV,putC,pbin,sbin,strsEq,peq,pint,pshift,pstr,pun,pconv,isShift,isConstB,app,subS,lay,rowsOf,lkV,keyKind,keyEq,mfind,mput,oInt,isZeroInt,forall_const,exists_eq_left',implies_true,IntKind.bits, ↓reduceIte,Nat.reduceEqDiff,Nat.reduceAdd,Nat.reduceSub,Nat.reduceMul,Nat.reduceLT,Nat.reduceLeDiff,Nat.reduceBEq,Int.reduceLE,Int.reduceLT,Int.reduceToNat,reduceCtorEq,Ty.all])
  |(refine a_skip ?_;try simp only[pst0, ↓reduceIte,Nat.reduceEqDiff])
  |(refine a_exit ?_;try simp only[pst0, ↓reduceIte,Nat.reduceEqDiff])
  |(refine a_cond _ (by(try simp(maxSteps:=2000000) only[undef,am0,am1,am2,am3,amb0,amb1,amb2,amb3,amb4,lwn,drn,callee,wantedB,isW,eff,pev,pst0,retPost,resAll,resP,resV,intP,mkV,putC,pbin,sbin,strsEq,peq,pint,pshift,pstr,pun,pconv,isShift,isConstB,app,subS,lay,rowsOf,lkV,keyKind,keyEq,mfind,mput,oInt,isZeroInt,forall_const,exists_eq_left',implies_true,IntKind.bits, ↓reduceIte,Nat.reduceEqDiff,Nat.reduceAdd,Nat.reduceSub,Nat.reduceMul,Nat.reduceLT,Nat.reduceLeDiff,Nat.reduceBEq,Int.reduceLE,Int.reduceLT,Int.reduceToNat,reduceCtorEq,Ty.all]);rfl) (fun hb=>?_) (fun hb=>?_)<;>(try simp only[hb0,decide_eq_true_eq,decide_eq_false_iff_not,reduceCtorEq]at hb)<;>(try(exfalso;omega)))
  |(with_reducible refine ite_in (fun hb=>?_) (fun hb=>?_)<;>(try simp only[Decidable.not_not]at hb)<;>(try simp only[hb,if_true,if_false,not_false_eq_true,not_true_eq_false, ↓reduceIte])<;>(try simp only[hb0,decide_eq_true_eq,decide_eq_false_iff_not,reduceCtorEq]at hb)<;>(try(exfalso;omega)))
  |(refine hK _ _ ?_;clear hK;try simp only[pst0, ↓reduceIte,Nat.reduceEqDiff])
  |(clear hK;refine hK _ _ ?_;clear hK;try simp only[pst0, ↓reduceIte,Nat.reduceEqDiff])
  |(clear hK;clear hK;refine hK _ _ ?_;clear hK;try simp only[pst0, ↓reduceIte,Nat.reduceEqDiff])
  |(clear hK;clear hK;clear hK;refine hK _ _ ?_;clear hK;try simp only[pst0, ↓reduceIte,Nat.reduceEqDiff])
  |(rw[if_pos];rotate_left 1;omega;simp(maxSteps:=2000000) only[undef,am0,am1,am2,am3,amb0,amb1,amb2,amb3,amb4,lwn,drn,callee,wantedB,isW,eff,pev,pst0,retPost,resAll,resP,resV,intP,mkV,putC,pbin,sbin,strsEq,peq,pint,pshift,pstr,pun,pconv,isShift,isConstB,app,subS,lay,rowsOf,lkV,keyKind,keyEq,mfind,mput,oInt,isZeroInt,forall_const,exists_eq_left',implies_true,IntKind.bits, ↓reduceIte,Nat.reduceEqDiff,Nat.reduceAdd,Nat.reduceSub,Nat.reduceMul,Nat.reduceLT,Nat.reduceLeDiff,Nat.reduceBEq,Int.reduceLE,Int.reduceLT,Int.reduceToNat,reduceCtorEq,Ty.all]))
theorem swithinV_c{l m:List Vl}(hl:l.length≤bigN)(hm:m.length≤bigN)(hol: ∀ a∈l,a.okS)(hom: ∀ a∈m,a.okS)(h:Heap):PCall Tryz.prog 15 [.imm 3 (vlRows l),.imm 3 (vlRows m)] h fun r h'=>r= .sc (.bool (wV l m))∧h'=h:=by
 have hc:=fun h:Heap=>anyVl_c (h:=h) (g:=29) (cp:= .cptr [.imm 3 (vlRows m)]) (l:=l) (q:=fun x=>!(m.any fun y=>x.same y)) hl (fun s hs=>swithinV1_c (hol s hs) hm hom h)
 unfold wV
 generalize(l.any fun x=>!(m.any fun y=>x.same y))=e at hc⊢
 generalize vlRows m=R at hc⊢
 generalize vlRows l=R2 at hc⊢
 refine pcall_body (ow:=fun _=>false) (wf:=fun _=>false) Ty.mixed Tryz.func15 rfl Ty.hb_15 (by rw[Tryz.ntmps15];simp) ?_
 rw[Tryz.ntmps15,Tryz.results15]
 repeat'(first
  |refine a_seq fun K hK=>?_
  |(refine a_block ?_)
  |((first|refine a_regionS ?_|refine a_region (fun K hK=>?_)|refine a_ret ?_);simp(maxSteps:=2000000) only[undef,am0,am1,am2,am3,amb0,amb1,amb2,amb3,amb4,lwn,drn,callee,wantedB,isW,eff,pev,pst0,retPost,resAll,resP,resV,intP,mkV,putC,pbin,sbin,strsEq,peq,pint,pshift,pstr,pun,pconv,isShift,isConstB,app,subS,lay,rowsOf,lkV,keyKind,keyEq,mfind,mput,oInt,isZeroInt,forall_const,exists_eq_left',implies_true,IntKind.bits, ↓reduceIte,Nat.reduceEqDiff,Nat.reduceAdd,Nat.reduceSub,Nat.reduceMul,Nat.reduceLT,Nat.reduceLeDiff,Nat.reduceBEq,Int.reduceLE,Int.reduceLT,Int.reduceToNat,reduceCtorEq,Ty.all])
  |(refine a_skip ?_;try simp only[pst0, ↓reduceIte,Nat.reduceEqDiff])
  |(refine a_exit ?_;try simp only[pst0, ↓reduceIte,Nat.reduceEqDiff])
  |(refine a_cond _ (by(try simp(maxSteps:=2000000) only[undef,am0,am1,am2,am3,amb0,amb1,amb2,amb3,amb4,lwn,drn,callee,wantedB,isW,eff,pev,pst0,retPost,resAll,resP,resV,intP,mkV,putC,pbin,sbin,strsEq,peq,pint,pshift,pstr,pun,pconv,isShift,isConstB,app,subS,lay,rowsOf,lkV,keyKind,keyEq,mfind,mput,oInt,isZeroInt,forall_const,exists_eq_left',implies_true,IntKind.bits, ↓reduceIte,Nat.reduceEqDiff,Nat.reduceAdd,Nat.reduceSub,Nat.reduceMul,Nat.reduceLT,Nat.reduceLeDiff,Nat.reduceBEq,Int.reduceLE,Int.reduceLT,Int.reduceToNat,reduceCtorEq,Ty.all]);rfl) (fun hb=>?_) (fun hb=>?_)<;>(try simp only[hb0,decide_eq_true_eq,decide_eq_false_iff_not,reduceCtorEq]at hb)<;>(try(exfalso;omega)))
  |(with_reducible refine ite_in (fun hb=>?_) (fun hb=>?_)<;>(try simp only[Decidable.not_not]at hb)<;>(try simp only[hb,if_true,if_false,not_false_eq_true,not_true_eq_false, ↓reduceIte])<;>(try simp only[hb0,decide_eq_true_eq,decide_eq_false_iff_not,reduceCtorEq]at hb)<;>(try(exfalso;omega)))
  |(refine hK _ _ ?_;clear hK;try simp only[pst0, ↓reduceIte,Nat.reduceEqDiff])
  |(clear hK;refine hK _ _ ?_;clear hK;try simp only[pst0, ↓reduceIte,Nat.reduceEqDiff])
  |(clear hK;clear hK;refine hK _ _ ?_;clear hK;try simp only[pst0, ↓reduceIte,Nat.reduceEqDiff])
  |(clear hK;clear hK;clear hK;refine hK _ _ ?_;clear hK;try simp only[pst0, ↓reduceIte,Nat.reduceEqDiff])
  |(rw[if_pos];rotate_left 1;omega;simp(maxSteps:=2000000) only[undef,am0,am1,am2,am3,amb0,amb1,amb2,amb3,amb4,lwn,drn,callee,wantedB,isW,eff,pev,pst0,retPost,resAll,resP,resV,intP,mkV,putC,pbin,sbin,strsEq,peq,pint,pshift,pstr,pun,pconv,isShift,isConstB,app,subS,lay,rowsOf,lkV,keyKind,keyEq,mfind,mput,oInt,isZeroInt,forall_const,exists_eq_left',implies_true,IntKind.bits, ↓reduceIte,Nat.reduceEqDiff,Nat.reduceAdd,Nat.reduceSub,Nat.reduceMul,Nat.reduceLT,Nat.reduceLeDiff,Nat.reduceBEq,Int.reduceLE,Int.reduceLT,Int.reduceToNat,reduceCtorEq,Ty.all]))
 refine owp_useQ (hc _) (by(try simp only[undef,am0,am1,am2,am3,amb0,amb1,amb2,amb3,amb4,lwn,drn,callee,wantedB,isW,eff,pev,pst0,retPost,resAll,resP,resV,intP,mkV,putC,pbin,sbin,strsEq,peq,pint,pshift,pstr,pun,pconv,isShift,isConstB,app,subS,lay,rowsOf,lkV,keyKind,keyEq,mfind,mput,oInt,isZeroInt,forall_const,exists_eq_left',implies_true,IntKind.bits, ↓reduceIte,Nat.reduceEqDiff,Nat.reduceAdd,Nat.reduceSub,Nat.reduceMul,Nat.reduceLT,Nat.reduceLeDiff,Nat.reduceBEq,Int.reduceLE,Int.reduceLT,Int.reduceToNat,reduceCtorEq,]);try rfl) ?_
 simp(maxSteps:=2000000) only[undef,am0,am1,am2,am3,amb0,amb1,amb2,amb3,amb4,lwn,drn,callee,wantedB,isW,eff,pev,pst0,retPost,resAll,resP,resV,intP,mkV,putC,pbin,sbin,strsEq,peq,pint,pshift,pstr,pun,pconv,isShift,isConstB,app,subS,lay,rowsOf,lkV,keyKind,keyEq,mfind,mput,oInt,isZeroInt,forall_const,exists_eq_left',implies_true,IntKind.bits, ↓reduceIte,Nat.reduceEqDiff,Nat.reduceAdd,Nat.reduceSub,Nat.reduceMul,Nat.reduceLT,Nat.reduceLeDiff,Nat.reduceBEq,Int.reduceLE,Int.reduceLT,Int.reduceToNat,reduceCtorEq,Ty.all,]
 repeat'(first
  |refine a_seq fun K hK=>?_
  |(refine a_block ?_)
  |((first|refine a_regionS ?_|refine a_region (fun K hK=>?_)|refine a_ret ?_);simp(maxSteps:=2000000) only[undef,am0,am1,am2,am3,amb0,amb1,amb2,amb3,amb4,lwn,drn,callee,wantedB,isW,eff,pev,pst0,retPost,resAll,resP,resV,intP,mkV,putC,pbin,sbin,strsEq,peq,pint,pshift,pstr,pun,pconv,isShift,isConstB,app,subS,lay,rowsOf,lkV,keyKind,keyEq,mfind,mput,oInt,isZeroInt,forall_const,exists_eq_left',implies_true,IntKind.bits, ↓reduceIte,Nat.reduceEqDiff,Nat.reduceAdd,Nat.reduceSub,Nat.reduceMul,Nat.reduceLT,Nat.reduceLeDiff,Nat.reduceBEq,Int.reduceLE,Int.reduceLT,Int.reduceToNat,reduceCtorEq,Ty.all])
  |(refine a_skip ?_;try simp only[pst0, ↓reduceIte,Nat.reduceEqDiff])
  |(refine a_exit ?_;try simp only[pst0, ↓reduceIte,Nat.reduceEqDiff])
  |(refine a_cond _ (by(try simp(maxSteps:=2000000) only[undef,am0,am1,am2,am3,amb0,amb1,amb2,amb3,amb4,lwn,drn,callee,wantedB,isW,eff,pev,pst0,retPost,resAll,resP,resV,intP,mkV,putC,pbin,sbin,strsEq,peq,pint,pshift,pstr,pun,pconv,isShift,isConstB,app,subS,lay,rowsOf,lkV,keyKind,keyEq,mfind,mput,oInt,isZeroInt,forall_const,exists_eq_left',implies_true,IntKind.bits, ↓reduceIte,Nat.reduceEqDiff,Nat.reduceAdd,Nat.reduceSub,Nat.reduceMul,Nat.reduceLT,Nat.reduceLeDiff,Nat.reduceBEq,Int.reduceLE,Int.reduceLT,Int.reduceToNat,reduceCtorEq,Ty.all]);rfl) (fun hb=>?_) (fun hb=>?_)<;>(try simp only[hb0,decide_eq_true_eq,decide_eq_false_iff_not,reduceCtorEq]at hb)<;>(try(exfalso;omega)))
  |(with_reducible refine ite_in (fun hb=>?_) (fun hb=>?_)<;>(try simp only[Decidable.not_not]at hb)<;>(try simp only[hb,if_true,if_false,not_false_eq_true,not_true_eq_false, ↓reduceIte])<;>(try simp only[hb0,decide_eq_true_eq,decide_eq_false_iff_not,reduceCtorEq]at hb)<;>(try(exfalso;omega)))
  |(refine hK _ _ ?_;clear hK;try simp only[pst0, ↓reduceIte,Nat.reduceEqDiff])
  |(clear hK;refine hK _ _ ?_;clear hK;try simp only[pst0, ↓reduceIte,Nat.reduceEqDiff])
  |(clear hK;clear hK;refine hK _ _ ?_;clear hK;try simp only[pst0, ↓reduceIte,Nat.reduceEqDiff])
  |(clear hK;clear hK;clear hK;refine hK _ _ ?_;clear hK;try simp only[pst0, ↓reduceIte,Nat.reduceEqDiff])
  |(rw[if_pos];rotate_left 1;omega;simp(maxSteps:=2000000) only[undef,am0,am1,am2,am3,amb0,amb1,amb2,amb3,amb4,lwn,drn,callee,wantedB,isW,eff,pev,pst0,retPost,resAll,resP,resV,intP,mkV,putC,pbin,sbin,strsEq,peq,pint,pshift,pstr,pun,pconv,isShift,isConstB,app,subS,lay,rowsOf,lkV,keyKind,keyEq,mfind,mput,oInt,isZeroInt,forall_const,exists_eq_left',implies_true,IntKind.bits, ↓reduceIte,Nat.reduceEqDiff,Nat.reduceAdd,Nat.reduceSub,Nat.reduceMul,Nat.reduceLT,Nat.reduceLeDiff,Nat.reduceBEq,Int.reduceLE,Int.reduceLT,Int.reduceToNat,reduceCtorEq,Ty.all]))
theorem sSame_c{a b:Wo}(ha:a.ok)(hb:b.ok)(h:Heap):PCall Tryz.prog 7 [.agg a.cells,.agg b.cells] h fun r h'=>r= .sc (.bool (a.same b))∧h'=h:=by
 have c1:=swithin_c ha.atoms.1 hb.atoms.1 ha.atoms.2 hb.atoms.2
 have c2:=swithin_c hb.atoms.1 ha.atoms.1 hb.atoms.2 ha.atoms.2
 have c3:=swithinV_c ha.values.1 hb.values.1 ha.values.2 hb.values.2
 have c4:=swithinV_c hb.values.1 ha.values.1 hb.values.2 ha.values.2
 unfold Wo.same Wo.cells
 generalize wA a.atoms b.atoms=e1 at c1⊢
 generalize wA b.atoms a.atoms=e2 at c2⊢
 generalize wV a.values b.values=e3 at c3⊢
 generalize wV b.values a.values=e4 at c4⊢
 generalize atRows a.atoms=A1 at c1 c2⊢
 generalize atRows b.atoms=B1 at c1 c2⊢
 generalize vlRows a.values=A2 at c3 c4⊢
 generalize vlRows b.values=B2 at c3 c4⊢
 cases e1 with
 |false=>
  refine pcall_body (ow:=fun _=>false) (wf:=fun _=>false) Ty.mixed Tryz.func7 rfl Ty.hb_7 (by rw[Tryz.ntmps7];simp) ?_
  rw[Tryz.ntmps7,Tryz.results7]
  repeat'(first
   |refine a_seq fun K hK=>?_
   |(refine a_block ?_)
   |((first|refine a_regionS ?_|refine a_region (fun K hK=>?_)|refine a_ret ?_);simp(maxSteps:=2000000) only[undef,am0,am1,am2,am3,amb0,amb1,amb2,amb3,amb4,lwn,drn,callee,wantedB,isW,eff,pev,pst0,retPost,resAll,resP,resV,intP,mkV,putC,pbin,sbin,strsEq,peq,pint,pshift,pstr,pun,pconv,isShift,isConstB,app,subS,lay,rowsOf,lkV,keyKind,keyEq,mfind,mput,oInt,isZeroInt,forall_const,exists_eq_left',implies_true,IntKind.bits, ↓reduceIte,Nat.reduceEqDiff,Nat.reduceAdd,Nat.reduceSub,Nat.reduceMul,Nat.reduceLT,Nat.reduceLeDiff,Nat.reduceBEq,Int.reduceLE,Int.reduceLT,Int.reduceToNat,reduceCtorEq,Ty.all])
   |(refine a_skip ?_;try simp only[pst0, ↓reduceIte,Nat.reduceEqDiff])
   |(refine a_exit ?_;try simp only[pst0, ↓reduceIte,Nat.reduceEqDiff])
   |(refine a_cond _ (by(try simp(maxSteps:=2000000) only[undef,am0,am1,am2,am3,amb0,amb1,amb2,amb3,amb4,lwn,drn,callee,wantedB,isW,eff,pev,pst0,retPost,resAll,resP,resV,intP,mkV,putC,pbin,sbin,strsEq,peq,pint,pshift,pstr,pun,pconv,isShift,isConstB,app,subS,lay,rowsOf,lkV,keyKind,keyEq,mfind,mput,oInt,isZeroInt,forall_const,exists_eq_left',implies_true,IntKind.bits, ↓reduceIte,Nat.reduceEqDiff,Nat.reduceAdd,Nat.reduceSub,Nat.reduceMul,Nat.reduceLT,Nat.reduceLeDiff,Nat.reduceBEq,Int.reduceLE,Int.reduceLT,Int.reduceToNat,reduceCtorEq,Ty.all]);rfl) (fun hb=>?_) (fun hb=>?_)<;>(try simp only[hb0,decide_eq_true_eq,decide_eq_false_iff_not,reduceCtorEq]at hb)<;>(try(exfalso;omega)))
   |(with_reducible refine ite_in (fun hb=>?_) (fun hb=>?_)<;>(try simp only[Decidable.not_not]at hb)<;>(try simp only[hb,if_true,if_false,not_false_eq_true,not_true_eq_false, ↓reduceIte])<;>(try simp only[hb0,decide_eq_true_eq,decide_eq_false_iff_not,reduceCtorEq]at hb)<;>(try(exfalso;omega)))
   |(refine hK _ _ ?_;clear hK;try simp only[pst0, ↓reduceIte,Nat.reduceEqDiff])
   |(clear hK;refine hK _ _ ?_;clear hK;try simp only[pst0, ↓reduceIte,Nat.reduceEqDiff])
   |(clear hK;clear hK;refine hK _ _ ?_;clear hK;try simp only[pst0, ↓reduceIte,Nat.reduceEqDiff])
   |(clear hK;clear hK;clear hK;refine hK _ _ ?_;clear hK;try simp only[pst0, ↓reduceIte,Nat.reduceEqDiff])
   |(rw[if_pos];rotate_left 1;omega;simp(maxSteps:=2000000) only[undef,am0,am1,am2,am3,amb0,amb1,amb2,amb3,amb4,lwn,drn,callee,wantedB,isW,eff,pev,pst0,retPost,resAll,resP,resV,intP,mkV,putC,pbin,sbin,strsEq,peq,pint,pshift,pstr,pun,pconv,isShift,isConstB,app,subS,lay,rowsOf,lkV,keyKind,keyEq,mfind,mput,oInt,isZeroInt,forall_const,exists_eq_left',implies_true,IntKind.bits, ↓reduceIte,Nat.reduceEqDiff,Nat.reduceAdd,Nat.reduceSub,Nat.reduceMul,Nat.reduceLT,Nat.reduceLeDiff,Nat.reduceBEq,Int.reduceLE,Int.reduceLT,Int.reduceToNat,reduceCtorEq,Ty.all]))
  refine owp_useQ (c1 _) (by(try simp only[undef,am0,am1,am2,am3,amb0,amb1,amb2,amb3,amb4,lwn,drn,callee,wantedB,isW,eff,pev,pst0,retPost,resAll,resP,resV,intP,mkV,putC,pbin,sbin,strsEq,peq,pint,pshift,pstr,pun,pconv,isShift,isConstB,app,subS,lay,rowsOf,lkV,keyKind,keyEq,mfind,mput,oInt,isZeroInt,forall_const,exists_eq_left',implies_true,IntKind.bits, ↓reduceIte,Nat.reduceEqDiff,Nat.reduceAdd,Nat.reduceSub,Nat.reduceMul,Nat.reduceLT,Nat.reduceLeDiff,Nat.reduceBEq,Int.reduceLE,Int.reduceLT,Int.reduceToNat,reduceCtorEq,]);try rfl) ?_
  simp(maxSteps:=2000000) only[undef,am0,am1,am2,am3,amb0,amb1,amb2,amb3,amb4,lwn,drn,callee,wantedB,isW,eff,pev,pst0,retPost,resAll,resP,resV,intP,mkV,putC,pbin,sbin,strsEq,peq,pint,pshift,pstr,pun,pconv,isShift,isConstB,app,subS,lay,rowsOf,lkV,keyKind,keyEq,mfind,mput,oInt,isZeroInt,forall_const,exists_eq_left',implies_true,IntKind.bits, ↓reduceIte,Nat.reduceEqDiff,Nat.reduceAdd,Nat.reduceSub,Nat.reduceMul,Nat.reduceLT,Nat.reduceLeDiff,Nat.reduceBEq,Int.reduceLE,Int.reduceLT,Int.reduceToNat,reduceCtorEq,Ty.all,]
  repeat'(first
   |refine a_seq fun K hK=>?_
   |(refine a_block ?_)
   |((first|refine a_regionS ?_|refine a_region (fun K hK=>?_)|refine a_ret ?_);simp(maxSteps:=2000000) only[undef,am0,am1,am2,am3,amb0,amb1,amb2,amb3,amb4,lwn,drn,callee,wantedB,isW,eff,pev,pst0,retPost,resAll,resP,resV,intP,mkV,putC,pbin,sbin,strsEq,peq,pint,pshift,pstr,pun,pconv,isShift,isConstB,app,subS,lay,rowsOf,lkV,keyKind,keyEq,mfind,mput,oInt,isZeroInt,forall_const,exists_eq_left',implies_true,IntKind.bits, ↓reduceIte,Nat.reduceEqDiff,Nat.reduceAdd,Nat.reduceSub,Nat.reduceMul,Nat.reduceLT,Nat.reduceLeDiff,Nat.reduceBEq,Int.reduceLE,Int.reduceLT,Int.reduceToNat,reduceCtorEq,Ty.all])
   |(refine a_skip ?_;try simp only[pst0, ↓reduceIte,Nat.reduceEqDiff])
   |(refine a_exit ?_;try simp only[pst0, ↓reduceIte,Nat.reduceEqDiff])
   |(refine a_cond _ (by(try simp(maxSteps:=2000000) only[undef,am0,am1,am2,am3,amb0,amb1,amb2,amb3,amb4,lwn,drn,callee,wantedB,isW,eff,pev,pst0,retPost,resAll,resP,resV,intP,mkV,putC,pbin,sbin,strsEq,peq,pint,pshift,pstr,pun,pconv,isShift,isConstB,app,subS,lay,rowsOf,lkV,keyKind,keyEq,mfind,mput,oInt,isZeroInt,forall_const,exists_eq_left',implies_true,IntKind.bits, ↓reduceIte,Nat.reduceEqDiff,Nat.reduceAdd,Nat.reduceSub,Nat.reduceMul,Nat.reduceLT,Nat.reduceLeDiff,Nat.reduceBEq,Int.reduceLE,Int.reduceLT,Int.reduceToNat,reduceCtorEq,Ty.all]);rfl) (fun hb=>?_) (fun hb=>?_)<;>(try simp only[hb0,decide_eq_true_eq,decide_eq_false_iff_not,reduceCtorEq]at hb)<;>(try(exfalso;omega)))
   |(with_reducible refine ite_in (fun hb=>?_) (fun hb=>?_)<;>(try simp only[Decidable.not_not]at hb)<;>(try simp only[hb,if_true,if_false,not_false_eq_true,not_true_eq_false, ↓reduceIte])<;>(try simp only[hb0,decide_eq_true_eq,decide_eq_false_iff_not,reduceCtorEq]at hb)<;>(try(exfalso;omega)))
   |(refine hK _ _ ?_;clear hK;try simp only[pst0, ↓reduceIte,Nat.reduceEqDiff])
   |(clear hK;refine hK _ _ ?_;clear hK;try simp only[pst0, ↓reduceIte,Nat.reduceEqDiff])
   |(clear hK;clear hK;refine hK _ _ ?_;clear hK;try simp only[pst0, ↓reduceIte,Nat.reduceEqDiff])
   |(clear hK;clear hK;clear hK;refine hK _ _ ?_;clear hK;try simp only[pst0, ↓reduceIte,Nat.reduceEqDiff])
   |(rw[if_pos];rotate_left 1;omega;simp(maxSteps:=2000000) only[undef,am0,am1,am2,am3,amb0,amb1,amb2,amb3,amb4,lwn,drn,callee,wantedB,isW,eff,pev,pst0,retPost,resAll,resP,resV,intP,mkV,putC,pbin,sbin,strsEq,peq,pint,pshift,pstr,pun,pconv,isShift,isConstB,app,subS,lay,rowsOf,lkV,keyKind,keyEq,mfind,mput,oInt,isZeroInt,forall_const,exists_eq_left',implies_true,IntKind.bits, ↓reduceIte,Nat.reduceEqDiff,Nat.reduceAdd,Nat.reduceSub,Nat.reduceMul,Nat.reduceLT,Nat.reduceLeDiff,Nat.reduceBEq,Int.reduceLE,Int.reduceLT,Int.reduceToNat,reduceCtorEq,Ty.all]))
  all_goals rfl
 |true=>
  cases e2 with
  |false=>
   refine pcall_body (ow:=fun _=>false) (wf:=fun _=>false) Ty.mixed Tryz.func7 rfl Ty.hb_7 (by rw[Tryz.ntmps7];simp) ?_
   rw[Tryz.ntmps7,Tryz.results7]
   repeat'(first
    |refine a_seq fun K hK=>?_
    |(refine a_block ?_)
    |((first|refine a_regionS ?_|refine a_region (fun K hK=>?_)|refine a_ret ?_);simp(maxSteps:=2000000) only[undef,am0,am1,am2,am3,amb0,amb1,amb2,amb3,amb4,lwn,drn,callee,wantedB,isW,eff,pev,pst0,retPost,resAll,resP,resV,intP,mkV,putC,pbin,sbin,strsEq,peq,pint,pshift,pstr,pun,pconv,isShift,isConstB,app,subS,lay,rowsOf,lkV,keyKind,keyEq,mfind,mput,oInt,isZeroInt,forall_const,exists_eq_left',implies_true,IntKind.bits, ↓reduceIte,Nat.reduceEqDiff,Nat.reduceAdd,Nat.reduceSub,Nat.reduceMul,Nat.reduceLT,Nat.reduceLeDiff,Nat.reduceBEq,Int.reduceLE,Int.reduceLT,Int.reduceToNat,reduceCtorEq,Ty.all])
    |(refine a_skip ?_;try simp only[pst0, ↓reduceIte,Nat.reduceEqDiff])
    |(refine a_exit ?_;try simp only[pst0, ↓reduceIte,Nat.reduceEqDiff])
    |(refine a_cond _ (by(try simp(maxSteps:=2000000) only[undef,am0,am1,am2,am3,amb0,amb1,amb2,amb3,amb4,lwn,drn,callee,wantedB,isW,eff,pev,pst0,retPost,resAll,resP,resV,intP,mkV,putC,pbin,sbin,strsEq,peq,pint,pshift,pstr,pun,pconv,isShift,isConstB,app,subS,lay,rowsOf,lkV,keyKind,keyEq,mfind,mput,oInt,isZeroInt,forall_const,exists_eq_left',implies_true,IntKind.bits, ↓reduceIte,Nat.reduceEqDiff,Nat.reduceAdd,Nat.reduceSub,Nat.reduceMul,Nat.reduceLT,Nat.reduceLeDiff,Nat.reduceBEq,Int.reduceLE,Int.reduceLT,Int.reduceToNat,reduceCtorEq,Ty.all]);rfl) (fun hb=>?_) (fun hb=>?_)<;>(try simp only[hb0,decide_eq_true_eq,decide_eq_false_iff_not,reduceCtorEq]at hb)<;>(try(exfalso;omega)))
    |(with_reducible refine ite_in (fun hb=>?_) (fun hb=>?_)<;>(try simp only[Decidable.not_not]at hb)<;>(try simp only[hb,if_true,if_false,not_false_eq_true,not_true_eq_false, ↓reduceIte])<;>(try simp only[hb0,decide_eq_true_eq,decide_eq_false_iff_not,reduceCtorEq]at hb)<;>(try(exfalso;omega)))
    |(refine hK _ _ ?_;clear hK;try simp only[pst0, ↓reduceIte,Nat.reduceEqDiff])
    |(clear hK;refine hK _ _ ?_;clear hK;try simp only[pst0, ↓reduceIte,Nat.reduceEqDiff])
    |(clear hK;clear hK;refine hK _ _ ?_;clear hK;try simp only[pst0, ↓reduceIte,Nat.reduceEqDiff])
    |(clear hK;clear hK;clear hK;refine hK _ _ ?_;clear hK;try simp only[pst0, ↓reduceIte,Nat.reduceEqDiff])
    |(rw[if_pos];rotate_left 1;omega;simp(maxSteps:=2000000) only[undef,am0,am1,am2,am3,amb0,amb1,amb2,amb3,amb4,lwn,drn,callee,wantedB,isW,eff,pev,pst0,retPost,resAll,resP,resV,intP,mkV,putC,pbin,sbin,strsEq,peq,pint,pshift,pstr,pun,pconv,isShift,isConstB,app,subS,lay,rowsOf,lkV,keyKind,keyEq,mfind,mput,oInt,isZeroInt,forall_const,exists_eq_left',implies_true,IntKind.bits, ↓reduceIte,Nat.reduceEqDiff,Nat.reduceAdd,Nat.reduceSub,Nat.reduceMul,Nat.reduceLT,Nat.reduceLeDiff,Nat.reduceBEq,Int.reduceLE,Int.reduceLT,Int.reduceToNat,reduceCtorEq,Ty.all]))
   refine owp_useQ (c1 _) (by(try simp only[undef,am0,am1,am2,am3,amb0,amb1,amb2,amb3,amb4,lwn,drn,callee,wantedB,isW,eff,pev,pst0,retPost,resAll,resP,resV,intP,mkV,putC,pbin,sbin,strsEq,peq,pint,pshift,pstr,pun,pconv,isShift,isConstB,app,subS,lay,rowsOf,lkV,keyKind,keyEq,mfind,mput,oInt,isZeroInt,forall_const,exists_eq_left',implies_true,IntKind.bits, ↓reduceIte,Nat.reduceEqDiff,Nat.reduceAdd,Nat.reduceSub,Nat.reduceMul,Nat.reduceLT,Nat.reduceLeDiff,Nat.reduceBEq,Int.reduceLE,Int.reduceLT,Int.reduceToNat,reduceCtorEq,]);try rfl) ?_
   simp(maxSteps:=2000000) only[undef,am0,am1,am2,am3,amb0,amb1,amb2,amb3,amb4,lwn,drn,callee,wantedB,isW,eff,pev,pst0,retPost,resAll,resP,resV,intP,mkV,putC,pbin,sbin,strsEq,peq,pint,pshift,pstr,pun,pconv,isShift,isConstB,app,subS,lay,rowsOf,lkV,keyKind,keyEq,mfind,mput,oInt,isZeroInt,forall_const,exists_eq_left',implies_true,IntKind.bits, ↓reduceIte,Nat.reduceEqDiff,Nat.reduceAdd,Nat.reduceSub,Nat.reduceMul,Nat.reduceLT,Nat.reduceLeDiff,Nat.reduceBEq,Int.reduceLE,Int.reduceLT,Int.reduceToNat,reduceCtorEq,Ty.all,]
   repeat'(first
    |refine a_seq fun K hK=>?_
    |(refine a_block ?_)
    |((first|refine a_regionS ?_|refine a_region (fun K hK=>?_)|refine a_ret ?_);simp(maxSteps:=2000000) only[undef,am0,am1,am2,am3,amb0,amb1,amb2,amb3,amb4,lwn,drn,callee,wantedB,isW,eff,pev,pst0,retPost,resAll,resP,resV,intP,mkV,putC,pbin,sbin,strsEq,peq,pint,pshift,pstr,pun,pconv,isShift,isConstB,app,subS,lay,rowsOf,lkV,keyKind,keyEq,mfind,mput,oInt,isZeroInt,forall_const,exists_eq_left',implies_true,IntKind.bits, ↓reduceIte,Nat.reduceEqDiff,Nat.reduceAdd,Nat.reduceSub,Nat.reduceMul,Nat.reduceLT,Nat.reduceLeDiff,Nat.reduceBEq,Int.reduceLE,Int.reduceLT,Int.reduceToNat,reduceCtorEq,Ty.all])
    |(refine a_skip ?_;try simp only[pst0, ↓reduceIte,Nat.reduceEqDiff])
    |(refine a_exit ?_;try simp only[pst0, ↓reduceIte,Nat.reduceEqDiff])
    |(refine a_cond _ (by(try simp(maxSteps:=2000000) only[undef,am0,am1,am2,am3,amb0,amb1,amb2,amb3,amb4,lwn,drn,callee,wantedB,isW,eff,pev,pst0,retPost,resAll,resP,resV,intP,mkV,putC,pbin,sbin,strsEq,peq,pint,pshift,pstr,pun,pconv,isShift,isConstB,app,subS,lay,rowsOf,lkV,keyKind,keyEq,mfind,mput,oInt,isZeroInt,forall_const,exists_eq_left',implies_true,IntKind.bits, ↓reduceIte,Nat.reduceEqDiff,Nat.reduceAdd,Nat.reduceSub,Nat.reduceMul,Nat.reduceLT,Nat.reduceLeDiff,Nat.reduceBEq,Int.reduceLE,Int.reduceLT,Int.reduceToNat,reduceCtorEq,Ty.all]);rfl) (fun hb=>?_) (fun hb=>?_)<;>(try simp only[hb0,decide_eq_true_eq,decide_eq_false_iff_not,reduceCtorEq]at hb)<;>(try(exfalso;omega)))
    |(with_reducible refine ite_in (fun hb=>?_) (fun hb=>?_)<;>(try simp only[Decidable.not_not]at hb)<;>(try simp only[hb,if_true,if_false,not_false_eq_true,not_true_eq_false, ↓reduceIte])<;>(try simp only[hb0,decide_eq_true_eq,decide_eq_false_iff_not,reduceCtorEq]at hb)<;>(try(exfalso;omega)))
    |(refine hK _ _ ?_;clear hK;try simp only[pst0, ↓reduceIte,Nat.reduceEqDiff])
    |(clear hK;refine hK _ _ ?_;clear hK;try simp only[pst0, ↓reduceIte,Nat.reduceEqDiff])
    |(clear hK;clear hK;refine hK _ _ ?_;clear hK;try simp only[pst0, ↓reduceIte,Nat.reduceEqDiff])
    |(clear hK;clear hK;clear hK;refine hK _ _ ?_;clear hK;try simp only[pst0, ↓reduceIte,Nat.reduceEqDiff])
    |(rw[if_pos];rotate_left 1;omega;simp(maxSteps:=2000000) only[undef,am0,am1,am2,am3,amb0,amb1,amb2,amb3,amb4,lwn,drn,callee,wantedB,isW,eff,pev,pst0,retPost,resAll,resP,resV,intP,mkV,putC,pbin,sbin,strsEq,peq,pint,pshift,pstr,pun,pconv,isShift,isConstB,app,subS,lay,rowsOf,lkV,keyKind,keyEq,mfind,mput,oInt,isZeroInt,forall_const,exists_eq_left',implies_true,IntKind.bits, ↓reduceIte,Nat.reduceEqDiff,Nat.reduceAdd,Nat.reduceSub,Nat.reduceMul,Nat.reduceLT,Nat.reduceLeDiff,Nat.reduceBEq,Int.reduceLE,Int.reduceLT,Int.reduceToNat,reduceCtorEq,Ty.all]))
   refine owp_useQ (c2 _) (by(try simp only[undef,am0,am1,am2,am3,amb0,amb1,amb2,amb3,amb4,lwn,drn,callee,wantedB,isW,eff,pev,pst0,retPost,resAll,resP,resV,intP,mkV,putC,pbin,sbin,strsEq,peq,pint,pshift,pstr,pun,pconv,isShift,isConstB,app,subS,lay,rowsOf,lkV,keyKind,keyEq,mfind,mput,oInt,isZeroInt,forall_const,exists_eq_left',implies_true,IntKind.bits, ↓reduceIte,Nat.reduceEqDiff,Nat.reduceAdd,Nat.reduceSub,Nat.reduceMul,Nat.reduceLT,Nat.reduceLeDiff,Nat.reduceBEq,Int.reduceLE,Int.reduceLT,Int.reduceToNat,reduceCtorEq,]);try rfl) ?_
   simp(maxSteps:=2000000) only[undef,am0,am1,am2,am3,amb0,amb1,amb2,amb3,amb4,lwn,drn,callee,wantedB,isW,eff,pev,pst0,retPost,resAll,resP,resV,intP,mkV,putC,pbin,sbin,strsEq,peq,pint,pshift,pstr,pun,pconv,isShift,isConstB,app,subS,lay,rowsOf,lkV,keyKind,keyEq,mfind,mput,oInt,isZeroInt,forall_const,exists_eq_left',implies_true,IntKind.bits, ↓reduceIte,Nat.reduceEqDiff,Nat.reduceAdd,Nat.reduceSub,Nat.reduceMul,Nat.reduceLT,Nat.reduceLeDiff,Nat.reduceBEq,Int.reduceLE,Int.reduceLT,Int.reduceToNat,reduceCtorEq,Ty.all,]
   repeat'(first
    |refine a_seq fun K hK=>?_
    |(refine a_block ?_)
    |((first|refine a_regionS ?_|refine a_region (fun K hK=>?_)|refine a_ret ?_);simp(maxSteps:=2000000) only[undef,am0,am1,am2,am3,amb0,amb1,amb2,amb3,amb4,lwn,drn,callee,wantedB,isW,eff,pev,pst0,retPost,resAll,resP,resV,intP,mkV,putC,pbin,sbin,strsEq,peq,pint,pshift,pstr,pun,pconv,isShift,isConstB,app,subS,lay,rowsOf,lkV,keyKind,keyEq,mfind,mput,oInt,isZeroInt,forall_const,exists_eq_left',implies_true,IntKind.bits, ↓reduceIte,Nat.reduceEqDiff,Nat.reduceAdd,Nat.reduceSub,Nat.reduceMul,Nat.reduceLT,Nat.reduceLeDiff,Nat.reduceBEq,Int.reduceLE,Int.reduceLT,Int.reduceToNat,reduceCtorEq,Ty.all])
    |(refine a_skip ?_;try simp only[pst0, ↓reduceIte,Nat.reduceEqDiff])
    |(refine a_exit ?_;try simp only[pst0, ↓reduceIte,Nat.reduceEqDiff])
    |(refine a_cond _ (by(try simp(maxSteps:=2000000) only[undef,am0,am1,am2,am3,amb0,amb1,amb2,amb3,amb4,lwn,drn,callee,wantedB,isW,eff,pev,pst0,retPost,resAll,resP,resV,intP,mkV,putC,pbin,sbin,strsEq,peq,pint,pshift,pstr,pun,pconv,isShift,isConstB,app,subS,lay,rowsOf,lkV,keyKind,keyEq,mfind,mput,oInt,isZeroInt,forall_const,exists_eq_left',implies_true,IntKind.bits, ↓reduceIte,Nat.reduceEqDiff,Nat.reduceAdd,Nat.reduceSub,Nat.reduceMul,Nat.reduceLT,Nat.reduceLeDiff,Nat.reduceBEq,Int.reduceLE,Int.reduceLT,Int.reduceToNat,reduceCtorEq,Ty.all]);rfl) (fun hb=>?_) (fun hb=>?_)<;>(try simp only[hb0,decide_eq_true_eq,decide_eq_false_iff_not,reduceCtorEq]at hb)<;>(try(exfalso;omega)))
    |(with_reducible refine ite_in (fun hb=>?_) (fun hb=>?_)<;>(try simp only[Decidable.not_not]at hb)<;>(try simp only[hb,if_true,if_false,not_false_eq_true,not_true_eq_false, ↓reduceIte])<;>(try simp only[hb0,decide_eq_true_eq,decide_eq_false_iff_not,reduceCtorEq]at hb)<;>(try(exfalso;omega)))
    |(refine hK _ _ ?_;clear hK;try simp only[pst0, ↓reduceIte,Nat.reduceEqDiff])
    |(clear hK;refine hK _ _ ?_;clear hK;try simp only[pst0, ↓reduceIte,Nat.reduceEqDiff])
    |(clear hK;clear hK;refine hK _ _ ?_;clear hK;try simp only[pst0, ↓reduceIte,Nat.reduceEqDiff])
    |(clear hK;clear hK;clear hK;refine hK _ _ ?_;clear hK;try simp only[pst0, ↓reduceIte,Nat.reduceEqDiff])
    |(rw[if_pos];rotate_left 1;omega;simp(maxSteps:=2000000) only[undef,am0,am1,am2,am3,amb0,amb1,amb2,amb3,amb4,lwn,drn,callee,wantedB,isW,eff,pev,pst0,retPost,resAll,resP,resV,intP,mkV,putC,pbin,sbin,strsEq,peq,pint,pshift,pstr,pun,pconv,isShift,isConstB,app,subS,lay,rowsOf,lkV,keyKind,keyEq,mfind,mput,oInt,isZeroInt,forall_const,exists_eq_left',implies_true,IntKind.bits, ↓reduceIte,Nat.reduceEqDiff,Nat.reduceAdd,Nat.reduceSub,Nat.reduceMul,Nat.reduceLT,Nat.reduceLeDiff,Nat.reduceBEq,Int.reduceLE,Int.reduceLT,Int.reduceToNat,reduceCtorEq,Ty.all]))
   all_goals rfl
  |true=>
   cases e3 with
   |false=>
    refine pcall_body (ow:=fun _=>false) (wf:=fun _=>false) Ty.mixed Tryz.func7 rfl Ty.hb_7 (by rw[Tryz.ntmps7];simp) ?_
    rw[Tryz.ntmps7,Tryz.results7]
    repeat'(first
     |refine a_seq fun K hK=>?_
     |(refine a_block ?_)
     |((first|refine a_regionS ?_|refine a_region (fun K hK=>?_)|refine a_ret ?_);simp(maxSteps:=2000000) only[undef,am0,am1,am2,am3,amb0,amb1,amb2,amb3,amb4,lwn,drn,callee,wantedB,isW,eff,pev,pst0,retPost,resAll,resP,resV,intP,mkV,putC,pbin,sbin,strsEq,peq,pint,pshift,pstr,pun,pconv,isShift,isConstB,app,subS,lay,rowsOf,lkV,keyKind,keyEq,mfind,mput,oInt,isZeroInt,forall_const,exists_eq_left',implies_true,IntKind.bits, ↓reduceIte,Nat.reduceEqDiff,Nat.reduceAdd,Nat.reduceSub,Nat.reduceMul,Nat.reduceLT,Nat.reduceLeDiff,Nat.reduceBEq,Int.reduceLE,Int.reduceLT,Int.reduceToNat,reduceCtorEq,Ty.all])
     |(refine a_skip ?_;try simp only[pst0, ↓reduceIte,Nat.reduceEqDiff])
     |(refine a_exit ?_;try simp only[pst0, ↓reduceIte,Nat.reduceEqDiff])
     |(refine a_cond _ (by(try simp(maxSteps:=2000000) only[undef,am0,am1,am2,am3,amb0,amb1,amb2,amb3,amb4,lwn,drn,callee,wantedB,isW,eff,pev,pst0,retPost,resAll,resP,resV,intP,mkV,putC,pbin,sbin,strsEq,peq,pint,pshift,pstr,pun,pconv,isShift,isConstB,app,subS,lay,rowsOf,lkV,keyKind,keyEq,mfind,mput,oInt,isZeroInt,forall_const,exists_eq_left',implies_true,IntKind.bits, ↓reduceIte,Nat.reduceEqDiff,Nat.reduceAdd,Nat.reduceSub,Nat.reduceMul,Nat.reduceLT,Nat.reduceLeDiff,Nat.reduceBEq,Int.reduceLE,Int.reduceLT,Int.reduceToNat,reduceCtorEq,Ty.all]);rfl) (fun hb=>?_) (fun hb=>?_)<;>(try simp only[hb0,decide_eq_true_eq,decide_eq_false_iff_not,reduceCtorEq]at hb)<;>(try(exfalso;omega)))
     |(with_reducible refine ite_in (fun hb=>?_) (fun hb=>?_)<;>(try simp only[Decidable.not_not]at hb)<;>(try simp only[hb,if_true,if_false,not_false_eq_true,not_true_eq_false, ↓reduceIte])<;>(try simp only[hb0,decide_eq_true_eq,decide_eq_false_iff_not,reduceCtorEq]at hb)<;>(try(exfalso;omega)))
     |(refine hK _ _ ?_;clear hK;try simp only[pst0, ↓reduceIte,Nat.reduceEqDiff])
     |(clear hK;refine hK _ _ ?_;clear hK;try simp only[pst0, ↓reduceIte,Nat.reduceEqDiff])
     |(clear hK;clear hK;refine hK _ _ ?_;clear hK;try simp only[pst0, ↓reduceIte,Nat.reduceEqDiff])
     |(clear hK;clear hK;clear hK;refine hK _ _ ?_;clear hK;try simp only[pst0, ↓reduceIte,Nat.reduceEqDiff])
     |(rw[if_pos];rotate_left 1;omega;simp(maxSteps:=2000000) only[undef,am0,am1,am2,am3,amb0,amb1,amb2,amb3,amb4,lwn,drn,callee,wantedB,isW,eff,pev,pst0,retPost,resAll,resP,resV,intP,mkV,putC,pbin,sbin,strsEq,peq,pint,pshift,pstr,pun,pconv,isShift,isConstB,app,subS,lay,rowsOf,lkV,keyKind,keyEq,mfind,mput,oInt,isZeroInt,forall_const,exists_eq_left',implies_true,IntKind.bits, ↓reduceIte,Nat.reduceEqDiff,Nat.reduceAdd,Nat.reduceSub,Nat.reduceMul,Nat.reduceLT,Nat.reduceLeDiff,Nat.reduceBEq,Int.reduceLE,Int.reduceLT,Int.reduceToNat,reduceCtorEq,Ty.all]))
    refine owp_useQ (c1 _) (by(try simp only[undef,am0,am1,am2,am3,amb0,amb1,amb2,amb3,amb4,lwn,drn,callee,wantedB,isW,eff,pev,pst0,retPost,resAll,resP,resV,intP,mkV,putC,pbin,sbin,strsEq,peq,pint,pshift,pstr,pun,pconv,isShift,isConstB,app,subS,lay,rowsOf,lkV,keyKind,keyEq,mfind,mput,oInt,isZeroInt,forall_const,exists_eq_left',implies_true,IntKind.bits, ↓reduceIte,Nat.reduceEqDiff,Nat.reduceAdd,Nat.reduceSub,Nat.reduceMul,Nat.reduceLT,Nat.reduceLeDiff,Nat.reduceBEq,Int.reduceLE,Int.reduceLT,Int.reduceToNat,reduceCtorEq,]);try rfl) ?_
    simp(maxSteps:=2000000) only[undef,am0,am1,am2,am3,amb0,amb1,amb2,amb3,amb4,lwn,drn,callee,wantedB,isW,eff,pev,pst0,retPost,resAll,resP,resV,intP,mkV,putC,pbin,sbin,strsEq,peq,pint,pshift,pstr,pun,pconv,isShift,isConstB,app,subS,lay,rowsOf,lkV,keyKind,keyEq,mfind,mput,oInt,isZeroInt,forall_const,exists_eq_left',implies_true,IntKind.bits, ↓reduceIte,Nat.reduceEqDiff,Nat.reduceAdd,Nat.reduceSub,Nat.reduceMul,Nat.reduceLT,Nat.reduceLeDiff,Nat.reduceBEq,Int.reduceLE,Int.reduceLT,Int.reduceToNat,reduceCtorEq,Ty.all,]
    repeat'(first
     |refine a_seq fun K hK=>?_
     |(refine a_block ?_)
     |((first|refine a_regionS ?_|refine a_region (fun K hK=>?_)|refine a_ret ?_);simp(maxSteps:=2000000) only[undef,am0,am1,am2,am3,amb0,amb1,amb2,amb3,amb4,lwn,drn,callee,wantedB,isW,eff,pev,pst0,retPost,resAll,resP,resV,intP,mkV,putC,pbin,sbin,strsEq,peq,pint,pshift,pstr,pun,pconv,isShift,isConstB,app,subS,lay,rowsOf,lkV,keyKind,keyEq,mfind,mput,oInt,isZeroInt,forall_const,exists_eq_left',implies_true,IntKind.bits, ↓reduceIte,Nat.reduceEqDiff,Nat.reduceAdd,Nat.reduceSub,Nat.reduceMul,Nat.reduceLT,Nat.reduceLeDiff,Nat.reduceBEq,Int.reduceLE,Int.reduceLT,Int.reduceToNat,reduceCtorEq,Ty.all])
     |(refine a_skip ?_;try simp only[pst0, ↓reduceIte,Nat.reduceEqDiff])
     |(refine a_exit ?_;try simp only[pst0, ↓reduceIte,Nat.reduceEqDiff])
     |(refine a_cond _ (by(try simp(maxSteps:=2000000) only[undef,am0,am1,am2,am3,amb0,amb1,amb2,amb3,amb4,lwn,drn,callee,wantedB,isW,eff,pev,pst0,retPost,resAll,resP,resV,intP,mkV,putC,pbin,sbin,strsEq,peq,pint,pshift,pstr,pun,pconv,isShift,isConstB,app,subS,lay,rowsOf,lkV,keyKind,keyEq,mfind,mput,oInt,isZeroInt,forall_const,exists_eq_left',implies_true,IntKind.bits, ↓reduceIte,Nat.reduceEqDiff,Nat.reduceAdd,Nat.reduceSub,Nat.reduceMul,Nat.reduceLT,Nat.reduceLeDiff,Nat.reduceBEq,Int.reduceLE,Int.reduceLT,Int.reduceToNat,reduceCtorEq,Ty.all]);rfl) (fun hb=>?_) (fun hb=>?_)<;>(try simp only[hb0,decide_eq_true_eq,decide_eq_false_iff_not,reduceCtorEq]at hb)<;>(try(exfalso;omega)))
     |(with_reducible refine ite_in (fun hb=>?_) (fun hb=>?_)<;>(try simp only[Decidable.not_not]at hb)<;>(try simp only[hb,if_true,if_false,not_false_eq_true,not_true_eq_false, ↓reduceIte])<;>(try simp only[hb0,decide_eq_true_eq,decide_eq_false_iff_not,reduceCtorEq]at hb)<;>(try(exfalso;omega)))
     |(refine hK _ _ ?_;clear hK;try simp only[pst0, ↓reduceIte,Nat.reduceEqDiff])
     |(clear hK;refine hK _ _ ?_;clear hK;try simp only[pst0, ↓reduceIte,Nat.reduceEqDiff])
     |(clear hK;clear hK;refine hK _ _ ?_;clear hK;try simp only[pst0, ↓reduceIte,Nat.reduceEqDiff])
     |(clear hK;clear hK;clear hK;refine hK _ _ ?_;clear hK;try simp only[pst0, ↓reduceIte,Nat.reduceEqDiff])
     |(rw[if_pos];rotate_left 1;omega;simp(maxSteps:=2000000) only[undef,am0,am1,am2,am3,amb0,amb1,amb2,amb3,amb4,lwn,drn,callee,wantedB,isW,eff,pev,pst0,retPost,resAll,resP,resV,intP,mkV,putC,pbin,sbin,strsEq,peq,pint,pshift,pstr,pun,pconv,isShift,isConstB,app,subS,lay,rowsOf,lkV,keyKind,keyEq,mfind,mput,oInt,isZeroInt,forall_const,exists_eq_left',implies_true,IntKind.bits, ↓reduceIte,Nat.reduceEqDiff,Nat.reduceAdd,Nat.reduceSub,Nat.reduceMul,Nat.reduceLT,Nat.reduceLeDiff,Nat.reduceBEq,Int.reduceLE,Int.reduceLT,Int.reduceToNat,reduceCtorEq,Ty.all]))
    refine owp_useQ (c2 _) (by(try simp only[undef,am0,am1,am2,am3,amb0,amb1,amb2,amb3,amb4,lwn,drn,callee,wantedB,isW,eff,pev,pst0,retPost,resAll,resP,resV,intP,mkV,putC,pbin,sbin,strsEq,peq,pint,pshift,pstr,pun,pconv,isShift,isConstB,app,subS,lay,rowsOf,lkV,keyKind,keyEq,mfind,mput,oInt,isZeroInt,forall_const,exists_eq_left',implies_true,IntKind.bits, ↓reduceIte,Nat.reduceEqDiff,Nat.reduceAdd,Nat.reduceSub,Nat.reduceMul,Nat.reduceLT,Nat.reduceLeDiff,Nat.reduceBEq,Int.reduceLE,Int.reduceLT,Int.reduceToNat,reduceCtorEq,]);try rfl) ?_
    simp(maxSteps:=2000000) only[undef,am0,am1,am2,am3,amb0,amb1,amb2,amb3,amb4,lwn,drn,callee,wantedB,isW,eff,pev,pst0,retPost,resAll,resP,resV,intP,mkV,putC,pbin,sbin,strsEq,peq,pint,pshift,pstr,pun,pconv,isShift,isConstB,app,subS,lay,rowsOf,lkV,keyKind,keyEq,mfind,mput,oInt,isZeroInt,forall_const,exists_eq_left',implies_true,IntKind.bits, ↓reduceIte,Nat.reduceEqDiff,Nat.reduceAdd,Nat.reduceSub,Nat.reduceMul,Nat.reduceLT,Nat.reduceLeDiff,Nat.reduceBEq,Int.reduceLE,Int.reduceLT,Int.reduceToNat,reduceCtorEq,Ty.all,]
    repeat'(first
     |refine a_seq fun K hK=>?_
     |(refine a_block ?_)
     |((first|refine a_regionS ?_|refine a_region (fun K hK=>?_)|refine a_ret ?_);simp(maxSteps:=2000000) only[undef,am0,am1,am2,am3,amb0,amb1,amb2,amb3,amb4,lwn,drn,callee,wantedB,isW,eff,pev,pst0,retPost,resAll,resP,resV,intP,mkV,putC,pbin,sbin,strsEq,peq,pint,pshift,pstr,pun,pconv,isShift,isConstB,app,subS,lay,rowsOf,lkV,keyKind,keyEq,mfind,mput,oInt,isZeroInt,forall_const,exists_eq_left',implies_true,IntKind.bits, ↓reduceIte,Nat.reduceEqDiff,Nat.reduceAdd,Nat.reduceSub,Nat.reduceMul,Nat.reduceLT,Nat.reduceLeDiff,Nat.reduceBEq,Int.reduceLE,Int.reduceLT,Int.reduceToNat,reduceCtorEq,Ty.all])
     |(refine a_skip ?_;try simp only[pst0, ↓reduceIte,Nat.reduceEqDiff])
     |(refine a_exit ?_;try simp only[pst0, ↓reduceIte,Nat.reduceEqDiff])
     |(refine a_cond _ (by(try simp(maxSteps:=2000000) only[undef,am0,am1,am2,am3,amb0,amb1,amb2,amb3,amb4,lwn,drn,callee,wantedB,isW,eff,pev,pst0,retPost,resAll,resP,resV,intP,mkV,putC,pbin,sbin,strsEq,peq,pint,pshift,pstr,pun,pconv,isShift,isConstB,app,subS,lay,rowsOf,lkV,keyKind,keyEq,mfind,mput,oInt,isZeroInt,forall_const,exists_eq_left',implies_true,IntKind.bits, ↓reduceIte,Nat.reduceEqDiff,Nat.reduceAdd,Nat.reduceSub,Nat.reduceMul,Nat.reduceLT,Nat.reduceLeDiff,Nat.reduceBEq,Int.reduceLE,Int.reduceLT,Int.reduceToNat,reduceCtorEq,Ty.all]);rfl) (fun hb=>?_) (fun hb=>?_)<;>(try simp only[hb0,decide_eq_true_eq,decide_eq_false_iff_not,reduceCtorEq]at hb)<;>(try(exfalso;omega)))
     |(with_reducible refine ite_in (fun hb=>?_) (fun hb=>?_)<;>(try simp only[Decidable.not_not]at hb)<;>(try simp only[hb,if_true,if_false,not_false_eq_true,not_true_eq_false, ↓reduceIte])<;>(try simp only[hb0,decide_eq_true_eq,decide_eq_false_iff_not,reduceCtorEq]at hb)<;>(try(exfalso;omega)))
     |(refine hK _ _ ?_;clear hK;try simp only[pst0, ↓reduceIte,Nat.reduceEqDiff])
     |(clear hK;refine hK _ _ ?_;clear hK;try simp only[pst0, ↓reduceIte,Nat.reduceEqDiff])
     |(clear hK;clear hK;refine hK _ _ ?_;clear hK;try simp only[pst0, ↓reduceIte,Nat.reduceEqDiff])
     |(clear hK;clear hK;clear hK;refine hK _ _ ?_;clear hK;try simp only[pst0, ↓reduceIte,Nat.reduceEqDiff])
     |(rw[if_pos];rotate_left 1;omega;simp(maxSteps:=2000000) only[undef,am0,am1,am2,am3,amb0,amb1,amb2,amb3,amb4,lwn,drn,callee,wantedB,isW,eff,pev,pst0,retPost,resAll,resP,resV,intP,mkV,putC,pbin,sbin,strsEq,peq,pint,pshift,pstr,pun,pconv,isShift,isConstB,app,subS,lay,rowsOf,lkV,keyKind,keyEq,mfind,mput,oInt,isZeroInt,forall_const,exists_eq_left',implies_true,IntKind.bits, ↓reduceIte,Nat.reduceEqDiff,Nat.reduceAdd,Nat.reduceSub,Nat.reduceMul,Nat.reduceLT,Nat.reduceLeDiff,Nat.reduceBEq,Int.reduceLE,Int.reduceLT,Int.reduceToNat,reduceCtorEq,Ty.all]))
    refine owp_useQ (c3 _) (by(try simp only[undef,am0,am1,am2,am3,amb0,amb1,amb2,amb3,amb4,lwn,drn,callee,wantedB,isW,eff,pev,pst0,retPost,resAll,resP,resV,intP,mkV,putC,pbin,sbin,strsEq,peq,pint,pshift,pstr,pun,pconv,isShift,isConstB,app,subS,lay,rowsOf,lkV,keyKind,keyEq,mfind,mput,oInt,isZeroInt,forall_const,exists_eq_left',implies_true,IntKind.bits, ↓reduceIte,Nat.reduceEqDiff,Nat.reduceAdd,Nat.reduceSub,Nat.reduceMul,Nat.reduceLT,Nat.reduceLeDiff,Nat.reduceBEq,Int.reduceLE,Int.reduceLT,Int.reduceToNat,reduceCtorEq,]);try rfl) ?_
    simp(maxSteps:=2000000) only[undef,am0,am1,am2,am3,amb0,amb1,amb2,amb3,amb4,lwn,drn,callee,wantedB,isW,eff,pev,pst0,retPost,resAll,resP,resV,intP,mkV,putC,pbin,sbin,strsEq,peq,pint,pshift,pstr,pun,pconv,isShift,isConstB,app,subS,lay,rowsOf,lkV,keyKind,keyEq,mfind,mput,oInt,isZeroInt,forall_const,exists_eq_left',implies_true,IntKind.bits, ↓reduceIte,Nat.reduceEqDiff,Nat.reduceAdd,Nat.reduceSub,Nat.reduceMul,Nat.reduceLT,Nat.reduceLeDiff,Nat.reduceBEq,Int.reduceLE,Int.reduceLT,Int.reduceToNat,reduceCtorEq,Ty.all,]
    repeat'(first
     |refine a_seq fun K hK=>?_
     |(refine a_block ?_)
     |((first|refine a_regionS ?_|refine a_region (fun K hK=>?_)|refine a_ret ?_);simp(maxSteps:=2000000) only[undef,am0,am1,am2,am3,amb0,amb1,amb2,amb3,amb4,lwn,drn,callee,wantedB,isW,eff,pev,pst0,retPost,resAll,resP,resV,intP,mkV,putC,pbin,sbin,strsEq,peq,pint,pshift,pstr,pun,pconv,isShift,isConstB,app,subS,lay,rowsOf,lkV,keyKind,keyEq,mfind,mput,oInt,isZeroInt,forall_const,exists_eq_left',implies_true,IntKind.bits, ↓reduceIte,Nat.reduceEqDiff,Nat.reduceAdd,Nat.reduceSub,Nat.reduceMul,Nat.reduceLT,Nat.reduceLeDiff,Nat.reduceBEq,Int.reduceLE,Int.reduceLT,Int.reduceToNat,reduceCtorEq,Ty.all])
     |(refine a_skip ?_;try simp only[pst0, ↓reduceIte,Nat.reduceEqDiff])
     |(refine a_exit ?_;try simp only[pst0, ↓reduceIte,Nat.reduceEqDiff])
     |(refine a_cond _ (by(try simp(maxSteps:=2000000) only[undef,am0,am1,am2,am3,amb0,amb1,amb2,amb3,amb4,lwn,drn,callee,wantedB,isW,eff,pev,pst0,retPost,resAll,resP,resV,intP,mkV,putC,pbin,sbin,strsEq,peq,pint,pshift,pstr,pun,pconv,isShift,isConstB,app,subS,lay,rowsOf,lkV,keyKind,keyEq,mfind,mput,oInt,isZeroInt,forall_const,exists_eq_left',implies_true,IntKind.bits, ↓reduceIte,Nat.reduceEqDiff,Nat.reduceAdd,Nat.reduceSub,Nat.reduceMul,Nat.reduceLT,Nat.reduceLeDiff,Nat.reduceBEq,Int.reduceLE,Int.reduceLT,Int.reduceToNat,reduceCtorEq,Ty.all]);rfl) (fun hb=>?_) (fun hb=>?_)<;>(try simp only[hb0,decide_eq_true_eq,decide_eq_false_iff_not,reduceCtorEq]at hb)<;>(try(exfalso;omega)))
     |(with_reducible refine ite_in (fun hb=>?_) (fun hb=>?_)<;>(try simp only[Decidable.not_not]at hb)<;>(try simp only[hb,if_true,if_false,not_false_eq_true,not_true_eq_false, ↓reduceIte])<;>(try simp only[hb0,decide_eq_true_eq,decide_eq_false_iff_not,reduceCtorEq]at hb)<;>(try(exfalso;omega)))
     |(refine hK _ _ ?_;clear hK;try simp only[pst0, ↓reduceIte,Nat.reduceEqDiff])
     |(clear hK;refine hK _ _ ?_;clear hK;try simp only[pst0, ↓reduceIte,Nat.reduceEqDiff])
     |(clear hK;clear hK;refine hK _ _ ?_;clear hK;try simp only[pst0, ↓reduceIte,Nat.reduceEqDiff])
     |(clear hK;clear hK;clear hK;refine hK _ _ ?_;clear hK;try simp only[pst0, ↓reduceIte,Nat.reduceEqDiff])
     |(rw[if_pos];rotate_left 1;omega;simp(maxSteps:=2000000) only[undef,am0,am1,am2,am3,amb0,amb1,amb2,amb3,amb4,lwn,drn,callee,wantedB,isW,eff,pev,pst0,retPost,resAll,resP,resV,intP,mkV,putC,pbin,sbin,strsEq,peq,pint,pshift,pstr,pun,pconv,isShift,isConstB,app,subS,lay,rowsOf,lkV,keyKind,keyEq,mfind,mput,oInt,isZeroInt,forall_const,exists_eq_left',implies_true,IntKind.bits, ↓reduceIte,Nat.reduceEqDiff,Nat.reduceAdd,Nat.reduceSub,Nat.reduceMul,Nat.reduceLT,Nat.reduceLeDiff,Nat.reduceBEq,Int.reduceLE,Int.reduceLT,Int.reduceToNat,reduceCtorEq,Ty.all]))
    all_goals rfl
   |true=>
    refine pcall_body (ow:=fun _=>false) (wf:=fun _=>false) Ty.mixed Tryz.func7 rfl Ty.hb_7 (by rw[Tryz.ntmps7];simp) ?_
    rw[Tryz.ntmps7,Tryz.results7]
    repeat'(first
     |refine a_seq fun K hK=>?_
     |(refine a_block ?_)
     |((first|refine a_regionS ?_|refine a_region (fun K hK=>?_)|refine a_ret ?_);simp(maxSteps:=2000000) only[undef,am0,am1,am2,am3,amb0,amb1,amb2,amb3,amb4,lwn,drn,callee,wantedB,isW,eff,pev,pst0,retPost,resAll,resP,resV,intP,mkV,putC,pbin,sbin,strsEq,peq,pint,pshift,pstr,pun,pconv,isShift,isConstB,app,subS,lay,rowsOf,lkV,keyKind,keyEq,mfind,mput,oInt,isZeroInt,forall_const,exists_eq_left',implies_true,IntKind.bits, ↓reduceIte,Nat.reduceEqDiff,Nat.reduceAdd,Nat.reduceSub,Nat.reduceMul,Nat.reduceLT,Nat.reduceLeDiff,Nat.reduceBEq,Int.reduceLE,Int.reduceLT,Int.reduceToNat,reduceCtorEq,Ty.all])
     |(refine a_skip ?_;try simp only[pst0, ↓reduceIte,Nat.reduceEqDiff])
     |(refine a_exit ?_;try simp only[pst0, ↓reduceIte,Nat.reduceEqDiff])
     |(refine a_cond _ (by(try simp(maxSteps:=2000000) only[undef,am0,am1,am2,am3,amb0,amb1,amb2,amb3,amb4,lwn,drn,callee,wantedB,isW,eff,pev,pst0,retPost,resAll,resP,resV,intP,mkV,putC,pbin,sbin,strsEq,peq,pint,pshift,pstr,pun,pconv,isShift,isConstB,app,subS,lay,rowsOf,lkV,keyKind,keyEq,mfind,mput,oInt,isZeroInt,forall_const,exists_eq_left',implies_true,IntKind.bits, ↓reduceIte,Nat.reduceEqDiff,Nat.reduceAdd,Nat.reduceSub,Nat.reduceMul,Nat.reduceLT,Nat.reduceLeDiff,Nat.reduceBEq,Int.reduceLE,Int.reduceLT,Int.reduceToNat,reduceCtorEq,Ty.all]);rfl) (fun hb=>?_) (fun hb=>?_)<;>(try simp only[hb0,decide_eq_true_eq,decide_eq_false_iff_not,reduceCtorEq]at hb)<;>(try(exfalso;omega)))
     |(with_reducible refine ite_in (fun hb=>?_) (fun hb=>?_)<;>(try simp only[Decidable.not_not]at hb)<;>(try simp only[hb,if_true,if_false,not_false_eq_true,not_true_eq_false, ↓reduceIte])<;>(try simp only[hb0,decide_eq_true_eq,decide_eq_false_iff_not,reduceCtorEq]at hb)<;>(try(exfalso;omega)))
     |(refine hK _ _ ?_;clear hK;try simp only[pst0, ↓reduceIte,Nat.reduceEqDiff])
     |(clear hK;refine hK _ _ ?_;clear hK;try simp only[pst0, ↓reduceIte,Nat.reduceEqDiff])
     |(clear hK;clear hK;refine hK _ _ ?_;clear hK;try simp only[pst0, ↓reduceIte,Nat.reduceEqDiff])
     |(clear hK;clear hK;clear hK;refine hK _ _ ?_;clear hK;try simp only[pst0, ↓reduceIte,Nat.reduceEqDiff])
     |(rw[if_pos];rotate_left 1;omega;simp(maxSteps:=2000000) only[undef,am0,am1,am2,am3,amb0,amb1,amb2,amb3,amb4,lwn,drn,callee,wantedB,isW,eff,pev,pst0,retPost,resAll,resP,resV,intP,mkV,putC,pbin,sbin,strsEq,peq,pint,pshift,pstr,pun,pconv,isShift,isConstB,app,subS,lay,rowsOf,lkV,keyKind,keyEq,mfind,mput,oInt,isZeroInt,forall_const,exists_eq_left',implies_true,IntKind.bits, ↓reduceIte,Nat.reduceEqDiff,Nat.reduceAdd,Nat.reduceSub,Nat.reduceMul,Nat.reduceLT,Nat.reduceLeDiff,Nat.reduceBEq,Int.reduceLE,Int.reduceLT,Int.reduceToNat,reduceCtorEq,Ty.all]))
    refine owp_useQ (c1 _) (by(try simp only[undef,am0,am1,am2,am3,amb0,amb1,amb2,amb3,amb4,lwn,drn,callee,wantedB,isW,eff,pev,pst0,retPost,resAll,resP,resV,intP,mkV,putC,pbin,sbin,strsEq,peq,pint,pshift,pstr,pun,pconv,isShift,isConstB,app,subS,lay,rowsOf,lkV,keyKind,keyEq,mfind,mput,oInt,isZeroInt,forall_const,exists_eq_left',implies_true,IntKind.bits, ↓reduceIte,Nat.reduceEqDiff,Nat.reduceAdd,Nat.reduceSub,Nat.reduceMul,Nat.reduceLT,Nat.reduceLeDiff,Nat.reduceBEq,Int.reduceLE,Int.reduceLT,Int.reduceToNat,reduceCtorEq,]);try rfl) ?_
    simp(maxSteps:=2000000) only[undef,am0,am1,am2,am3,amb0,amb1,amb2,amb3,amb4,lwn,drn,callee,wantedB,isW,eff,pev,pst0,retPost,resAll,resP,resV,intP,mkV,putC,pbin,sbin,strsEq,peq,pint,pshift,pstr,pun,pconv,isShift,isConstB,app,subS,lay,rowsOf,lkV,keyKind,keyEq,mfind,mput,oInt,isZeroInt,forall_const,exists_eq_left',implies_true,IntKind.bits, ↓reduceIte,Nat.reduceEqDiff,Nat.reduceAdd,Nat.reduceSub,Nat.reduceMul,Nat.reduceLT,Nat.reduceLeDiff,Nat.reduceBEq,Int.reduceLE,Int.reduceLT,Int.reduceToNat,reduceCtorEq,Ty.all,]
    repeat'(first
     |refine a_seq fun K hK=>?_
     |(refine a_block ?_)
     |((first|refine a_regionS ?_|refine a_region (fun K hK=>?_)|refine a_ret ?_);simp(maxSteps:=2000000) only[undef,am0,am1,am2,am3,amb0,amb1,amb2,amb3,amb4,lwn,drn,callee,wantedB,isW,eff,pev,pst0,retPost,resAll,resP,resV,intP,mkV,putC,pbin,sbin,strsEq,peq,pint,pshift,pstr,pun,pconv,isShift,isConstB,app,subS,lay,rowsOf,lkV,keyKind,keyEq,mfind,mput,oInt,isZeroInt,forall_const,exists_eq_left',implies_true,IntKind.bits, ↓reduceIte,Nat.reduceEqDiff,Nat.reduceAdd,Nat.reduceSub,Nat.reduceMul,Nat.reduceLT,Nat.reduceLeDiff,Nat.reduceBEq,Int.reduceLE,Int.reduceLT,Int.reduceToNat,reduceCtorEq,Ty.all])
     |(refine a_skip ?_;try simp only[pst0, ↓reduceIte,Nat.reduceEqDiff])
     |(refine a_exit ?_;try simp only[pst0, ↓reduceIte,Nat.reduceEqDiff])
     |(refine a_cond _ (by(try simp(maxSteps:=2000000) only[undef,am0,am1,am2,am3,amb0,amb1,amb2,amb3,amb4,lwn,drn,callee,wantedB,isW,eff,pev,pst0,retPost,resAll,resP,resV,intP,mkV,putC,pbin,sbin,strsEq,peq,pint,pshift,pstr,pun,pconv,isShift,isConstB,app,subS,lay,rowsOf,lkV,keyKind,keyEq,mfind,mput,oInt,isZeroInt,forall_const,exists_eq_left',implies_true,IntKind.bits, ↓reduceIte,Nat.reduceEqDiff,Nat.reduceAdd,Nat.reduceSub,Nat.reduceMul,Nat.reduceLT,Nat.reduceLeDiff,Nat.reduceBEq,Int.reduceLE,Int.reduceLT,Int.reduceToNat,reduceCtorEq,Ty.all]);rfl) (fun hb=>?_) (fun hb=>?_)<;>(try simp only[hb0,decide_eq_true_eq,decide_eq_false_iff_not,reduceCtorEq]at hb)<;>(try(exfalso;omega)))
     |(with_reducible refine ite_in (fun hb=>?_) (fun hb=>?_)<;>(try simp only[Decidable.not_not]at hb)<;>(try simp only[hb,if_true,if_false,not_false_eq_true,not_true_eq_false, ↓reduceIte])<;>(try simp only[hb0,decide_eq_true_eq,decide_eq_false_iff_not,reduceCtorEq]at hb)<;>(try(exfalso;omega)))
     |(refine hK _ _ ?_;clear hK;try simp only[pst0, ↓reduceIte,Nat.reduceEqDiff])
     |(clear hK;refine hK _ _ ?_;clear hK;try simp only[pst0, ↓reduceIte,Nat.reduceEqDiff])
     |(clear hK;clear hK;refine hK _ _ ?_;clear hK;try simp only[pst0, ↓reduceIte,Nat.reduceEqDiff])
     |(clear hK;clear hK;clear hK;refine hK _ _ ?_;clear hK;try simp only[pst0, ↓reduceIte,Nat.reduceEqDiff])
     |(rw[if_pos];rotate_left 1;omega;simp(maxSteps:=2000000) only[undef,am0,am1,am2,am3,amb0,amb1,amb2,amb3,amb4,lwn,drn,callee,wantedB,isW,eff,pev,pst0,retPost,resAll,resP,resV,intP,mkV,putC,pbin,sbin,strsEq,peq,pint,pshift,pstr,pun,pconv,isShift,isConstB,app,subS,lay,rowsOf,lkV,keyKind,keyEq,mfind,mput,oInt,isZeroInt,forall_const,exists_eq_left',implies_true,IntKind.bits, ↓reduceIte,Nat.reduceEqDiff,Nat.reduceAdd,Nat.reduceSub,Nat.reduceMul,Nat.reduceLT,Nat.reduceLeDiff,Nat.reduceBEq,Int.reduceLE,Int.reduceLT,Int.reduceToNat,reduceCtorEq,Ty.all]))
    refine owp_useQ (c2 _) (by(try simp only[undef,am0,am1,am2,am3,amb0,amb1,amb2,amb3,amb4,lwn,drn,callee,wantedB,isW,eff,pev,pst0,retPost,resAll,resP,resV,intP,mkV,putC,pbin,sbin,strsEq,peq,pint,pshift,pstr,pun,pconv,isShift,isConstB,app,subS,lay,rowsOf,lkV,keyKind,keyEq,mfind,mput,oInt,isZeroInt,forall_const,exists_eq_left',implies_true,IntKind.bits, ↓reduceIte,Nat.reduceEqDiff,Nat.reduceAdd,Nat.reduceSub,Nat.reduceMul,Nat.reduceLT,Nat.reduceLeDiff,Nat.reduceBEq,Int.reduceLE,Int.reduceLT,Int.reduceToNat,reduceCtorEq,]);try rfl) ?_
    simp(maxSteps:=2000000) only[undef,am0,am1,am2,am3,amb0,amb1,amb2,amb3,amb4,lwn,drn,callee,wantedB,isW,eff,pev,pst0,retPost,resAll,resP,resV,intP,mkV,putC,pbin,sbin,strsEq,peq,pint,pshift,pstr,pun,pconv,isShift,isConstB,app,subS,lay,rowsOf,lkV,keyKind,keyEq,mfind,mput,oInt,isZeroInt,forall_const,exists_eq_left',implies_true,IntKind.bits, ↓reduceIte,Nat.reduceEqDiff,Nat.reduceAdd,Nat.reduceSub,Nat.reduceMul,Nat.reduceLT,Nat.reduceLeDiff,Nat.reduceBEq,Int.reduceLE,Int.reduceLT,Int.reduceToNat,reduceCtorEq,Ty.all,]
    repeat'(first
     |refine a_seq fun K hK=>?_
     |(refine a_block ?_)
     |((first|refine a_regionS ?_|refine a_region (fun K hK=>?_)|refine a_ret ?_);simp(maxSteps:=2000000) only[undef,am0,am1,am2,am3,amb0,amb1,amb2,amb3,amb4,lwn,drn,callee,wantedB,isW,eff,pev,pst0,retPost,resAll,resP,resV,intP,mkV,putC,pbin,sbin,strsEq,peq,pint,pshift,pstr,pun,pconv,isShift,isConstB,app,subS,lay,rowsOf,lkV,keyKind,keyEq,mfind,mput,oInt,isZeroInt,forall_const,exists_eq_left',implies_true,IntKind.bits, ↓reduceIte,Nat.reduceEqDiff,Nat.reduceAdd,Nat.reduceSub,Nat.reduceMul,Nat.reduceLT,Nat.reduceLeDiff,Nat.reduceBEq,Int.reduceLE,Int.reduceLT,Int.reduceToNat,reduceCtorEq,Ty.all])
     |(refine a_skip ?_;try simp only[pst0, ↓reduceIte,Nat.reduceEqDiff])
     |(refine a_exit ?_;try simp only[pst0, ↓reduceIte,Nat.reduceEqDiff])
     |(refine a_cond _ (by(try simp(maxSteps:=2000000) only[undef,am0,am1,am2,am3,amb0,amb1,amb2,amb3,amb4,lwn,drn,callee,wantedB,isW,eff,pev,pst0,retPost,resAll,resP,resV,intP,mkV,putC,pbin,sbin,strsEq,peq,pint,pshift,pstr,pun,pconv,isShift,isConstB,app,subS,lay,rowsOf,lkV,keyKind,keyEq,mfind,mput,oInt,isZeroInt,forall_const,exists_eq_left',implies_true,IntKind.bits, ↓reduceIte,Nat.reduceEqDiff,Nat.reduceAdd,Nat.reduceSub,Nat.reduceMul,Nat.reduceLT,Nat.reduceLeDiff,Nat.reduceBEq,Int.reduceLE,Int.reduceLT,Int.reduceToNat,reduceCtorEq,Ty.all]);rfl) (fun hb=>?_) (fun hb=>?_)<;>(try simp only[hb0,decide_eq_true_eq,decide_eq_false_iff_not,reduceCtorEq]at hb)<;>(try(exfalso;omega)))
     |(with_reducible refine ite_in (fun hb=>?_) (fun hb=>?_)<;>(try simp only[Decidable.not_not]at hb)<;>(try simp only[hb,if_true,if_false,not_false_eq_true,not_true_eq_false, ↓reduceIte])<;>(try simp only[hb0,decide_eq_true_eq,decide_eq_false_iff_not,reduceCtorEq]at hb)<;>(try(exfalso;omega)))
     |(refine hK _ _ ?_;clear hK;try simp only[pst0, ↓reduceIte,Nat.reduceEqDiff])
     |(clear hK;refine hK _ _ ?_;clear hK;try simp only[pst0, ↓reduceIte,Nat.reduceEqDiff])
     |(clear hK;clear hK;refine hK _ _ ?_;clear hK;try simp only[pst0, ↓reduceIte,Nat.reduceEqDiff])
     |(clear hK;clear hK;clear hK;refine hK _ _ ?_;clear hK;try simp only[pst0, ↓reduceIte,Nat.reduceEqDiff])
     |(rw[if_pos];rotate_left 1;omega;simp(maxSteps:=2000000) only[undef,am0,am1,am2,am3,amb0,amb1,amb2,amb3,amb4,lwn,drn,callee,wantedB,isW,eff,pev,pst0,retPost,resAll,resP,resV,intP,mkV,putC,pbin,sbin,strsEq,peq,pint,pshift,pstr,pun,pconv,isShift,isConstB,app,subS,lay,rowsOf,lkV,keyKind,keyEq,mfind,mput,oInt,isZeroInt,forall_const,exists_eq_left',implies_true,IntKind.bits, ↓reduceIte,Nat.reduceEqDiff,Nat.reduceAdd,Nat.reduceSub,Nat.reduceMul,Nat.reduceLT,Nat.reduceLeDiff,Nat.reduceBEq,Int.reduceLE,Int.reduceLT,Int.reduceToNat,reduceCtorEq,Ty.all]))
    refine owp_useQ (c3 _) (by(try simp only[undef,am0,am1,am2,am3,amb0,amb1,amb2,amb3,amb4,lwn,drn,callee,wantedB,isW,eff,pev,pst0,retPost,resAll,resP,resV,intP,mkV,putC,pbin,sbin,strsEq,peq,pint,pshift,pstr,pun,pconv,isShift,isConstB,app,subS,lay,rowsOf,lkV,keyKind,keyEq,mfind,mput,oInt,isZeroInt,forall_const,exists_eq_left',implies_true,IntKind.bits, ↓reduceIte,Nat.reduceEqDiff,Nat.reduceAdd,Nat.reduceSub,Nat.reduceMul,Nat.reduceLT,Nat.reduceLeDiff,Nat.reduceBEq,Int.reduceLE,Int.reduceLT,Int.reduceToNat,reduceCtorEq,]);try rfl) ?_
    simp(maxSteps:=2000000) only[undef,am0,am1,am2,am3,amb0,amb1,amb2,amb3,amb4,lwn,drn,callee,wantedB,isW,eff,pev,pst0,retPost,resAll,resP,resV,intP,mkV,putC,pbin,sbin,strsEq,peq,pint,pshift,pstr,pun,pconv,isShift,isConstB,app,subS,lay,rowsOf,lkV,keyKind,keyEq,mfind,mput,oInt,isZeroInt,forall_const,exists_eq_left',implies_true,IntKind.bits, ↓reduceIte,Nat.reduceEqDiff,Nat.reduceAdd,Nat.reduceSub,Nat.reduceMul,Nat.reduceLT,Nat.reduceLeDiff,Nat.reduceBEq,Int.reduceLE,Int.reduceLT,Int.reduceToNat,reduceCtorEq,Ty.all,]
    repeat'(first
     |refine a_seq fun K hK=>?_
     |(refine a_block ?_)
     |((first|refine a_regionS ?_|refine a_region (fun K hK=>?_)|refine a_ret ?_);simp(maxSteps:=2000000) only[undef,am0,am1,am2,am3,amb0,amb1,amb2,amb3,amb4,lwn,drn,callee,wantedB,isW,eff,pev,pst0,retPost,resAll,resP,resV,intP,mkV,putC,pbin,sbin,strsEq,peq,pint,pshift,pstr,pun,pconv,isShift,isConstB,app,subS,lay,rowsOf,lkV,keyKind,keyEq,mfind,mput,oInt,isZeroInt,forall_const,exists_eq_left',implies_true,IntKind.bits, ↓reduceIte,Nat.reduceEqDiff,Nat.reduceAdd,Nat.reduceSub,Nat.reduceMul,Nat.reduceLT,Nat.reduceLeDiff,Nat.reduceBEq,Int.reduceLE,Int.reduceLT,Int.reduceToNat,reduceCtorEq,Ty.all])
     |(refine a_skip ?_;try simp only[pst0, ↓reduceIte,Nat.reduceEqDiff])
     |(refine a_exit ?_;try simp only[pst0, ↓reduceIte,Nat.reduceEqDiff])
     |(refine a_cond _ (by(try simp(maxSteps:=2000000) only[undef,am0,am1,am2,am3,amb0,amb1,amb2,amb3,amb4,lwn,drn,callee,wantedB,isW,eff,pev,pst0,retPost,resAll,resP,resV,intP,mkV,putC,pbin,sbin,strsEq,peq,pint,pshift,pstr,pun,pconv,isShift,isConstB,app,subS,lay,rowsOf,lkV,keyKind,keyEq,mfind,mput,oInt,isZeroInt,forall_const,exists_eq_left',implies_true,IntKind.bits, ↓reduceIte,Nat.reduceEqDiff,Nat.reduceAdd,Nat.reduceSub,Nat.reduceMul,Nat.reduceLT,Nat.reduceLeDiff,Nat.reduceBEq,Int.reduceLE,Int.reduceLT,Int.reduceToNat,reduceCtorEq,Ty.all]);rfl) (fun hb=>?_) (fun hb=>?_)<;>(try simp only[hb0,decide_eq_true_eq,decide_eq_false_iff_not,reduceCtorEq]at hb)<;>(try(exfalso;omega)))
     |(with_reducible refine ite_in (fun hb=>?_) (fun hb=>?_)<;>(try simp only[Decidable.not_not]at hb)<;>(try simp only[hb,if_true,if_false,not_false_eq_true,not_true_eq_false, ↓reduceIte])<;>(try simp only[hb0,decide_eq_true_eq,decide_eq_false_iff_not,reduceCtorEq]at hb)<;>(try(exfalso;omega)))
     |(refine hK _ _ ?_;clear hK;try simp only[pst0, ↓reduceIte,Nat.reduceEqDiff])
     |(clear hK;refine hK _ _ ?_;clear hK;try simp only[pst0, ↓reduceIte,Nat.reduceEqDiff])
     |(clear hK;clear hK;refine hK _ _ ?_;clear hK;try simp only[pst0, ↓reduceIte,Nat.reduceEqDiff])
     |(clear hK;clear hK;clear hK;refine hK _ _ ?_;clear hK;try simp only[pst0, ↓reduceIte,Nat.reduceEqDiff])
     |(rw[if_pos];rotate_left 1;omega;simp(maxSteps:=2000000) only[undef,am0,am1,am2,am3,amb0,amb1,amb2,amb3,amb4,lwn,drn,callee,wantedB,isW,eff,pev,pst0,retPost,resAll,resP,resV,intP,mkV,putC,pbin,sbin,strsEq,peq,pint,pshift,pstr,pun,pconv,isShift,isConstB,app,subS,lay,rowsOf,lkV,keyKind,keyEq,mfind,mput,oInt,isZeroInt,forall_const,exists_eq_left',implies_true,IntKind.bits, ↓reduceIte,Nat.reduceEqDiff,Nat.reduceAdd,Nat.reduceSub,Nat.reduceMul,Nat.reduceLT,Nat.reduceLeDiff,Nat.reduceBEq,Int.reduceLE,Int.reduceLT,Int.reduceToNat,reduceCtorEq,Ty.all]))
    refine owp_useQ (c4 _) (by(try simp only[undef,am0,am1,am2,am3,amb0,amb1,amb2,amb3,amb4,lwn,drn,callee,wantedB,isW,eff,pev,pst0,retPost,resAll,resP,resV,intP,mkV,putC,pbin,sbin,strsEq,peq,pint,pshift,pstr,pun,pconv,isShift,isConstB,app,subS,lay,rowsOf,lkV,keyKind,keyEq,mfind,mput,oInt,isZeroInt,forall_const,exists_eq_left',implies_true,IntKind.bits, ↓reduceIte,Nat.reduceEqDiff,Nat.reduceAdd,Nat.reduceSub,Nat.reduceMul,Nat.reduceLT,Nat.reduceLeDiff,Nat.reduceBEq,Int.reduceLE,Int.reduceLT,Int.reduceToNat,reduceCtorEq,]);try rfl) ?_
    simp(maxSteps:=2000000) only[undef,am0,am1,am2,am3,amb0,amb1,amb2,amb3,amb4,lwn,drn,callee,wantedB,isW,eff,pev,pst0,retPost,resAll,resP,resV,intP,mkV,putC,pbin,sbin,strsEq,peq,pint,pshift,pstr,pun,pconv,isShift,isConstB,app,subS,lay,rowsOf,lkV,keyKind,keyEq,mfind,mput,oInt,isZeroInt,forall_const,exists_eq_left',implies_true,IntKind.bits, ↓reduceIte,Nat.reduceEqDiff,Nat.reduceAdd,Nat.reduceSub,Nat.reduceMul,Nat.reduceLT,Nat.reduceLeDiff,Nat.reduceBEq,Int.reduceLE,Int.reduceLT,Int.reduceToNat,reduceCtorEq,Ty.all,]
    repeat'(first
     |refine a_seq fun K hK=>?_
     |(refine a_block ?_)
     |((first|refine a_regionS ?_|refine a_region (fun K hK=>?_)|refine a_ret ?_);simp(maxSteps:=2000000) only[undef,am0,am1,am2,am3,amb0,amb1,amb2,amb3,amb4,lwn,drn,callee,wantedB,isW,eff,pev,pst0,retPost,resAll,resP,resV,intP,mkV,putC,pbin,sbin,strsEq,peq,pint,pshift,pstr,pun,pconv,isShift,isConstB,app,subS,lay,rowsOf,lkV,keyKind,keyEq,mfind,mput,oInt,isZeroInt,forall_const,exists_eq_left',implies_true,IntKind.bits, ↓reduceIte,Nat.reduceEqDiff,Nat.reduceAdd,Nat.reduceSub,Nat.reduceMul,Nat.reduceLT,Nat.reduceLeDiff,Nat.reduceBEq,Int.reduceLE,Int.reduceLT,Int.reduceToNat,reduceCtorEq,Ty.all])
     |(refine a_skip ?_;try simp only[pst0, ↓reduceIte,Nat.reduceEqDiff])
     |(refine a_exit ?_;try simp only[pst0, ↓reduceIte,Nat.reduceEqDiff])
     |(refine a_cond _ (by(try simp(maxSteps:=2000000) only[undef,am0,am1,am2,am3,amb0,amb1,amb2,amb3,amb4,lwn,drn,callee,wantedB,isW,eff,pev,pst0,retPost,resAll,resP,resV,intP,mkV,putC,pbin,sbin,strsEq,peq,pint,pshift,pstr,pun,pconv,isShift,isConstB,app,subS,lay,rowsOf,lkV,keyKind,keyEq,mfind,mput,oInt,isZeroInt,forall_const,exists_eq_left',implies_true,IntKind.bits, ↓reduceIte,Nat.reduceEqDiff,Nat.reduceAdd,Nat.reduceSub,Nat.reduceMul,Nat.reduceLT,Nat.reduceLeDiff,Nat.reduceBEq,Int.reduceLE,Int.reduceLT,Int.reduceToNat,reduceCtorEq,Ty.all]);rfl) (fun hb=>?_) (fun hb=>?_)<;>(try simp only[hb0,decide_eq_true_eq,decide_eq_false_iff_not,reduceCtorEq]at hb)<;>(try(exfalso;omega)))
     |(with_reducible refine ite_in (fun hb=>?_) (fun hb=>?_)<;>(try simp only[Decidable.not_not]at hb)<;>(try simp only[hb,if_true,if_false,not_false_eq_true,not_true_eq_false, ↓reduceIte])<;>(try simp only[hb0,decide_eq_true_eq,decide_eq_false_iff_not,reduceCtorEq]at hb)<;>(try(exfalso;omega)))
     |(refine hK _ _ ?_;clear hK;try simp only[pst0, ↓reduceIte,Nat.reduceEqDiff])
     |(clear hK;refine hK _ _ ?_;clear hK;try simp only[pst0, ↓reduceIte,Nat.reduceEqDiff])
     |(clear hK;clear hK;refine hK _ _ ?_;clear hK;try simp only[pst0, ↓reduceIte,Nat.reduceEqDiff])
     |(clear hK;clear hK;clear hK;refine hK _ _ ?_;clear hK;try simp only[pst0, ↓reduceIte,Nat.reduceEqDiff])
     |(rw[if_pos];rotate_left 1;omega;simp(maxSteps:=2000000) only[undef,am0,am1,am2,am3,amb0,amb1,amb2,amb3,amb4,lwn,drn,callee,wantedB,isW,eff,pev,pst0,retPost,resAll,resP,resV,intP,mkV,putC,pbin,sbin,strsEq,peq,pint,pshift,pstr,pun,pconv,isShift,isConstB,app,subS,lay,rowsOf,lkV,keyKind,keyEq,mfind,mput,oInt,isZeroInt,forall_const,exists_eq_left',implies_true,IntKind.bits, ↓reduceIte,Nat.reduceEqDiff,Nat.reduceAdd,Nat.reduceSub,Nat.reduceMul,Nat.reduceLT,Nat.reduceLeDiff,Nat.reduceBEq,Int.reduceLE,Int.reduceLT,Int.reduceToNat,reduceCtorEq,Ty.all]))
    all_goals simp only[Bool.true_and]
end Go.Proofs.YtdbmemfnjnkefaaGreat
