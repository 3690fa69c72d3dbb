/- What the claim rests on, part 5: the abstract machine, contracts of the functions, plain data. -/
import Derived.Test.YtdekkbdlcblhcaaZi4
set_option linter.unusedVariables false
set_option linter.unusedSimpArgs false
set_option linter.unusedSectionVars false
namespace Go.AM
section
variable {P:Program}{ow:Nat→Bool}{wf:FuncId→Bool}{n:Nat}{s:Slots}{h:Heap}
theorem Does_useV{f:FuncId}{fo:Operand}{dst:Option Tmp}{args:List Operand}{ts:Array TypeId}{ty:TypeId}{pos:String}{af:Array Edge}{gd:Option (Nat × Bool)}{ags:List PV}{v:PV}{h':Heap}
  (hf:pev s fo= .sc (.func (.func f) #[] #[]))(hc:PCall P f ags h fun r h''=>r=v∧h''=h')(ha:args.map (pev s)=ags):
  Does P ow {dst:=dst,op:= .call {callee:= .value fo,args:=args.toArray,argTypes:=ts},type:=ty,pos:=pos,after:=af,guard:=gd} (pev s) h v h':=by
 unfold Does
 simp only[callee,hf,and_self,if_true]
 rw[ha]
 exact hc
theorem a_dcallV{f:FuncId}{fo:Operand}{d:Nat}{args:List Operand}{ts:Array TypeId}{ty:TypeId}{pos:String}{af:Array Edge}{gd:Option (Nat × Bool)}{ags:List PV}{v:PV}{h1:Heap}{ops rest:List Oper}{k:Nat}{past:Past}{hist:List (Nat × Heap)}{K:Slots→Heap→Prop}{A:Heap→Prop}
  (hf:pev s fo= .sc (.func (.func f) #[] #[]))(hc:PCall P f ags h fun r h'=>r=v∧h'=h1)(ha:args.map (pev s)=ags)(hA:A h1)
  (hk:drn P ow wf n ops k rest past hist K (upd s d v) h1):
  ∃ v h',Does P ow {dst:=some d,op:= .call {callee:= .value fo,args:=args.toArray,argTypes:=ts},type:=ty,pos:=pos,after:=af,guard:=gd} (pev s) h v h'∧A h'∧
   drun P ow wf n ops k rest (pastC P ow past) hist K (upd s d v) h':=
 ⟨v,h1,Does_useV hf hc ha,hA,drn_drun _ _ _ _ _ _ hk⟩
end
theorem clr_own(h:Heap)(z:Nat)(zr:List PV)(id off len:Nat):clr h z zr (.own id off len)=match h.obj id with|some (.arr z' rows)=>if z'=z∧off+len≤rows.length then some (h.set id (.arr z' (rows.take off++List.replicate len zr++rows.drop (off+len))))else none|_=>none:=rfl
theorem heap_set2(h:Heap)(id:Nat)(a b:AObj):(h.set id a).set id b=h.set id b:=by
 simp only[Heap.set,Heap.mk.injEq,true_and]
 funext i
 split<;>rfl
theorem heap_self{h:Heap}{id:Nat}{o:AObj}(ho:h.obj id=some o):h=h.set id o:=by
 cases h with
 |mk n f=>
  simp only[Heap.set,Heap.mk.injEq,true_and]
  funext i
  by_cases e:i=id
  ·subst e;simp only[if_true];exact ho
  ·simp only[e,if_false]
theorem atRows_set(M:List At)(k:Nat)(x:At):(atRows M).set k (atRow x)=atRows (M.set k x):=by simp[atRows,List.map_set]
theorem atRows_take(M:List At)(k:Nat):(atRows M).take k=atRows (M.take k):=by simp[atRows,List.map_take]
theorem compR_cons(p x:At)(l:List At):compR p (x::l)=bif x.same p then compR x l else x::compR x l:=rfl
end Go.AM
namespace Go.Proofs.Ytdekkbdlcblhcaa
open Go.AM
set_option maxHeartbeats 4000000
set_option maxRecDepth 20000
theorem compactF_own{D:List At}{id:Nat}{h:Heap}(ho:h.obj id=some (.arr 2 (atRows D)))(hl:D.length≤1099511627776)(hok: ∀ a∈D,a.ok):
  PCall Try.prog 16 [.own id 0 D.length,.sc (.func (.func 17) #[] #[])] h fun r h'=>r= .own id 0 (compA D).length∧ ∃ rows,h'=h.set id (.arr 2 rows)∧(compA D).length≤rows.length∧rows.take (compA D).length=atRows (compA D):=by
 have hfa: ∀ a∈D, ∀ b∈D, ∀ h:Heap,PCall Try.prog 17 [.agg (atRow a),.agg (atRow b)] h fun r h'=>r= .sc (.bool (At.same a b))∧h'=h:=fun a ha b hb=>psameAtom_c (hok a ha) (hok b hb)
 obtain⟨n,hn⟩: ∃ n,D.length=n:=⟨_,rfl⟩
 have hll:=atRows_len D
 rw[hn]at hl hll⊢
 have hll2: ∀ H,lenP H (.own id 0 n)=some n:=fun H=>rfl
 by_cases hs:n<2
 ·have hd:decide ((n:Int)<2)=true:=by simp;omega
  have hc:compA D=D:=by
   match D,hn with
   |[],_=>rfl
   |[d],_=>rfl
   |_::_::_,h=>simp at h;omega
  refine pcall_body (ow:=fun _=>false) (wf:=fun _=>false) Ty.mixed Try.func16 rfl Ty.hb_16 (by rw[Try.ntmps16];simp) ?_
  rw[Try.ntmps16,Try.results16]
  repeat'(first
   |refine a_seq fun K hK=>?_
   |(refine a_block ?_)
   |((first|refine a_regionS ?_|refine a_region (fun K hK=>?_)|refine a_ret ?_);simp(maxSteps:=2000000) only[undef,am0,am1,am2,am3,amb0,amb1,amb2,amb3,amb4,lwn,drn,callee,wantedB,isW,eff,pev,pst0,retPost,resAll,resP,resV,intP,mkV,putC,pbin,sbin,strsEq,peq,pint,pshift,pstr,pun,pconv,isShift,isConstB,app,subS,lay,rowsOf,lkV,keyKind,keyEq,mfind,mput,oInt,isZeroInt,forall_const,exists_eq_left',implies_true,IntKind.bits, ↓reduceIte,Nat.reduceEqDiff,Nat.reduceAdd,Nat.reduceSub,Nat.reduceMul,Nat.reduceLT,Nat.reduceLeDiff,Nat.reduceBEq,Int.reduceLE,Int.reduceLT,Int.reduceToNat,reduceCtorEq,Ty.all,hll2,hd])
   |(refine a_skip ?_;try simp only[pst0, ↓reduceIte,Nat.reduceEqDiff])
   |(refine a_exit ?_;try simp only[pst0, ↓reduceIte,Nat.reduceEqDiff])
   |(refine a_cond _ (by(try simp(maxSteps:=2000000) only[undef,am0,am1,am2,am3,amb0,amb1,amb2,amb3,amb4,lwn,drn,callee,wantedB,isW,eff,pev,pst0,retPost,resAll,resP,resV,intP,mkV,putC,pbin,sbin,strsEq,peq,pint,pshift,pstr,pun,pconv,isShift,isConstB,app,subS,lay,rowsOf,lkV,keyKind,keyEq,mfind,mput,oInt,isZeroInt,forall_const,exists_eq_left',implies_true,IntKind.bits, ↓reduceIte,Nat.reduceEqDiff,Nat.reduceAdd,Nat.reduceSub,Nat.reduceMul,Nat.reduceLT,Nat.reduceLeDiff,Nat.reduceBEq,Int.reduceLE,Int.reduceLT,Int.reduceToNat,reduceCtorEq,Ty.all,hll2,hd]);rfl) (fun hb=>?_) (fun hb=>?_)<;>(try simp only[hb0,decide_eq_true_eq,decide_eq_false_iff_not,reduceCtorEq]at hb)<;>(try(exfalso;omega)))
   |(with_reducible refine ite_in (fun hb=>?_) (fun hb=>?_)<;>(try simp only[Decidable.not_not]at hb)<;>(try simp only[hb,if_true,if_false,not_false_eq_true,not_true_eq_false, ↓reduceIte])<;>(try simp only[hb0,decide_eq_true_eq,decide_eq_false_iff_not,reduceCtorEq]at hb)<;>(try(exfalso;omega)))
   |(refine hK _ _ ?_;clear hK;try simp only[pst0, ↓reduceIte,Nat.reduceEqDiff])
   |(clear hK;refine hK _ _ ?_;clear hK;try simp only[pst0, ↓reduceIte,Nat.reduceEqDiff])
   |(clear hK;clear hK;refine hK _ _ ?_;clear hK;try simp only[pst0, ↓reduceIte,Nat.reduceEqDiff])
   |(clear hK;clear hK;clear hK;refine hK _ _ ?_;clear hK;try simp only[pst0, ↓reduceIte,Nat.reduceEqDiff])
   |(rw[if_pos];rotate_left 1;omega;simp(maxSteps:=2000000) only[undef,am0,am1,am2,am3,amb0,amb1,amb2,amb3,amb4,lwn,drn,callee,wantedB,isW,eff,pev,pst0,retPost,resAll,resP,resV,intP,mkV,putC,pbin,sbin,strsEq,peq,pint,pshift,pstr,pun,pconv,isShift,isConstB,app,subS,lay,rowsOf,lkV,keyKind,keyEq,mfind,mput,oInt,isZeroInt,forall_const,exists_eq_left',implies_true,IntKind.bits, ↓reduceIte,Nat.reduceEqDiff,Nat.reduceAdd,Nat.reduceSub,Nat.reduceMul,Nat.reduceLT,Nat.reduceLeDiff,Nat.reduceBEq,Int.reduceLE,Int.reduceLT,Int.reduceToNat,reduceCtorEq,Ty.all,hll2,hd]))
  rw[hc,hn]
  exact⟨rfl,_,heap_self ho,by omega,by rw[List.take_of_length_le (by omega)]⟩
 ·have hd:decide ((n:Int)<2)=false:=by simp;omega
  generalize hF:17=F at hfa
  generalize hC:compA D=C
  refine pcall_body (ow:=fun _=>false) (wf:=fun _=>false) Ty.mixed Try.func16 rfl Ty.hb_16 (by rw[Try.ntmps16];simp) ?_
  rw[Try.ntmps16,Try.results16]
  repeat'(first
   |refine a_seq fun K hK=>?_
   |(refine a_block ?_)
   |((first|refine a_regionS ?_|refine a_region (fun K hK=>?_)|refine a_ret ?_);simp(maxSteps:=2000000) only[undef,am0,am1,am2,am3,amb0,amb1,amb2,amb3,amb4,lwn,drn,callee,wantedB,isW,eff,pev,pst0,retPost,resAll,resP,resV,intP,mkV,putC,pbin,sbin,strsEq,peq,pint,pshift,pstr,pun,pconv,isShift,isConstB,app,subS,lay,rowsOf,lkV,keyKind,keyEq,mfind,mput,oInt,isZeroInt,forall_const,exists_eq_left',implies_true,IntKind.bits, ↓reduceIte,Nat.reduceEqDiff,Nat.reduceAdd,Nat.reduceSub,Nat.reduceMul,Nat.reduceLT,Nat.reduceLeDiff,Nat.reduceBEq,Int.reduceLE,Int.reduceLT,Int.reduceToNat,reduceCtorEq,Ty.all,hll2,hd])
   |(refine a_skip ?_;try simp only[pst0, ↓reduceIte,Nat.reduceEqDiff])
   |(refine a_exit ?_;try simp only[pst0, ↓reduceIte,Nat.reduceEqDiff])
   |(refine a_cond _ (by(try simp(maxSteps:=2000000) only[undef,am0,am1,am2,am3,amb0,amb1,amb2,amb3,amb4,lwn,drn,callee,wantedB,isW,eff,pev,pst0,retPost,resAll,resP,resV,intP,mkV,putC,pbin,sbin,strsEq,peq,pint,pshift,pstr,pun,pconv,isShift,isConstB,app,subS,lay,rowsOf,lkV,keyKind,keyEq,mfind,mput,oInt,isZeroInt,forall_const,exists_eq_left',implies_true,IntKind.bits, ↓reduceIte,Nat.reduceEqDiff,Nat.reduceAdd,Nat.reduceSub,Nat.reduceMul,Nat.reduceLT,Nat.reduceLeDiff,Nat.reduceBEq,Int.reduceLE,Int.reduceLT,Int.reduceToNat,reduceCtorEq,Ty.all,hll2,hd]);rfl) (fun hb=>?_) (fun hb=>?_)<;>(try simp only[hb0,decide_eq_true_eq,decide_eq_false_iff_not,reduceCtorEq]at hb)<;>(try(exfalso;omega)))
   |(with_reducible refine ite_in (fun hb=>?_) (fun hb=>?_)<;>(try simp only[Decidable.not_not]at hb)<;>(try simp only[hb,if_true,if_false,not_false_eq_true,not_true_eq_false, ↓reduceIte])<;>(try simp only[hb0,decide_eq_true_eq,decide_eq_false_iff_not,reduceCtorEq]at hb)<;>(try(exfalso;omega)))
   |(refine hK _ _ ?_;clear hK;try simp only[pst0, ↓reduceIte,Nat.reduceEqDiff])
   |(clear hK;refine hK _ _ ?_;clear hK;try simp only[pst0, ↓reduceIte,Nat.reduceEqDiff])
   |(clear hK;clear hK;refine hK _ _ ?_;clear hK;try simp only[pst0, ↓reduceIte,Nat.reduceEqDiff])
   |(clear hK;clear hK;clear hK;refine hK _ _ ?_;clear hK;try simp only[pst0, ↓reduceIte,Nat.reduceEqDiff])
   |(rw[if_pos];rotate_left 1;omega;simp(maxSteps:=2000000) only[undef,am0,am1,am2,am3,amb0,amb1,amb2,amb3,amb4,lwn,drn,callee,wantedB,isW,eff,pev,pst0,retPost,resAll,resP,resV,intP,mkV,putC,pbin,sbin,strsEq,peq,pint,pshift,pstr,pun,pconv,isShift,isConstB,app,subS,lay,rowsOf,lkV,keyKind,keyEq,mfind,mput,oInt,isZeroInt,forall_const,exists_eq_left',implies_true,IntKind.bits, ↓reduceIte,Nat.reduceEqDiff,Nat.reduceAdd,Nat.reduceSub,Nat.reduceMul,Nat.reduceLT,Nat.reduceLeDiff,Nat.reduceBEq,Int.reduceLE,Int.reduceLT,Int.reduceToNat,reduceCtorEq,Ty.all,hll2,hd]))
  refine a_loop (fun c S h'=>h'=h∧S 0= .own id 0 n∧S 1= .sc (.func (.func F) #[] #[])∧ ∃ k:Nat,S 5= .sc (.int .i64 k)∧1≤k∧k≤n∧c=n-k∧ ∃ p,D[k-1]? =some p∧C=D.take k++compR p (D.drop k)) (n-1) ?_ ?_
  ·simp only[undef,am0,am1,am2,am3,amb0,amb1,amb2,amb3,amb4,lwn,drn,callee,wantedB,isW,eff,pev,pst0,retPost,resAll,resP,resV,intP,mkV,putC,pbin,sbin,strsEq,peq,pint,pshift,pstr,pun,pconv,isShift,isConstB,app,subS,lay,rowsOf,lkV,keyKind,keyEq,mfind,mput,oInt,isZeroInt,forall_const,exists_eq_left',implies_true,IntKind.bits, ↓reduceIte,Nat.reduceEqDiff,Nat.reduceAdd,Nat.reduceSub,Nat.reduceMul,Nat.reduceLT,Nat.reduceLeDiff,Nat.reduceBEq,Int.reduceLE,Int.reduceLT,Int.reduceToNat,reduceCtorEq]
   refine⟨1,rfl,Nat.le_refl _,by omega,?_⟩
   match D,hn with
   |[],h=>simp at h;omega
   |d::l,_=>exact⟨by omega,d,rfl,by rw[← hC];try rfl⟩
  ·rintro c S h' ⟨rfl,g0,g1,k,g5,hk1,hkn,rfl,p,hp,hinv⟩
   by_cases hlt:k<n
   ·have hd2:decide ((k:Int)<(n:Int))=true:=by simp;omega
    obtain⟨x,hx⟩: ∃ x,D[k]? =some x:=⟨_,List.getElem?_eq_getElem (by omega)⟩
    have hc:=hfa x (List.mem_of_getElem? hx) p (List.mem_of_getElem? hp)
    have wm:IntKind.i64.wrap ((k:Int)-1)=((k-1:Nat):Int):=by rw[wrap64 (by omega) (by omega)];omega
    have w7:IntKind.i64.wrap ((k:Int)+1)=((k+1:Nat):Int):=by rw[wrap64 (by omega) (by omega)];omega
    have hr:=atRows_get hx
    have hr2:=atRows_get hp
    have k0:(0:Int)≤((k-1:Nat):Int):=Int.natCast_nonneg _
    have k1:((k-1:Nat):Int)<(n:Int):=by omega
    have k2:k<n:=hlt
    have k3:k-1<n:=by omega
    rw[drop_of_get hx,compR_cons]at hinv
    simp only[atRow]at hc
    cases hsm:x.same p with
    |false=>
     rw[hsm]at hinv hc
     simp only[cond_false]at hinv
     repeat'(first
      |refine a_seq fun K hK=>?_
      |(refine a_block ?_)
      |((first|refine a_regionS ?_|refine a_drawS (by decide+kernel) ?_|refine a_region (fun K hK=>?_)|refine a_draw (by decide+kernel) (fun K hK=>?_)|refine a_ret ?_);simp(maxSteps:=2000000) only[undef,am0,am1,am2,am3,amb0,amb1,amb2,amb3,amb4,lwn,drn,callee,wantedB,isW,eff,pev,pst0,retPost,resAll,resP,resV,intP,mkV,putC,pbin,sbin,strsEq,peq,pint,pshift,pstr,pun,pconv,isShift,isConstB,app,subS,lay,rowsOf,lkV,keyKind,keyEq,mfind,mput,oInt,isZeroInt,forall_const,exists_eq_left',implies_true,IntKind.bits, ↓reduceIte,Nat.reduceEqDiff,Nat.reduceAdd,Nat.reduceSub,Nat.reduceMul,Nat.reduceLT,Nat.reduceLeDiff,Nat.reduceBEq,Int.reduceLE,Int.reduceLT,Int.reduceToNat,reduceCtorEq,Ty.all,g0,g1,g5,hll2,ho,hll,hd2,hr,hr2,wm,k2,k3])
      |(refine a_skip ?_;try simp only[pst0, ↓reduceIte,Nat.reduceEqDiff])
      |(refine a_exit ?_;try simp only[pst0, ↓reduceIte,Nat.reduceEqDiff])
      |(refine a_cond _ (by(try simp(maxSteps:=2000000) only[undef,am0,am1,am2,am3,amb0,amb1,amb2,amb3,amb4,lwn,drn,callee,wantedB,isW,eff,pev,pst0,retPost,resAll,resP,resV,intP,mkV,putC,pbin,sbin,strsEq,peq,pint,pshift,pstr,pun,pconv,isShift,isConstB,app,subS,lay,rowsOf,lkV,keyKind,keyEq,mfind,mput,oInt,isZeroInt,forall_const,exists_eq_left',implies_true,IntKind.bits, ↓reduceIte,Nat.reduceEqDiff,Nat.reduceAdd,Nat.reduceSub,Nat.reduceMul,Nat.reduceLT,Nat.reduceLeDiff,Nat.reduceBEq,Int.reduceLE,Int.reduceLT,Int.reduceToNat,reduceCtorEq,Ty.all,g0,g1,g5,hll2,ho,hll,hd2,hr,hr2,wm,k2,k3]);rfl) (fun hb=>?_) (fun hb=>?_)<;>(try simp only[hb0,decide_eq_true_eq,decide_eq_false_iff_not,reduceCtorEq]at hb)<;>(try(exfalso;omega)))
      |(with_reducible refine ite_in (fun hb=>?_) (fun hb=>?_)<;>(try simp only[Decidable.not_not]at hb)<;>(try simp only[hb,if_true,if_false,not_false_eq_true,not_true_eq_false, ↓reduceIte])<;>(try simp only[hb0,decide_eq_true_eq,decide_eq_false_iff_not,reduceCtorEq]at hb)<;>(try(exfalso;omega)))
      |(refine hK _ _ ?_;clear hK;try simp only[pst0, ↓reduceIte,Nat.reduceEqDiff])
      |(clear hK;refine hK _ _ ?_;clear hK;try simp only[pst0, ↓reduceIte,Nat.reduceEqDiff])
      |(clear hK;clear hK;refine hK _ _ ?_;clear hK;try simp only[pst0, ↓reduceIte,Nat.reduceEqDiff])
      |(clear hK;clear hK;clear hK;refine hK _ _ ?_;clear hK;try simp only[pst0, ↓reduceIte,Nat.reduceEqDiff])
      |((first|(with_reducible refine a_past _ rfl (by decide+kernel) ?_)|(with_reducible refine a_past2 (by simp only[List.forall_mem_cons,undef,am0,am1,am2,am3,amb0,amb1,amb2,amb3,amb4,lwn,drn,callee,wantedB,isW,eff,pev,pst0,retPost,resAll,resP,resV,intP,mkV,putC,pbin,sbin,strsEq,peq,pint,pshift,pstr,pun,pconv,isShift,isConstB,app,subS,lay,rowsOf,lkV,keyKind,keyEq,mfind,mput,oInt,isZeroInt,forall_const,exists_eq_left',implies_true,IntKind.bits, ↓reduceIte,Nat.reduceEqDiff,Nat.reduceAdd,Nat.reduceSub,Nat.reduceMul,Nat.reduceLT,Nat.reduceLeDiff,Nat.reduceBEq,Int.reduceLE,Int.reduceLT,Int.reduceToNat,reduceCtorEq,Ty.all,g0,g1,g5,hll2,ho,hll,hd2,hr,hr2,wm,k2,k3]<;>(repeat' apply And.intro)<;>first|trivial|exact .inl (by decide+kernel)) ?_));try simp(maxSteps:=2000000) only[undef,am0,am1,am2,am3,amb0,amb1,amb2,amb3,amb4,lwn,drn,callee,wantedB,isW,eff,pev,pst0,retPost,resAll,resP,resV,intP,mkV,putC,pbin,sbin,strsEq,peq,pint,pshift,pstr,pun,pconv,isShift,isConstB,app,subS,lay,rowsOf,lkV,keyKind,keyEq,mfind,mput,oInt,isZeroInt,forall_const,exists_eq_left',implies_true,IntKind.bits, ↓reduceIte,Nat.reduceEqDiff,Nat.reduceAdd,Nat.reduceSub,Nat.reduceMul,Nat.reduceLT,Nat.reduceLeDiff,Nat.reduceBEq,Int.reduceLE,Int.reduceLT,Int.reduceToNat,reduceCtorEq,Ty.all,g0,g1,g5,hll2,ho,hll,hd2,hr,hr2,wm,k2,k3])
      |(rw[if_pos];rotate_left 1;omega;simp(maxSteps:=2000000) only[undef,am0,am1,am2,am3,amb0,amb1,amb2,amb3,amb4,lwn,drn,callee,wantedB,isW,eff,pev,pst0,retPost,resAll,resP,resV,intP,mkV,putC,pbin,sbin,strsEq,peq,pint,pshift,pstr,pun,pconv,isShift,isConstB,app,subS,lay,rowsOf,lkV,keyKind,keyEq,mfind,mput,oInt,isZeroInt,forall_const,exists_eq_left',implies_true,IntKind.bits, ↓reduceIte,Nat.reduceEqDiff,Nat.reduceAdd,Nat.reduceSub,Nat.reduceMul,Nat.reduceLT,Nat.reduceLeDiff,Nat.reduceBEq,Int.reduceLE,Int.reduceLT,Int.reduceToNat,reduceCtorEq,Ty.all,g0,g1,g5,hll2,ho,hll,hd2,hr,hr2,wm,k2,k3]))
     refine a_dcallV (by simp only[undef,am0,am1,am2,am3,amb0,amb1,amb2,amb3,amb4,lwn,drn,callee,wantedB,isW,eff,pev,pst0,retPost,resAll,resP,resV,intP,mkV,putC,pbin,sbin,strsEq,peq,pint,pshift,pstr,pun,pconv,isShift,isConstB,app,subS,lay,rowsOf,lkV,keyKind,keyEq,mfind,mput,oInt,isZeroInt,forall_const,exists_eq_left',implies_true,IntKind.bits, ↓reduceIte,Nat.reduceEqDiff,Nat.reduceAdd,Nat.reduceSub,Nat.reduceMul,Nat.reduceLT,Nat.reduceLeDiff,Nat.reduceBEq,Int.reduceLE,Int.reduceLT,Int.reduceToNat,reduceCtorEq,g1]) (hc _) (by(try simp only[undef,am0,am1,am2,am3,amb0,amb1,amb2,amb3,amb4,lwn,drn,callee,wantedB,isW,eff,pev,pst0,retPost,resAll,resP,resV,intP,mkV,putC,pbin,sbin,strsEq,peq,pint,pshift,pstr,pun,pconv,isShift,isConstB,app,subS,lay,rowsOf,lkV,keyKind,keyEq,mfind,mput,oInt,isZeroInt,forall_const,exists_eq_left',implies_true,IntKind.bits, ↓reduceIte,Nat.reduceEqDiff,Nat.reduceAdd,Nat.reduceSub,Nat.reduceMul,Nat.reduceLT,Nat.reduceLeDiff,Nat.reduceBEq,Int.reduceLE,Int.reduceLT,Int.reduceToNat,reduceCtorEq,g0,g1,g5]);try rfl) (by simp only[undef,am0,am1,am2,am3,amb0,amb1,amb2,amb3,amb4,lwn,drn,callee,wantedB,isW,eff,pev,pst0,retPost,resAll,resP,resV,intP,mkV,putC,pbin,sbin,strsEq,peq,pint,pshift,pstr,pun,pconv,isShift,isConstB,app,subS,lay,rowsOf,lkV,keyKind,keyEq,mfind,mput,oInt,isZeroInt,forall_const,exists_eq_left',implies_true,IntKind.bits, ↓reduceIte,Nat.reduceEqDiff,Nat.reduceAdd,Nat.reduceSub,Nat.reduceMul,Nat.reduceLT,Nat.reduceLeDiff,Nat.reduceBEq,Int.reduceLE,Int.reduceLT,Int.reduceToNat,reduceCtorEq,pastC,List.map_cons,List.map_nil,List.forall_mem_cons];(repeat' apply And.intro)<;>first|trivial|exact .inl (by decide+kernel)|skip) ?_
     simp(maxSteps:=2000000) only[undef,am0,am1,am2,am3,amb0,amb1,amb2,amb3,amb4,lwn,drn,callee,wantedB,isW,eff,pev,pst0,retPost,resAll,resP,resV,intP,mkV,putC,pbin,sbin,strsEq,peq,pint,pshift,pstr,pun,pconv,isShift,isConstB,app,subS,lay,rowsOf,lkV,keyKind,keyEq,mfind,mput,oInt,isZeroInt,forall_const,exists_eq_left',implies_true,IntKind.bits, ↓reduceIte,Nat.reduceEqDiff,Nat.reduceAdd,Nat.reduceSub,Nat.reduceMul,Nat.reduceLT,Nat.reduceLeDiff,Nat.reduceBEq,Int.reduceLE,Int.reduceLT,Int.reduceToNat,reduceCtorEq,Ty.all,Option.getD_some,g0,g1,g5]
     repeat'(first
      |refine a_seq fun K hK=>?_
      |(refine a_block ?_)
      |((first|refine a_regionS ?_|refine a_drawS (by decide+kernel) ?_|refine a_region (fun K hK=>?_)|refine a_draw (by decide+kernel) (fun K hK=>?_)|refine a_ret ?_);simp(maxSteps:=2000000) only[undef,am0,am1,am2,am3,amb0,amb1,amb2,amb3,amb4,lwn,drn,callee,wantedB,isW,eff,pev,pst0,retPost,resAll,resP,resV,intP,mkV,putC,pbin,sbin,strsEq,peq,pint,pshift,pstr,pun,pconv,isShift,isConstB,app,subS,lay,rowsOf,lkV,keyKind,keyEq,mfind,mput,oInt,isZeroInt,forall_const,exists_eq_left',implies_true,IntKind.bits, ↓reduceIte,Nat.reduceEqDiff,Nat.reduceAdd,Nat.reduceSub,Nat.reduceMul,Nat.reduceLT,Nat.reduceLeDiff,Nat.reduceBEq,Int.reduceLE,Int.reduceLT,Int.reduceToNat,reduceCtorEq,Ty.all,g0,g1,g5,hll2,w7])
      |(refine a_skip ?_;try simp only[pst0, ↓reduceIte,Nat.reduceEqDiff])
      |(refine a_exit ?_;try simp only[pst0, ↓reduceIte,Nat.reduceEqDiff])
      |(refine a_cond _ (by(try simp(maxSteps:=2000000) only[undef,am0,am1,am2,am3,amb0,amb1,amb2,amb3,amb4,lwn,drn,callee,wantedB,isW,eff,pev,pst0,retPost,resAll,resP,resV,intP,mkV,putC,pbin,sbin,strsEq,peq,pint,pshift,pstr,pun,pconv,isShift,isConstB,app,subS,lay,rowsOf,lkV,keyKind,keyEq,mfind,mput,oInt,isZeroInt,forall_const,exists_eq_left',implies_true,IntKind.bits, ↓reduceIte,Nat.reduceEqDiff,Nat.reduceAdd,Nat.reduceSub,Nat.reduceMul,Nat.reduceLT,Nat.reduceLeDiff,Nat.reduceBEq,Int.reduceLE,Int.reduceLT,Int.reduceToNat,reduceCtorEq,Ty.all,g0,g1,g5,hll2,w7]);rfl) (fun hb=>?_) (fun hb=>?_)<;>(try simp only[hb0,decide_eq_true_eq,decide_eq_false_iff_not,reduceCtorEq]at hb)<;>(try(exfalso;omega)))
      |(with_reducible refine ite_in (fun hb=>?_) (fun hb=>?_)<;>(try simp only[Decidable.not_not]at hb)<;>(try simp only[hb,if_true,if_false,not_false_eq_true,not_true_eq_false, ↓reduceIte])<;>(try simp only[hb0,decide_eq_true_eq,decide_eq_false_iff_not,reduceCtorEq]at hb)<;>(try(exfalso;omega)))
      |(refine hK _ _ ?_;clear hK;try simp only[pst0, ↓reduceIte,Nat.reduceEqDiff])
      |(clear hK;refine hK _ _ ?_;clear hK;try simp only[pst0, ↓reduceIte,Nat.reduceEqDiff])
      |(clear hK;clear hK;refine hK _ _ ?_;clear hK;try simp only[pst0, ↓reduceIte,Nat.reduceEqDiff])
      |(clear hK;clear hK;clear hK;refine hK _ _ ?_;clear hK;try simp only[pst0, ↓reduceIte,Nat.reduceEqDiff])
      |((first|(with_reducible refine a_past _ rfl (by decide+kernel) ?_)|(with_reducible refine a_past2 (by simp only[List.forall_mem_cons,undef,am0,am1,am2,am3,amb0,amb1,amb2,amb3,amb4,lwn,drn,callee,wantedB,isW,eff,pev,pst0,retPost,resAll,resP,resV,intP,mkV,putC,pbin,sbin,strsEq,peq,pint,pshift,pstr,pun,pconv,isShift,isConstB,app,subS,lay,rowsOf,lkV,keyKind,keyEq,mfind,mput,oInt,isZeroInt,forall_const,exists_eq_left',implies_true,IntKind.bits, ↓reduceIte,Nat.reduceEqDiff,Nat.reduceAdd,Nat.reduceSub,Nat.reduceMul,Nat.reduceLT,Nat.reduceLeDiff,Nat.reduceBEq,Int.reduceLE,Int.reduceLT,Int.reduceToNat,reduceCtorEq,Ty.all,g0,g1,g5,hll2,w7]<;>(repeat' apply And.intro)<;>first|trivial|exact .inl (by decide+kernel)) ?_));try simp(maxSteps:=2000000) only[undef,am0,am1,am2,am3,amb0,amb1,amb2,amb3,amb4,lwn,drn,callee,wantedB,isW,eff,pev,pst0,retPost,resAll,resP,resV,intP,mkV,putC,pbin,sbin,strsEq,peq,pint,pshift,pstr,pun,pconv,isShift,isConstB,app,subS,lay,rowsOf,lkV,keyKind,keyEq,mfind,mput,oInt,isZeroInt,forall_const,exists_eq_left',implies_true,IntKind.bits, ↓reduceIte,Nat.reduceEqDiff,Nat.reduceAdd,Nat.reduceSub,Nat.reduceMul,Nat.reduceLT,Nat.reduceLeDiff,Nat.reduceBEq,Int.reduceLE,Int.reduceLT,Int.reduceToNat,reduceCtorEq,Ty.all,g0,g1,g5,hll2,w7])
      |(rw[if_pos];rotate_left 1;omega;simp(maxSteps:=2000000) only[undef,am0,am1,am2,am3,amb0,amb1,amb2,amb3,amb4,lwn,drn,callee,wantedB,isW,eff,pev,pst0,retPost,resAll,resP,resV,intP,mkV,putC,pbin,sbin,strsEq,peq,pint,pshift,pstr,pun,pconv,isShift,isConstB,app,subS,lay,rowsOf,lkV,keyKind,keyEq,mfind,mput,oInt,isZeroInt,forall_const,exists_eq_left',implies_true,IntKind.bits, ↓reduceIte,Nat.reduceEqDiff,Nat.reduceAdd,Nat.reduceSub,Nat.reduceMul,Nat.reduceLT,Nat.reduceLeDiff,Nat.reduceBEq,Int.reduceLE,Int.reduceLT,Int.reduceToNat,reduceCtorEq,Ty.all,g0,g1,g5,hll2,w7]))
     exact⟨n-(k+1),by omega,k+1,rfl,by omega,by omega,rfl,x,hx,by rw[hinv,List.take_add_one,hx];simp⟩
    |true=>
     rw[hsm]at hinv hc
     simp only[cond_true]at hinv
     have hsub:((n:Int)-(k:Int)).toNat=n-k:=by omega
     have k4:(k:Int)≤(n:Int):=by omega
     repeat'(first
      |refine a_seq fun K hK=>?_
      |(refine a_block ?_)
      |((first|refine a_regionS ?_|refine a_drawS (by decide+kernel) ?_|refine a_region (fun K hK=>?_)|refine a_draw (by decide+kernel) (fun K hK=>?_)|refine a_ret ?_);simp(maxSteps:=2000000) only[undef,am0,am1,am2,am3,amb0,amb1,amb2,amb3,amb4,lwn,drn,callee,wantedB,isW,eff,pev,pst0,retPost,resAll,resP,resV,intP,mkV,putC,pbin,sbin,strsEq,peq,pint,pshift,pstr,pun,pconv,isShift,isConstB,app,subS,lay,rowsOf,lkV,keyKind,keyEq,mfind,mput,oInt,isZeroInt,forall_const,exists_eq_left',implies_true,IntKind.bits, ↓reduceIte,Nat.reduceEqDiff,Nat.reduceAdd,Nat.reduceSub,Nat.reduceMul,Nat.reduceLT,Nat.reduceLeDiff,Nat.reduceBEq,Int.reduceLE,Int.reduceLT,Int.reduceToNat,reduceCtorEq,Ty.all,g0,g1,g5,hll2,ho,hll,hd2,hr,hr2,wm,k2,k3])
      |(refine a_skip ?_;try simp only[pst0, ↓reduceIte,Nat.reduceEqDiff])
      |(refine a_exit ?_;try simp only[pst0, ↓reduceIte,Nat.reduceEqDiff])
      |(refine a_cond _ (by(try simp(maxSteps:=2000000) only[undef,am0,am1,am2,am3,amb0,amb1,amb2,amb3,amb4,lwn,drn,callee,wantedB,isW,eff,pev,pst0,retPost,resAll,resP,resV,intP,mkV,putC,pbin,sbin,strsEq,peq,pint,pshift,pstr,pun,pconv,isShift,isConstB,app,subS,lay,rowsOf,lkV,keyKind,keyEq,mfind,mput,oInt,isZeroInt,forall_const,exists_eq_left',implies_true,IntKind.bits, ↓reduceIte,Nat.reduceEqDiff,Nat.reduceAdd,Nat.reduceSub,Nat.reduceMul,Nat.reduceLT,Nat.reduceLeDiff,Nat.reduceBEq,Int.reduceLE,Int.reduceLT,Int.reduceToNat,reduceCtorEq,Ty.all,g0,g1,g5,hll2,ho,hll,hd2,hr,hr2,wm,k2,k3]);rfl) (fun hb=>?_) (fun hb=>?_)<;>(try simp only[hb0,decide_eq_true_eq,decide_eq_false_iff_not,reduceCtorEq]at hb)<;>(try(exfalso;omega)))
      |(with_reducible refine ite_in (fun hb=>?_) (fun hb=>?_)<;>(try simp only[Decidable.not_not]at hb)<;>(try simp only[hb,if_true,if_false,not_false_eq_true,not_true_eq_false, ↓reduceIte])<;>(try simp only[hb0,decide_eq_true_eq,decide_eq_false_iff_not,reduceCtorEq]at hb)<;>(try(exfalso;omega)))
      |(refine hK _ _ ?_;clear hK;try simp only[pst0, ↓reduceIte,Nat.reduceEqDiff])
      |(clear hK;refine hK _ _ ?_;clear hK;try simp only[pst0, ↓reduceIte,Nat.reduceEqDiff])
      |(clear hK;clear hK;refine hK _ _ ?_;clear hK;try simp only[pst0, ↓reduceIte,Nat.reduceEqDiff])
      |(clear hK;clear hK;clear hK;refine hK _ _ ?_;clear hK;try simp only[pst0, ↓reduceIte,Nat.reduceEqDiff])
      |((first|(with_reducible refine a_past _ rfl (by decide+kernel) ?_)|(with_reducible refine a_past2 (by simp only[List.forall_mem_cons,undef,am0,am1,am2,am3,amb0,amb1,amb2,amb3,amb4,lwn,drn,callee,wantedB,isW,eff,pev,pst0,retPost,resAll,resP,resV,intP,mkV,putC,pbin,sbin,strsEq,peq,pint,pshift,pstr,pun,pconv,isShift,isConstB,app,subS,lay,rowsOf,lkV,keyKind,keyEq,mfind,mput,oInt,isZeroInt,forall_const,exists_eq_left',implies_true,IntKind.bits, ↓reduceIte,Nat.reduceEqDiff,Nat.reduceAdd,Nat.reduceSub,Nat.reduceMul,Nat.reduceLT,Nat.reduceLeDiff,Nat.reduceBEq,Int.reduceLE,Int.reduceLT,Int.reduceToNat,reduceCtorEq,Ty.all,g0,g1,g5,hll2,ho,hll,hd2,hr,hr2,wm,k2,k3]<;>(repeat' apply And.intro)<;>first|trivial|exact .inl (by decide+kernel)) ?_));try simp(maxSteps:=2000000) only[undef,am0,am1,am2,am3,amb0,amb1,amb2,amb3,amb4,lwn,drn,callee,wantedB,isW,eff,pev,pst0,retPost,resAll,resP,resV,intP,mkV,putC,pbin,sbin,strsEq,peq,pint,pshift,pstr,pun,pconv,isShift,isConstB,app,subS,lay,rowsOf,lkV,keyKind,keyEq,mfind,mput,oInt,isZeroInt,forall_const,exists_eq_left',implies_true,IntKind.bits, ↓reduceIte,Nat.reduceEqDiff,Nat.reduceAdd,Nat.reduceSub,Nat.reduceMul,Nat.reduceLT,Nat.reduceLeDiff,Nat.reduceBEq,Int.reduceLE,Int.reduceLT,Int.reduceToNat,reduceCtorEq,Ty.all,g0,g1,g5,hll2,ho,hll,hd2,hr,hr2,wm,k2,k3])
      |(rw[if_pos];rotate_left 1;omega;simp(maxSteps:=2000000) only[undef,am0,am1,am2,am3,amb0,amb1,amb2,amb3,amb4,lwn,drn,callee,wantedB,isW,eff,pev,pst0,retPost,resAll,resP,resV,intP,mkV,putC,pbin,sbin,strsEq,peq,pint,pshift,pstr,pun,pconv,isShift,isConstB,app,subS,lay,rowsOf,lkV,keyKind,keyEq,mfind,mput,oInt,isZeroInt,forall_const,exists_eq_left',implies_true,IntKind.bits, ↓reduceIte,Nat.reduceEqDiff,Nat.reduceAdd,Nat.reduceSub,Nat.reduceMul,Nat.reduceLT,Nat.reduceLeDiff,Nat.reduceBEq,Int.reduceLE,Int.reduceLT,Int.reduceToNat,reduceCtorEq,Ty.all,g0,g1,g5,hll2,ho,hll,hd2,hr,hr2,wm,k2,k3]))
     refine a_dcallV (by simp only[undef,am0,am1,am2,am3,amb0,amb1,amb2,amb3,amb4,lwn,drn,callee,wantedB,isW,eff,pev,pst0,retPost,resAll,resP,resV,intP,mkV,putC,pbin,sbin,strsEq,peq,pint,pshift,pstr,pun,pconv,isShift,isConstB,app,subS,lay,rowsOf,lkV,keyKind,keyEq,mfind,mput,oInt,isZeroInt,forall_const,exists_eq_left',implies_true,IntKind.bits, ↓reduceIte,Nat.reduceEqDiff,Nat.reduceAdd,Nat.reduceSub,Nat.reduceMul,Nat.reduceLT,Nat.reduceLeDiff,Nat.reduceBEq,Int.reduceLE,Int.reduceLT,Int.reduceToNat,reduceCtorEq,g1]) (hc _) (by(try simp only[undef,am0,am1,am2,am3,amb0,amb1,amb2,amb3,amb4,lwn,drn,callee,wantedB,isW,eff,pev,pst0,retPost,resAll,resP,resV,intP,mkV,putC,pbin,sbin,strsEq,peq,pint,pshift,pstr,pun,pconv,isShift,isConstB,app,subS,lay,rowsOf,lkV,keyKind,keyEq,mfind,mput,oInt,isZeroInt,forall_const,exists_eq_left',implies_true,IntKind.bits, ↓reduceIte,Nat.reduceEqDiff,Nat.reduceAdd,Nat.reduceSub,Nat.reduceMul,Nat.reduceLT,Nat.reduceLeDiff,Nat.reduceBEq,Int.reduceLE,Int.reduceLT,Int.reduceToNat,reduceCtorEq,g0,g1,g5]);try rfl) (by simp only[undef,am0,am1,am2,am3,amb0,amb1,amb2,amb3,amb4,lwn,drn,callee,wantedB,isW,eff,pev,pst0,retPost,resAll,resP,resV,intP,mkV,putC,pbin,sbin,strsEq,peq,pint,pshift,pstr,pun,pconv,isShift,isConstB,app,subS,lay,rowsOf,lkV,keyKind,keyEq,mfind,mput,oInt,isZeroInt,forall_const,exists_eq_left',implies_true,IntKind.bits, ↓reduceIte,Nat.reduceEqDiff,Nat.reduceAdd,Nat.reduceSub,Nat.reduceMul,Nat.reduceLT,Nat.reduceLeDiff,Nat.reduceBEq,Int.reduceLE,Int.reduceLT,Int.reduceToNat,reduceCtorEq,pastC,List.map_cons,List.map_nil,List.forall_mem_cons];(repeat' apply And.intro)<;>first|trivial|exact .inl (by decide+kernel)|skip) ?_
     simp(maxSteps:=2000000) only[undef,am0,am1,am2,am3,amb0,amb1,amb2,amb3,amb4,lwn,drn,callee,wantedB,isW,eff,pev,pst0,retPost,resAll,resP,resV,intP,mkV,putC,pbin,sbin,strsEq,peq,pint,pshift,pstr,pun,pconv,isShift,isConstB,app,subS,lay,rowsOf,lkV,keyKind,keyEq,mfind,mput,oInt,isZeroInt,forall_const,exists_eq_left',implies_true,IntKind.bits, ↓reduceIte,Nat.reduceEqDiff,Nat.reduceAdd,Nat.reduceSub,Nat.reduceMul,Nat.reduceLT,Nat.reduceLeDiff,Nat.reduceBEq,Int.reduceLE,Int.reduceLT,Int.reduceToNat,reduceCtorEq,Ty.all,Option.getD_some,g0,g1,g5]
     repeat'(first
      |refine a_seq fun K hK=>?_
      |(refine a_block ?_)
      |((first|refine a_regionS ?_|refine a_drawS (by decide+kernel) ?_|refine a_region (fun K hK=>?_)|refine a_draw (by decide+kernel) (fun K hK=>?_)|refine a_ret ?_);simp(maxSteps:=2000000) only[undef,am0,am1,am2,am3,amb0,amb1,amb2,amb3,amb4,lwn,drn,callee,wantedB,isW,eff,pev,pst0,retPost,resAll,resP,resV,intP,mkV,putC,pbin,sbin,strsEq,peq,pint,pshift,pstr,pun,pconv,isShift,isConstB,app,subS,lay,rowsOf,lkV,keyKind,keyEq,mfind,mput,oInt,isZeroInt,forall_const,exists_eq_left',implies_true,IntKind.bits, ↓reduceIte,Nat.reduceEqDiff,Nat.reduceAdd,Nat.reduceSub,Nat.reduceMul,Nat.reduceLT,Nat.reduceLeDiff,Nat.reduceBEq,Int.reduceLE,Int.reduceLT,Int.reduceToNat,reduceCtorEq,Ty.all,g0,g1,g5,hll2,ho,hsub,k4,Int.le_refl,Option.getD_some,Option.getD_none])
      |(refine a_skip ?_;try simp only[pst0, ↓reduceIte,Nat.reduceEqDiff])
      |(refine a_exit ?_;try simp only[pst0, ↓reduceIte,Nat.reduceEqDiff])
      |(refine a_cond _ (by(try simp(maxSteps:=2000000) only[undef,am0,am1,am2,am3,amb0,amb1,amb2,amb3,amb4,lwn,drn,callee,wantedB,isW,eff,pev,pst0,retPost,resAll,resP,resV,intP,mkV,putC,pbin,sbin,strsEq,peq,pint,pshift,pstr,pun,pconv,isShift,isConstB,app,subS,lay,rowsOf,lkV,keyKind,keyEq,mfind,mput,oInt,isZeroInt,forall_const,exists_eq_left',implies_true,IntKind.bits, ↓reduceIte,Nat.reduceEqDiff,Nat.reduceAdd,Nat.reduceSub,Nat.reduceMul,Nat.reduceLT,Nat.reduceLeDiff,Nat.reduceBEq,Int.reduceLE,Int.reduceLT,Int.reduceToNat,reduceCtorEq,Ty.all,g0,g1,g5,hll2,ho,hsub,k4,Int.le_refl,Option.getD_some,Option.getD_none]);rfl) (fun hb=>?_) (fun hb=>?_)<;>(try simp only[hb0,decide_eq_true_eq,decide_eq_false_iff_not,reduceCtorEq]at hb)<;>(try(exfalso;omega)))
      |(with_reducible refine ite_in (fun hb=>?_) (fun hb=>?_)<;>(try simp only[Decidable.not_not]at hb)<;>(try simp only[hb,if_true,if_false,not_false_eq_true,not_true_eq_false, ↓reduceIte])<;>(try simp only[hb0,decide_eq_true_eq,decide_eq_false_iff_not,reduceCtorEq]at hb)<;>(try(exfalso;omega)))
      |(refine hK _ _ ?_;clear hK;try simp only[pst0, ↓reduceIte,Nat.reduceEqDiff])
      |(clear hK;refine hK _ _ ?_;clear hK;try simp only[pst0, ↓reduceIte,Nat.reduceEqDiff])
      |(clear hK;clear hK;refine hK _ _ ?_;clear hK;try simp only[pst0, ↓reduceIte,Nat.reduceEqDiff])
      |(clear hK;clear hK;clear hK;refine hK _ _ ?_;clear hK;try simp only[pst0, ↓reduceIte,Nat.reduceEqDiff])
      |((first|(with_reducible refine a_past _ rfl (by decide+kernel) ?_)|(with_reducible refine a_past2 (by simp only[List.forall_mem_cons,undef,am0,am1,am2,am3,amb0,amb1,amb2,amb3,amb4,lwn,drn,callee,wantedB,isW,eff,pev,pst0,retPost,resAll,resP,resV,intP,mkV,putC,pbin,sbin,strsEq,peq,pint,pshift,pstr,pun,pconv,isShift,isConstB,app,subS,lay,rowsOf,lkV,keyKind,keyEq,mfind,mput,oInt,isZeroInt,forall_const,exists_eq_left',implies_true,IntKind.bits, ↓reduceIte,Nat.reduceEqDiff,Nat.reduceAdd,Nat.reduceSub,Nat.reduceMul,Nat.reduceLT,Nat.reduceLeDiff,Nat.reduceBEq,Int.reduceLE,Int.reduceLT,Int.reduceToNat,reduceCtorEq,Ty.all,g0,g1,g5,hll2,ho,hsub,k4,Int.le_refl,Option.getD_some,Option.getD_none]<;>(repeat' apply And.intro)<;>first|trivial|exact .inl (by decide+kernel)) ?_));try simp(maxSteps:=2000000) only[undef,am0,am1,am2,am3,amb0,amb1,amb2,amb3,amb4,lwn,drn,callee,wantedB,isW,eff,pev,pst0,retPost,resAll,resP,resV,intP,mkV,putC,pbin,sbin,strsEq,peq,pint,pshift,pstr,pun,pconv,isShift,isConstB,app,subS,lay,rowsOf,lkV,keyKind,keyEq,mfind,mput,oInt,isZeroInt,forall_const,exists_eq_left',implies_true,IntKind.bits, ↓reduceIte,Nat.reduceEqDiff,Nat.reduceAdd,Nat.reduceSub,Nat.reduceMul,Nat.reduceLT,Nat.reduceLeDiff,Nat.reduceBEq,Int.reduceLE,Int.reduceLT,Int.reduceToNat,reduceCtorEq,Ty.all,g0,g1,g5,hll2,ho,hsub,k4,Int.le_refl,Option.getD_some,Option.getD_none])
      |(rw[if_pos];rotate_left 1;omega;simp(maxSteps:=2000000) only[undef,am0,am1,am2,am3,amb0,amb1,amb2,amb3,amb4,lwn,drn,callee,wantedB,isW,eff,pev,pst0,retPost,resAll,resP,resV,intP,mkV,putC,pbin,sbin,strsEq,peq,pint,pshift,pstr,pun,pconv,isShift,isConstB,app,subS,lay,rowsOf,lkV,keyKind,keyEq,mfind,mput,oInt,isZeroInt,forall_const,exists_eq_left',implies_true,IntKind.bits, ↓reduceIte,Nat.reduceEqDiff,Nat.reduceAdd,Nat.reduceSub,Nat.reduceMul,Nat.reduceLT,Nat.reduceLeDiff,Nat.reduceBEq,Int.reduceLE,Int.reduceLT,Int.reduceToNat,reduceCtorEq,Ty.all,g0,g1,g5,hll2,ho,hsub,k4,Int.le_refl,Option.getD_some,Option.getD_none]))
     clear hc hr hr2 hsm wm w7 k0 k1 k3 hd2
     have hp':D[k+1-1]? =some x:=hx
     refine a_loop (fun c S h2=>S 0= .own id 0 n∧S 1= .sc (.func (.func F) #[] #[])∧S 6= .own id k (n-k)∧ ∃ (j:Nat)(q:Nat)(M:List At)(p:At),S 5= .sc (.int .i64 j)∧S 7= .sc (.int .i64 q)∧1≤q∧k+q≤n∧c=n-(k+q)∧h2=h'.set id (.arr 2 (atRows M))∧M.length=n∧1≤j∧j≤k+q-1∧M.drop (k+q-1)=D.drop (k+q-1)∧D[k+q-1]? =some p∧C=M.take j++compR p (D.drop (k+q))) (n-(k+1)) ?_ ?_
     ·simp only[undef,am0,am1,am2,am3,amb0,amb1,amb2,amb3,amb4,lwn,drn,callee,wantedB,isW,eff,pev,pst0,retPost,resAll,resP,resV,intP,mkV,putC,pbin,sbin,strsEq,peq,pint,pshift,pstr,pun,pconv,isShift,isConstB,app,subS,lay,rowsOf,lkV,keyKind,keyEq,mfind,mput,oInt,isZeroInt,forall_const,exists_eq_left',implies_true,IntKind.bits, ↓reduceIte,Nat.reduceEqDiff,Nat.reduceAdd,Nat.reduceSub,Nat.reduceMul,Nat.reduceLT,Nat.reduceLeDiff,Nat.reduceBEq,Int.reduceLE,Int.reduceLT,Int.reduceToNat,reduceCtorEq]
      exact⟨g0,g1,k,1,D,x,g5,rfl,Nat.le_refl _,by omega,by omega,heap_self ho,hn,hk1,by omega,rfl,hp',hinv⟩
     ·clear hinv hp'
      rintro c S h2 ⟨g0,g1,g6,j,q,M,p,g5,g7,hq1,hqn,rfl,hh,hM,hj1,hj,hdr,hp,hinv⟩
      have ho2:h2.obj id=some (.arr 2 (atRows M)):=by rw[hh];simp[Heap.set]
      have hlm:=atRows_len M
      rw[hM]at hlm
      have hll3: ∀ H,lenP H (.own id k (n-k))=some (n-k):=fun H=>rfl
      by_cases hlq:q<n-k
      ·have hd3:decide ((q:Int)<((n-k:Nat):Int))=true:=by simp;omega
       obtain⟨y,hy⟩: ∃ y,D[k+q]? =some y:=⟨_,List.getElem?_eq_getElem (by omega)⟩
       have hc:=hfa y (List.mem_of_getElem? hy) p (List.mem_of_getElem? hp)
       have hMy:M[k+q]? =some y:=by
        have:=congrArg (fun l=>l[1]?) hdr
        simp only[List.getElem?_drop,show k+q-1+1=k+q by omega]at this
        rw[this];exact hy
       have hMp:M[k+(q-1)]? =some p:=by
        have:=congrArg (fun l=>l[0]?) hdr
        simp only[List.getElem?_drop,Nat.add_zero]at this
        rw[show k+(q-1)=k+q-1 by omega,this];exact hp
       have wm:IntKind.i64.wrap ((q:Int)-1)=((q-1:Nat):Int):=by rw[wrap64 (by omega) (by omega)];omega
       have w7:IntKind.i64.wrap ((q:Int)+1)=((q+1:Nat):Int):=by rw[wrap64 (by omega) (by omega)];omega
       have w8:IntKind.i64.wrap ((j:Int)+1)=((j+1:Nat):Int):=by rw[wrap64 (by omega) (by omega)];omega
       have hr:=atRows_get hMy
       have hr2:=atRows_get hMp
       have k3:q-1<n-k:=by omega
       have k5:j<n:=by omega
       obtain⟨z,hz⟩: ∃ z,M[j]? =some z:=⟨_,List.getElem?_eq_getElem (by omega)⟩
       have hr3:=atRows_get hz
       rw[drop_of_get hy,compR_cons]at hinv
       simp only[atRow]at hc
       have hdr2:M.drop (k+(q+1)-1)=D.drop (k+(q+1)-1):=by
        have:=congrArg (List.drop 1) hdr
        simpa[List.drop_drop,show k+q-1+1=k+q by omega]using this
       cases hsm:y.same p with
       |true=>
        rw[hsm]at hinv hc
        simp only[cond_true]at hinv
        repeat'(first
         |refine a_seq fun K hK=>?_
         |(refine a_block ?_)
         |((first|refine a_regionS ?_|refine a_drawS (by decide+kernel) ?_|refine a_region (fun K hK=>?_)|refine a_draw (by decide+kernel) (fun K hK=>?_)|refine a_ret ?_);simp(maxSteps:=2000000) only[undef,am0,am1,am2,am3,amb0,amb1,amb2,amb3,amb4,lwn,drn,callee,wantedB,isW,eff,pev,pst0,retPost,resAll,resP,resV,intP,mkV,putC,pbin,sbin,strsEq,peq,pint,pshift,pstr,pun,pconv,isShift,isConstB,app,subS,lay,rowsOf,lkV,keyKind,keyEq,mfind,mput,oInt,isZeroInt,forall_const,exists_eq_left',implies_true,IntKind.bits, ↓reduceIte,Nat.reduceEqDiff,Nat.reduceAdd,Nat.reduceSub,Nat.reduceMul,Nat.reduceLT,Nat.reduceLeDiff,Nat.reduceBEq,Int.reduceLE,Int.reduceLT,Int.reduceToNat,reduceCtorEq,Ty.all,g0,g1,g5,g6,g7,hll3,ho2,hlm,hd3,hr,hr2,wm,hlq,k3])
         |(refine a_skip ?_;try simp only[pst0, ↓reduceIte,Nat.reduceEqDiff])
         |(refine a_exit ?_;try simp only[pst0, ↓reduceIte,Nat.reduceEqDiff])
         |(refine a_cond _ (by(try simp(maxSteps:=2000000) only[undef,am0,am1,am2,am3,amb0,amb1,amb2,amb3,amb4,lwn,drn,callee,wantedB,isW,eff,pev,pst0,retPost,resAll,resP,resV,intP,mkV,putC,pbin,sbin,strsEq,peq,pint,pshift,pstr,pun,pconv,isShift,isConstB,app,subS,lay,rowsOf,lkV,keyKind,keyEq,mfind,mput,oInt,isZeroInt,forall_const,exists_eq_left',implies_true,IntKind.bits, ↓reduceIte,Nat.reduceEqDiff,Nat.reduceAdd,Nat.reduceSub,Nat.reduceMul,Nat.reduceLT,Nat.reduceLeDiff,Nat.reduceBEq,Int.reduceLE,Int.reduceLT,Int.reduceToNat,reduceCtorEq,Ty.all,g0,g1,g5,g6,g7,hll3,ho2,hlm,hd3,hr,hr2,wm,hlq,k3]);rfl) (fun hb=>?_) (fun hb=>?_)<;>(try simp only[hb0,decide_eq_true_eq,decide_eq_false_iff_not,reduceCtorEq]at hb)<;>(try(exfalso;omega)))
         |(with_reducible refine ite_in (fun hb=>?_) (fun hb=>?_)<;>(try simp only[Decidable.not_not]at hb)<;>(try simp only[hb,if_true,if_false,not_false_eq_true,not_true_eq_false, ↓reduceIte])<;>(try simp only[hb0,decide_eq_true_eq,decide_eq_false_iff_not,reduceCtorEq]at hb)<;>(try(exfalso;omega)))
         |(refine hK _ _ ?_;clear hK;try simp only[pst0, ↓reduceIte,Nat.reduceEqDiff])
         |(clear hK;refine hK _ _ ?_;clear hK;try simp only[pst0, ↓reduceIte,Nat.reduceEqDiff])
         |(clear hK;clear hK;refine hK _ _ ?_;clear hK;try simp only[pst0, ↓reduceIte,Nat.reduceEqDiff])
         |(clear hK;clear hK;clear hK;refine hK _ _ ?_;clear hK;try simp only[pst0, ↓reduceIte,Nat.reduceEqDiff])
         |((first|(with_reducible refine a_past _ rfl (by decide+kernel) ?_)|(with_reducible refine a_past2 (by simp only[List.forall_mem_cons,undef,am0,am1,am2,am3,amb0,amb1,amb2,amb3,amb4,lwn,drn,callee,wantedB,isW,eff,pev,pst0,retPost,resAll,resP,resV,intP,mkV,putC,pbin,sbin,strsEq,peq,pint,pshift,pstr,pun,pconv,isShift,isConstB,app,subS,lay,rowsOf,lkV,keyKind,keyEq,mfind,mput,oInt,isZeroInt,forall_const,exists_eq_left',implies_true,IntKind.bits, ↓reduceIte,Nat.reduceEqDiff,Nat.reduceAdd,Nat.reduceSub,Nat.reduceMul,Nat.reduceLT,Nat.reduceLeDiff,Nat.reduceBEq,Int.reduceLE,Int.reduceLT,Int.reduceToNat,reduceCtorEq,Ty.all,g0,g1,g5,g6,g7,hll3,ho2,hlm,hd3,hr,hr2,wm,hlq,k3]<;>(repeat' apply And.intro)<;>first|trivial|exact .inl (by decide+kernel)) ?_));try simp(maxSteps:=2000000) only[undef,am0,am1,am2,am3,amb0,amb1,amb2,amb3,amb4,lwn,drn,callee,wantedB,isW,eff,pev,pst0,retPost,resAll,resP,resV,intP,mkV,putC,pbin,sbin,strsEq,peq,pint,pshift,pstr,pun,pconv,isShift,isConstB,app,subS,lay,rowsOf,lkV,keyKind,keyEq,mfind,mput,oInt,isZeroInt,forall_const,exists_eq_left',implies_true,IntKind.bits, ↓reduceIte,Nat.reduceEqDiff,Nat.reduceAdd,Nat.reduceSub,Nat.reduceMul,Nat.reduceLT,Nat.reduceLeDiff,Nat.reduceBEq,Int.reduceLE,Int.reduceLT,Int.reduceToNat,reduceCtorEq,Ty.all,g0,g1,g5,g6,g7,hll3,ho2,hlm,hd3,hr,hr2,wm,hlq,k3])
         |(rw[if_pos];rotate_left 1;omega;simp(maxSteps:=2000000) only[undef,am0,am1,am2,am3,amb0,amb1,amb2,amb3,amb4,lwn,drn,callee,wantedB,isW,eff,pev,pst0,retPost,resAll,resP,resV,intP,mkV,putC,pbin,sbin,strsEq,peq,pint,pshift,pstr,pun,pconv,isShift,isConstB,app,subS,lay,rowsOf,lkV,keyKind,keyEq,mfind,mput,oInt,isZeroInt,forall_const,exists_eq_left',implies_true,IntKind.bits, ↓reduceIte,Nat.reduceEqDiff,Nat.reduceAdd,Nat.reduceSub,Nat.reduceMul,Nat.reduceLT,Nat.reduceLeDiff,Nat.reduceBEq,Int.reduceLE,Int.reduceLT,Int.reduceToNat,reduceCtorEq,Ty.all,g0,g1,g5,g6,g7,hll3,ho2,hlm,hd3,hr,hr2,wm,hlq,k3]))
        refine a_dcallV (by simp only[undef,am0,am1,am2,am3,amb0,amb1,amb2,amb3,amb4,lwn,drn,callee,wantedB,isW,eff,pev,pst0,retPost,resAll,resP,resV,intP,mkV,putC,pbin,sbin,strsEq,peq,pint,pshift,pstr,pun,pconv,isShift,isConstB,app,subS,lay,rowsOf,lkV,keyKind,keyEq,mfind,mput,oInt,isZeroInt,forall_const,exists_eq_left',implies_true,IntKind.bits, ↓reduceIte,Nat.reduceEqDiff,Nat.reduceAdd,Nat.reduceSub,Nat.reduceMul,Nat.reduceLT,Nat.reduceLeDiff,Nat.reduceBEq,Int.reduceLE,Int.reduceLT,Int.reduceToNat,reduceCtorEq,g1]) (hc _) (by(try simp only[undef,am0,am1,am2,am3,amb0,amb1,amb2,amb3,amb4,lwn,drn,callee,wantedB,isW,eff,pev,pst0,retPost,resAll,resP,resV,intP,mkV,putC,pbin,sbin,strsEq,peq,pint,pshift,pstr,pun,pconv,isShift,isConstB,app,subS,lay,rowsOf,lkV,keyKind,keyEq,mfind,mput,oInt,isZeroInt,forall_const,exists_eq_left',implies_true,IntKind.bits, ↓reduceIte,Nat.reduceEqDiff,Nat.reduceAdd,Nat.reduceSub,Nat.reduceMul,Nat.reduceLT,Nat.reduceLeDiff,Nat.reduceBEq,Int.reduceLE,Int.reduceLT,Int.reduceToNat,reduceCtorEq,g0,g1,g5,g6,g7]);try rfl) (by simp only[undef,am0,am1,am2,am3,amb0,amb1,amb2,amb3,amb4,lwn,drn,callee,wantedB,isW,eff,pev,pst0,retPost,resAll,resP,resV,intP,mkV,putC,pbin,sbin,strsEq,peq,pint,pshift,pstr,pun,pconv,isShift,isConstB,app,subS,lay,rowsOf,lkV,keyKind,keyEq,mfind,mput,oInt,isZeroInt,forall_const,exists_eq_left',implies_true,IntKind.bits, ↓reduceIte,Nat.reduceEqDiff,Nat.reduceAdd,Nat.reduceSub,Nat.reduceMul,Nat.reduceLT,Nat.reduceLeDiff,Nat.reduceBEq,Int.reduceLE,Int.reduceLT,Int.reduceToNat,reduceCtorEq,pastC,List.map_cons,List.map_nil,List.forall_mem_cons];(repeat' apply And.intro)<;>first|trivial|exact .inl (by decide+kernel)|skip) ?_
        simp(maxSteps:=2000000) only[undef,am0,am1,am2,am3,amb0,amb1,amb2,amb3,amb4,lwn,drn,callee,wantedB,isW,eff,pev,pst0,retPost,resAll,resP,resV,intP,mkV,putC,pbin,sbin,strsEq,peq,pint,pshift,pstr,pun,pconv,isShift,isConstB,app,subS,lay,rowsOf,lkV,keyKind,keyEq,mfind,mput,oInt,isZeroInt,forall_const,exists_eq_left',implies_true,IntKind.bits, ↓reduceIte,Nat.reduceEqDiff,Nat.reduceAdd,Nat.reduceSub,Nat.reduceMul,Nat.reduceLT,Nat.reduceLeDiff,Nat.reduceBEq,Int.reduceLE,Int.reduceLT,Int.reduceToNat,reduceCtorEq,Ty.all,Option.getD_some,g0,g1,g5,g6,g7,Bool.not_true]
        repeat'(first
         |refine a_seq fun K hK=>?_
         |(refine a_block ?_)
         |((first|refine a_regionS ?_|refine a_drawS (by decide+kernel) ?_|refine a_region (fun K hK=>?_)|refine a_draw (by decide+kernel) (fun K hK=>?_)|refine a_ret ?_);simp(maxSteps:=2000000) only[undef,am0,am1,am2,am3,amb0,amb1,amb2,amb3,amb4,lwn,drn,callee,wantedB,isW,eff,pev,pst0,retPost,resAll,resP,resV,intP,mkV,putC,pbin,sbin,strsEq,peq,pint,pshift,pstr,pun,pconv,isShift,isConstB,app,subS,lay,rowsOf,lkV,keyKind,keyEq,mfind,mput,oInt,isZeroInt,forall_const,exists_eq_left',implies_true,IntKind.bits, ↓reduceIte,Nat.reduceEqDiff,Nat.reduceAdd,Nat.reduceSub,Nat.reduceMul,Nat.reduceLT,Nat.reduceLeDiff,Nat.reduceBEq,Int.reduceLE,Int.reduceLT,Int.reduceToNat,reduceCtorEq,Ty.all,g0,g1,g5,g6,g7,w7,Bool.not_true])
         |(refine a_skip ?_;try simp only[pst0, ↓reduceIte,Nat.reduceEqDiff])
         |(refine a_exit ?_;try simp only[pst0, ↓reduceIte,Nat.reduceEqDiff])
         |(refine a_cond _ (by(try simp(maxSteps:=2000000) only[undef,am0,am1,am2,am3,amb0,amb1,amb2,amb3,amb4,lwn,drn,callee,wantedB,isW,eff,pev,pst0,retPost,resAll,resP,resV,intP,mkV,putC,pbin,sbin,strsEq,peq,pint,pshift,pstr,pun,pconv,isShift,isConstB,app,subS,lay,rowsOf,lkV,keyKind,keyEq,mfind,mput,oInt,isZeroInt,forall_const,exists_eq_left',implies_true,IntKind.bits, ↓reduceIte,Nat.reduceEqDiff,Nat.reduceAdd,Nat.reduceSub,Nat.reduceMul,Nat.reduceLT,Nat.reduceLeDiff,Nat.reduceBEq,Int.reduceLE,Int.reduceLT,Int.reduceToNat,reduceCtorEq,Ty.all,g0,g1,g5,g6,g7,w7,Bool.not_true]);rfl) (fun hb=>?_) (fun hb=>?_)<;>(try simp only[hb0,decide_eq_true_eq,decide_eq_false_iff_not,reduceCtorEq]at hb)<;>(try(exfalso;omega)))
         |(with_reducible refine ite_in (fun hb=>?_) (fun hb=>?_)<;>(try simp only[Decidable.not_not]at hb)<;>(try simp only[hb,if_true,if_false,not_false_eq_true,not_true_eq_false, ↓reduceIte])<;>(try simp only[hb0,decide_eq_true_eq,decide_eq_false_iff_not,reduceCtorEq]at hb)<;>(try(exfalso;omega)))
         |(refine hK _ _ ?_;clear hK;try simp only[pst0, ↓reduceIte,Nat.reduceEqDiff])
         |(clear hK;refine hK _ _ ?_;clear hK;try simp only[pst0, ↓reduceIte,Nat.reduceEqDiff])
         |(clear hK;clear hK;refine hK _ _ ?_;clear hK;try simp only[pst0, ↓reduceIte,Nat.reduceEqDiff])
         |(clear hK;clear hK;clear hK;refine hK _ _ ?_;clear hK;try simp only[pst0, ↓reduceIte,Nat.reduceEqDiff])
         |((first|(with_reducible refine a_past _ rfl (by decide+kernel) ?_)|(with_reducible refine a_past2 (by simp only[List.forall_mem_cons,undef,am0,am1,am2,am3,amb0,amb1,amb2,amb3,amb4,lwn,drn,callee,wantedB,isW,eff,pev,pst0,retPost,resAll,resP,resV,intP,mkV,putC,pbin,sbin,strsEq,peq,pint,pshift,pstr,pun,pconv,isShift,isConstB,app,subS,lay,rowsOf,lkV,keyKind,keyEq,mfind,mput,oInt,isZeroInt,forall_const,exists_eq_left',implies_true,IntKind.bits, ↓reduceIte,Nat.reduceEqDiff,Nat.reduceAdd,Nat.reduceSub,Nat.reduceMul,Nat.reduceLT,Nat.reduceLeDiff,Nat.reduceBEq,Int.reduceLE,Int.reduceLT,Int.reduceToNat,reduceCtorEq,Ty.all,g0,g1,g5,g6,g7,w7,Bool.not_true]<;>(repeat' apply And.intro)<;>first|trivial|exact .inl (by decide+kernel)) ?_));try simp(maxSteps:=2000000) only[undef,am0,am1,am2,am3,amb0,amb1,amb2,amb3,amb4,lwn,drn,callee,wantedB,isW,eff,pev,pst0,retPost,resAll,resP,resV,intP,mkV,putC,pbin,sbin,strsEq,peq,pint,pshift,pstr,pun,pconv,isShift,isConstB,app,subS,lay,rowsOf,lkV,keyKind,keyEq,mfind,mput,oInt,isZeroInt,forall_const,exists_eq_left',implies_true,IntKind.bits, ↓reduceIte,Nat.reduceEqDiff,Nat.reduceAdd,Nat.reduceSub,Nat.reduceMul,Nat.reduceLT,Nat.reduceLeDiff,Nat.reduceBEq,Int.reduceLE,Int.reduceLT,Int.reduceToNat,reduceCtorEq,Ty.all,g0,g1,g5,g6,g7,w7,Bool.not_true])
         |(rw[if_pos];rotate_left 1;omega;simp(maxSteps:=2000000) only[undef,am0,am1,am2,am3,amb0,amb1,amb2,amb3,amb4,lwn,drn,callee,wantedB,isW,eff,pev,pst0,retPost,resAll,resP,resV,intP,mkV,putC,pbin,sbin,strsEq,peq,pint,pshift,pstr,pun,pconv,isShift,isConstB,app,subS,lay,rowsOf,lkV,keyKind,keyEq,mfind,mput,oInt,isZeroInt,forall_const,exists_eq_left',implies_true,IntKind.bits, ↓reduceIte,Nat.reduceEqDiff,Nat.reduceAdd,Nat.reduceSub,Nat.reduceMul,Nat.reduceLT,Nat.reduceLeDiff,Nat.reduceBEq,Int.reduceLE,Int.reduceLT,Int.reduceToNat,reduceCtorEq,Ty.all,g0,g1,g5,g6,g7,w7,Bool.not_true]))
        exact⟨n-(k+(q+1)),by omega,j,q+1,M,y,rfl,rfl,by omega,by omega,rfl,hh,hM,hj1,by omega,hdr2,by rw[show k+(q+1)-1=k+q by omega];exact hy,hinv⟩
       |false=>
        rw[hsm]at hinv hc
        simp only[cond_false]at hinv
        repeat'(first
         |refine a_seq fun K hK=>?_
         |(refine a_block ?_)
         |((first|refine a_regionS ?_|refine a_drawS (by decide+kernel) ?_|refine a_region (fun K hK=>?_)|refine a_draw (by decide+kernel) (fun K hK=>?_)|refine a_ret ?_);simp(maxSteps:=2000000) only[undef,am0,am1,am2,am3,amb0,amb1,amb2,amb3,amb4,lwn,drn,callee,wantedB,isW,eff,pev,pst0,retPost,resAll,resP,resV,intP,mkV,putC,pbin,sbin,strsEq,peq,pint,pshift,pstr,pun,pconv,isShift,isConstB,app,subS,lay,rowsOf,lkV,keyKind,keyEq,mfind,mput,oInt,isZeroInt,forall_const,exists_eq_left',implies_true,IntKind.bits, ↓reduceIte,Nat.reduceEqDiff,Nat.reduceAdd,Nat.reduceSub,Nat.reduceMul,Nat.reduceLT,Nat.reduceLeDiff,Nat.reduceBEq,Int.reduceLE,Int.reduceLT,Int.reduceToNat,reduceCtorEq,Ty.all,g0,g1,g5,g6,g7,hll3,ho2,hlm,hd3,hr,hr2,wm,hlq,k3])
         |(refine a_skip ?_;try simp only[pst0, ↓reduceIte,Nat.reduceEqDiff])
         |(refine a_exit ?_;try simp only[pst0, ↓reduceIte,Nat.reduceEqDiff])
         |(refine a_cond _ (by(try simp(maxSteps:=2000000) only[undef,am0,am1,am2,am3,amb0,amb1,amb2,amb3,amb4,lwn,drn,callee,wantedB,isW,eff,pev,pst0,retPost,resAll,resP,resV,intP,mkV,putC,pbin,sbin,strsEq,peq,pint,pshift,pstr,pun,pconv,isShift,isConstB,app,subS,lay,rowsOf,lkV,keyKind,keyEq,mfind,mput,oInt,isZeroInt,forall_const,exists_eq_left',implies_true,IntKind.bits, ↓reduceIte,Nat.reduceEqDiff,Nat.reduceAdd,Nat.reduceSub,Nat.reduceMul,Nat.reduceLT,Nat.reduceLeDiff,Nat.reduceBEq,Int.reduceLE,Int.reduceLT,Int.reduceToNat,reduceCtorEq,Ty.all,g0,g1,g5,g6,g7,hll3,ho2,hlm,hd3,hr,hr2,wm,hlq,k3]);rfl) (fun hb=>?_) (fun hb=>?_)<;>(try simp only[hb0,decide_eq_true_eq,decide_eq_false_iff_not,reduceCtorEq]at hb)<;>(try(exfalso;omega)))
         |(with_reducible refine ite_in (fun hb=>?_) (fun hb=>?_)<;>(try simp only[Decidable.not_not]at hb)<;>(try simp only[hb,if_true,if_false,not_false_eq_true,not_true_eq_false, ↓reduceIte])<;>(try simp only[hb0,decide_eq_true_eq,decide_eq_false_iff_not,reduceCtorEq]at hb)<;>(try(exfalso;omega)))
         |(refine hK _ _ ?_;clear hK;try simp only[pst0, ↓reduceIte,Nat.reduceEqDiff])
         |(clear hK;refine hK _ _ ?_;clear hK;try simp only[pst0, ↓reduceIte,Nat.reduceEqDiff])
         |(clear hK;clear hK;refine hK _ _ ?_;clear hK;try simp only[pst0, ↓reduceIte,Nat.reduceEqDiff])
         |(clear hK;clear hK;clear hK;refine hK _ _ ?_;clear hK;try simp only[pst0, ↓reduceIte,Nat.reduceEqDiff])
         |((first|(with_reducible refine a_past _ rfl (by decide+kernel) ?_)|(with_reducible refine a_past2 (by simp only[List.forall_mem_cons,undef,am0,am1,am2,am3,amb0,amb1,amb2,amb3,amb4,lwn,drn,callee,wantedB,isW,eff,pev,pst0,retPost,resAll,resP,resV,intP,mkV,putC,pbin,sbin,strsEq,peq,pint,pshift,pstr,pun,pconv,isShift,isConstB,app,subS,lay,rowsOf,lkV,keyKind,keyEq,mfind,mput,oInt,isZeroInt,forall_const,exists_eq_left',implies_true,IntKind.bits, ↓reduceIte,Nat.reduceEqDiff,Nat.reduceAdd,Nat.reduceSub,Nat.reduceMul,Nat.reduceLT,Nat.reduceLeDiff,Nat.reduceBEq,Int.reduceLE,Int.reduceLT,Int.reduceToNat,reduceCtorEq,Ty.all,g0,g1,g5,g6,g7,hll3,ho2,hlm,hd3,hr,hr2,wm,hlq,k3]<;>(repeat' apply And.intro)<;>first|trivial|exact .inl (by decide+kernel)) ?_));try simp(maxSteps:=2000000) only[undef,am0,am1,am2,am3,amb0,amb1,amb2,amb3,amb4,lwn,drn,callee,wantedB,isW,eff,pev,pst0,retPost,resAll,resP,resV,intP,mkV,putC,pbin,sbin,strsEq,peq,pint,pshift,pstr,pun,pconv,isShift,isConstB,app,subS,lay,rowsOf,lkV,keyKind,keyEq,mfind,mput,oInt,isZeroInt,forall_const,exists_eq_left',implies_true,IntKind.bits, ↓reduceIte,Nat.reduceEqDiff,Nat.reduceAdd,Nat.reduceSub,Nat.reduceMul,Nat.reduceLT,Nat.reduceLeDiff,Nat.reduceBEq,Int.reduceLE,Int.reduceLT,Int.reduceToNat,reduceCtorEq,Ty.all,g0,g1,g5,g6,g7,hll3,ho2,hlm,hd3,hr,hr2,wm,hlq,k3])
         |(rw[if_pos];rotate_left 1;omega;simp(maxSteps:=2000000) only[undef,am0,am1,am2,am3,amb0,amb1,amb2,amb3,amb4,lwn,drn,callee,wantedB,isW,eff,pev,pst0,retPost,resAll,resP,resV,intP,mkV,putC,pbin,sbin,strsEq,peq,pint,pshift,pstr,pun,pconv,isShift,isConstB,app,subS,lay,rowsOf,lkV,keyKind,keyEq,mfind,mput,oInt,isZeroInt,forall_const,exists_eq_left',implies_true,IntKind.bits, ↓reduceIte,Nat.reduceEqDiff,Nat.reduceAdd,Nat.reduceSub,Nat.reduceMul,Nat.reduceLT,Nat.reduceLeDiff,Nat.reduceBEq,Int.reduceLE,Int.reduceLT,Int.reduceToNat,reduceCtorEq,Ty.all,g0,g1,g5,g6,g7,hll3,ho2,hlm,hd3,hr,hr2,wm,hlq,k3]))
        refine a_dcallV (by simp only[undef,am0,am1,am2,am3,amb0,amb1,amb2,amb3,amb4,lwn,drn,callee,wantedB,isW,eff,pev,pst0,retPost,resAll,resP,resV,intP,mkV,putC,pbin,sbin,strsEq,peq,pint,pshift,pstr,pun,pconv,isShift,isConstB,app,subS,lay,rowsOf,lkV,keyKind,keyEq,mfind,mput,oInt,isZeroInt,forall_const,exists_eq_left',implies_true,IntKind.bits, ↓reduceIte,Nat.reduceEqDiff,Nat.reduceAdd,Nat.reduceSub,Nat.reduceMul,Nat.reduceLT,Nat.reduceLeDiff,Nat.reduceBEq,Int.reduceLE,Int.reduceLT,Int.reduceToNat,reduceCtorEq,g1]) (hc _) (by(try simp only[undef,am0,am1,am2,am3,amb0,amb1,amb2,amb3,amb4,lwn,drn,callee,wantedB,isW,eff,pev,pst0,retPost,resAll,resP,resV,intP,mkV,putC,pbin,sbin,strsEq,peq,pint,pshift,pstr,pun,pconv,isShift,isConstB,app,subS,lay,rowsOf,lkV,keyKind,keyEq,mfind,mput,oInt,isZeroInt,forall_const,exists_eq_left',implies_true,IntKind.bits, ↓reduceIte,Nat.reduceEqDiff,Nat.reduceAdd,Nat.reduceSub,Nat.reduceMul,Nat.reduceLT,Nat.reduceLeDiff,Nat.reduceBEq,Int.reduceLE,Int.reduceLT,Int.reduceToNat,reduceCtorEq,g0,g1,g5,g6,g7]);try rfl) (by simp only[undef,am0,am1,am2,am3,amb0,amb1,amb2,amb3,amb4,lwn,drn,callee,wantedB,isW,eff,pev,pst0,retPost,resAll,resP,resV,intP,mkV,putC,pbin,sbin,strsEq,peq,pint,pshift,pstr,pun,pconv,isShift,isConstB,app,subS,lay,rowsOf,lkV,keyKind,keyEq,mfind,mput,oInt,isZeroInt,forall_const,exists_eq_left',implies_true,IntKind.bits, ↓reduceIte,Nat.reduceEqDiff,Nat.reduceAdd,Nat.reduceSub,Nat.reduceMul,Nat.reduceLT,Nat.reduceLeDiff,Nat.reduceBEq,Int.reduceLE,Int.reduceLT,Int.reduceToNat,reduceCtorEq,pastC,List.map_cons,List.map_nil,List.forall_mem_cons];(repeat' apply And.intro)<;>first|trivial|exact .inl (by decide+kernel)|skip) ?_
        simp(maxSteps:=2000000) only[undef,am0,am1,am2,am3,amb0,amb1,amb2,amb3,amb4,lwn,drn,callee,wantedB,isW,eff,pev,pst0,retPost,resAll,resP,resV,intP,mkV,putC,pbin,sbin,strsEq,peq,pint,pshift,pstr,pun,pconv,isShift,isConstB,app,subS,lay,rowsOf,lkV,keyKind,keyEq,mfind,mput,oInt,isZeroInt,forall_const,exists_eq_left',implies_true,IntKind.bits, ↓reduceIte,Nat.reduceEqDiff,Nat.reduceAdd,Nat.reduceSub,Nat.reduceMul,Nat.reduceLT,Nat.reduceLeDiff,Nat.reduceBEq,Int.reduceLE,Int.reduceLT,Int.reduceToNat,reduceCtorEq,Ty.all,Option.getD_some,g0,g1,g5,g6,g7,Bool.not_false]
        repeat'(first
         |refine a_seq fun K hK=>?_
         |(refine a_block ?_)
         |((first|refine a_regionS ?_|refine a_drawS (by decide+kernel) ?_|refine a_region (fun K hK=>?_)|refine a_draw (by decide+kernel) (fun K hK=>?_)|refine a_ret ?_);simp(maxSteps:=2000000) only[undef,am0,am1,am2,am3,amb0,amb1,amb2,amb3,amb4,lwn,drn,callee,wantedB,isW,eff,pev,pst0,retPost,resAll,resP,resV,intP,mkV,putC,pbin,sbin,strsEq,peq,pint,pshift,pstr,pun,pconv,isShift,isConstB,app,subS,lay,rowsOf,lkV,keyKind,keyEq,mfind,mput,oInt,isZeroInt,forall_const,exists_eq_left',implies_true,IntKind.bits, ↓reduceIte,Nat.reduceEqDiff,Nat.reduceAdd,Nat.reduceSub,Nat.reduceMul,Nat.reduceLT,Nat.reduceLeDiff,Nat.reduceBEq,Int.reduceLE,Int.reduceLT,Int.reduceToNat,reduceCtorEq,Ty.all,g0,g1,g5,g6,g7,ho2,hlm,hr,hr3,w7,w8,hlq,k5,Bool.not_false])
         |(refine a_skip ?_;try simp only[pst0, ↓reduceIte,Nat.reduceEqDiff])
         |(refine a_exit ?_;try simp only[pst0, ↓reduceIte,Nat.reduceEqDiff])
         |(refine a_cond _ (by(try simp(maxSteps:=2000000) only[undef,am0,am1,am2,am3,amb0,amb1,amb2,amb3,amb4,lwn,drn,callee,wantedB,isW,eff,pev,pst0,retPost,resAll,resP,resV,intP,mkV,putC,pbin,sbin,strsEq,peq,pint,pshift,pstr,pun,pconv,isShift,isConstB,app,subS,lay,rowsOf,lkV,keyKind,keyEq,mfind,mput,oInt,isZeroInt,forall_const,exists_eq_left',implies_true,IntKind.bits, ↓reduceIte,Nat.reduceEqDiff,Nat.reduceAdd,Nat.reduceSub,Nat.reduceMul,Nat.reduceLT,Nat.reduceLeDiff,Nat.reduceBEq,Int.reduceLE,Int.reduceLT,Int.reduceToNat,reduceCtorEq,Ty.all,g0,g1,g5,g6,g7,ho2,hlm,hr,hr3,w7,w8,hlq,k5,Bool.not_false]);rfl) (fun hb=>?_) (fun hb=>?_)<;>(try simp only[hb0,decide_eq_true_eq,decide_eq_false_iff_not,reduceCtorEq]at hb)<;>(try(exfalso;omega)))
         |(with_reducible refine ite_in (fun hb=>?_) (fun hb=>?_)<;>(try simp only[Decidable.not_not]at hb)<;>(try simp only[hb,if_true,if_false,not_false_eq_true,not_true_eq_false, ↓reduceIte])<;>(try simp only[hb0,decide_eq_true_eq,decide_eq_false_iff_not,reduceCtorEq]at hb)<;>(try(exfalso;omega)))
         |(refine hK _ _ ?_;clear hK;try simp only[pst0, ↓reduceIte,Nat.reduceEqDiff])
         |(clear hK;refine hK _ _ ?_;clear hK;try simp only[pst0, ↓reduceIte,Nat.reduceEqDiff])
         |(clear hK;clear hK;refine hK _ _ ?_;clear hK;try simp only[pst0, ↓reduceIte,Nat.reduceEqDiff])
         |(clear hK;clear hK;clear hK;refine hK _ _ ?_;clear hK;try simp only[pst0, ↓reduceIte,Nat.reduceEqDiff])
         |((first|(with_reducible refine a_past _ rfl (by decide+kernel) ?_)|(with_reducible refine a_past2 (by simp only[List.forall_mem_cons,undef,am0,am1,am2,am3,amb0,amb1,amb2,amb3,amb4,lwn,drn,callee,wantedB,isW,eff,pev,pst0,retPost,resAll,resP,resV,intP,mkV,putC,pbin,sbin,strsEq,peq,pint,pshift,pstr,pun,pconv,isShift,isConstB,app,subS,lay,rowsOf,lkV,keyKind,keyEq,mfind,mput,oInt,isZeroInt,forall_const,exists_eq_left',implies_true,IntKind.bits, ↓reduceIte,Nat.reduceEqDiff,Nat.reduceAdd,Nat.reduceSub,Nat.reduceMul,Nat.reduceLT,Nat.reduceLeDiff,Nat.reduceBEq,Int.reduceLE,Int.reduceLT,Int.reduceToNat,reduceCtorEq,Ty.all,g0,g1,g5,g6,g7,ho2,hlm,hr,hr3,w7,w8,hlq,k5,Bool.not_false]<;>(repeat' apply And.intro)<;>first|trivial|exact .inl (by decide+kernel)) ?_));try simp(maxSteps:=2000000) only[undef,am0,am1,am2,am3,amb0,amb1,amb2,amb3,amb4,lwn,drn,callee,wantedB,isW,eff,pev,pst0,retPost,resAll,resP,resV,intP,mkV,putC,pbin,sbin,strsEq,peq,pint,pshift,pstr,pun,pconv,isShift,isConstB,app,subS,lay,rowsOf,lkV,keyKind,keyEq,mfind,mput,oInt,isZeroInt,forall_const,exists_eq_left',implies_true,IntKind.bits, ↓reduceIte,Nat.reduceEqDiff,Nat.reduceAdd,Nat.reduceSub,Nat.reduceMul,Nat.reduceLT,Nat.reduceLeDiff,Nat.reduceBEq,Int.reduceLE,Int.reduceLT,Int.reduceToNat,reduceCtorEq,Ty.all,g0,g1,g5,g6,g7,ho2,hlm,hr,hr3,w7,w8,hlq,k5,Bool.not_false])
         |(rw[if_pos];rotate_left 1;omega;simp(maxSteps:=2000000) only[undef,am0,am1,am2,am3,amb0,amb1,amb2,amb3,amb4,lwn,drn,callee,wantedB,isW,eff,pev,pst0,retPost,resAll,resP,resV,intP,mkV,putC,pbin,sbin,strsEq,peq,pint,pshift,pstr,pun,pconv,isShift,isConstB,app,subS,lay,rowsOf,lkV,keyKind,keyEq,mfind,mput,oInt,isZeroInt,forall_const,exists_eq_left',implies_true,IntKind.bits, ↓reduceIte,Nat.reduceEqDiff,Nat.reduceAdd,Nat.reduceSub,Nat.reduceMul,Nat.reduceLT,Nat.reduceLeDiff,Nat.reduceBEq,Int.reduceLE,Int.reduceLT,Int.reduceToNat,reduceCtorEq,Ty.all,g0,g1,g5,g6,g7,ho2,hlm,hr,hr3,w7,w8,hlq,k5,Bool.not_false]))
        refine⟨n-(k+(q+1)),by omega,j+1,q+1,M.set j y,y,rfl,rfl,by omega,by omega,rfl,?_,by simp[hM],by omega,by omega,?_,by rw[show k+(q+1)-1=k+q by omega];exact hy,?_⟩
        ·rw [hh,heap_set2, ← atRows_set];try rfl
        ·rw [List.drop_set_of_lt (by omega)];exact hdr2
        ·rw [hinv,List.take_add_one,List.take_set_of_le (Nat.le_refl _),List.getElem?_set_self (by omega)]
         simp[Nat.add_assoc]
      ·have hd3:decide ((q:Int)<((n-k:Nat):Int))=false:=by simp;omega
       have hjn:(j:Int)≤(n:Int):=by omega
       have hsub:((n:Int)-(j:Int)).toNat=n-j:=by omega
       have hsub2:((j:Int)-0).toNat=j:=by omega
       have hfit:j+(n-j)≤n:=by omega
       have hCj:C=M.take j:=by
        rw[hinv,List.drop_eq_nil_of_le (by omega)]
        simp[compR]
       have hCl:C.length=j:=by rw[hCj,List.length_take,hM];omega
       repeat'(first
        |refine a_seq fun K hK=>?_
        |(refine a_block ?_)
        |((first|refine a_regionS ?_|refine a_drawS (by decide+kernel) ?_|refine a_region (fun K hK=>?_)|refine a_draw (by decide+kernel) (fun K hK=>?_)|refine a_ret ?_);simp(maxSteps:=2000000) only[undef,am0,am1,am2,am3,amb0,amb1,amb2,amb3,amb4,lwn,drn,callee,wantedB,isW,eff,pev,pst0,retPost,resAll,resP,resV,intP,mkV,putC,pbin,sbin,strsEq,peq,pint,pshift,pstr,pun,pconv,isShift,isConstB,app,subS,lay,rowsOf,lkV,keyKind,keyEq,mfind,mput,oInt,isZeroInt,forall_const,exists_eq_left',implies_true,IntKind.bits, ↓reduceIte,Nat.reduceEqDiff,Nat.reduceAdd,Nat.reduceSub,Nat.reduceMul,Nat.reduceLT,Nat.reduceLeDiff,Nat.reduceBEq,Int.reduceLE,Int.reduceLT,Int.reduceToNat,reduceCtorEq,Ty.all,g0,g1,g5,g6,g7,hll3,ho2,hlm,hd3,hjn,hsub,hsub2,hfit,clr_own,Int.le_refl,Option.getD_some,Option.getD_none])
        |(refine a_skip ?_;try simp only[pst0, ↓reduceIte,Nat.reduceEqDiff])
        |(refine a_exit ?_;try simp only[pst0, ↓reduceIte,Nat.reduceEqDiff])
        |(refine a_cond _ (by(try simp(maxSteps:=2000000) only[undef,am0,am1,am2,am3,amb0,amb1,amb2,amb3,amb4,lwn,drn,callee,wantedB,isW,eff,pev,pst0,retPost,resAll,resP,resV,intP,mkV,putC,pbin,sbin,strsEq,peq,pint,pshift,pstr,pun,pconv,isShift,isConstB,app,subS,lay,rowsOf,lkV,keyKind,keyEq,mfind,mput,oInt,isZeroInt,forall_const,exists_eq_left',implies_true,IntKind.bits, ↓reduceIte,Nat.reduceEqDiff,Nat.reduceAdd,Nat.reduceSub,Nat.reduceMul,Nat.reduceLT,Nat.reduceLeDiff,Nat.reduceBEq,Int.reduceLE,Int.reduceLT,Int.reduceToNat,reduceCtorEq,Ty.all,g0,g1,g5,g6,g7,hll3,ho2,hlm,hd3,hjn,hsub,hsub2,hfit,clr_own,Int.le_refl,Option.getD_some,Option.getD_none]);rfl) (fun hb=>?_) (fun hb=>?_)<;>(try simp only[hb0,decide_eq_true_eq,decide_eq_false_iff_not,reduceCtorEq]at hb)<;>(try(exfalso;omega)))
        |(with_reducible refine ite_in (fun hb=>?_) (fun hb=>?_)<;>(try simp only[Decidable.not_not]at hb)<;>(try simp only[hb,if_true,if_false,not_false_eq_true,not_true_eq_false, ↓reduceIte])<;>(try simp only[hb0,decide_eq_true_eq,decide_eq_false_iff_not,reduceCtorEq]at hb)<;>(try(exfalso;omega)))
        |(refine hK _ _ ?_;clear hK;try simp only[pst0, ↓reduceIte,Nat.reduceEqDiff])
        |(clear hK;refine hK _ _ ?_;clear hK;try simp only[pst0, ↓reduceIte,Nat.reduceEqDiff])
        |(clear hK;clear hK;refine hK _ _ ?_;clear hK;try simp only[pst0, ↓reduceIte,Nat.reduceEqDiff])
        |(clear hK;clear hK;clear hK;refine hK _ _ ?_;clear hK;try simp only[pst0, ↓reduceIte,Nat.reduceEqDiff])
        |((first|(with_reducible refine a_past _ rfl (by decide+kernel) ?_)|(with_reducible refine a_past2 (by simp only[List.forall_mem_cons,undef,am0,am1,am2,am3,amb0,amb1,amb2,amb3,amb4,lwn,drn,callee,wantedB,isW,eff,pev,pst0,retPost,resAll,resP,resV,intP,mkV,putC,pbin,sbin,strsEq,peq,pint,pshift,pstr,pun,pconv,isShift,isConstB,app,subS,lay,rowsOf,lkV,keyKind,keyEq,mfind,mput,oInt,isZeroInt,forall_const,exists_eq_left',implies_true,IntKind.bits, ↓reduceIte,Nat.reduceEqDiff,Nat.reduceAdd,Nat.reduceSub,Nat.reduceMul,Nat.reduceLT,Nat.reduceLeDiff,Nat.reduceBEq,Int.reduceLE,Int.reduceLT,Int.reduceToNat,reduceCtorEq,Ty.all,g0,g1,g5,g6,g7,hll3,ho2,hlm,hd3,hjn,hsub,hsub2,hfit,clr_own,Int.le_refl,Option.getD_some,Option.getD_none]<;>(repeat' apply And.intro)<;>first|trivial|exact .inl (by decide+kernel)) ?_));try simp(maxSteps:=2000000) only[undef,am0,am1,am2,am3,amb0,amb1,amb2,amb3,amb4,lwn,drn,callee,wantedB,isW,eff,pev,pst0,retPost,resAll,resP,resV,intP,mkV,putC,pbin,sbin,strsEq,peq,pint,pshift,pstr,pun,pconv,isShift,isConstB,app,subS,lay,rowsOf,lkV,keyKind,keyEq,mfind,mput,oInt,isZeroInt,forall_const,exists_eq_left',implies_true,IntKind.bits, ↓reduceIte,Nat.reduceEqDiff,Nat.reduceAdd,Nat.reduceSub,Nat.reduceMul,Nat.reduceLT,Nat.reduceLeDiff,Nat.reduceBEq,Int.reduceLE,Int.reduceLT,Int.reduceToNat,reduceCtorEq,Ty.all,g0,g1,g5,g6,g7,hll3,ho2,hlm,hd3,hjn,hsub,hsub2,hfit,clr_own,Int.le_refl,Option.getD_some,Option.getD_none])
        |(rw[if_pos];rotate_left 1;omega;simp(maxSteps:=2000000) only[undef,am0,am1,am2,am3,amb0,amb1,amb2,amb3,amb4,lwn,drn,callee,wantedB,isW,eff,pev,pst0,retPost,resAll,resP,resV,intP,mkV,putC,pbin,sbin,strsEq,peq,pint,pshift,pstr,pun,pconv,isShift,isConstB,app,subS,lay,rowsOf,lkV,keyKind,keyEq,mfind,mput,oInt,isZeroInt,forall_const,exists_eq_left',implies_true,IntKind.bits, ↓reduceIte,Nat.reduceEqDiff,Nat.reduceAdd,Nat.reduceSub,Nat.reduceMul,Nat.reduceLT,Nat.reduceLeDiff,Nat.reduceBEq,Int.reduceLE,Int.reduceLT,Int.reduceToNat,reduceCtorEq,Ty.all,g0,g1,g5,g6,g7,hll3,ho2,hlm,hd3,hjn,hsub,hsub2,hfit,clr_own,Int.le_refl,Option.getD_some,Option.getD_none]))
       rw[hCl]
       refine⟨rfl,(atRows M).take j++List.replicate (n-j) [.sc (.string ⟨#[]⟩),.sc (.slice none 0 0)]++(atRows M).drop (j+(n-j)),?_,?_,?_⟩
       ·rw [hh,heap_set2]
       ·simp only[List.length_append,List.length_take,hlm];omega
       ·rw [List.append_assoc,List.take_append_of_le_length (by simp only[List.length_take,hlm];omega),List.take_take,Nat.min_self,atRows_take, ← hCj]
   ·have hd2:decide ((k:Int)<(n:Int))=false:=by simp;omega
    have hCD:C=D:=by
     rw[hinv,List.drop_eq_nil_of_le (by omega),List.take_of_length_le (by omega)]
     simp[compR]
    repeat'(first
     |refine a_seq fun K hK=>?_
     |(refine a_block ?_)
     |((first|refine a_regionS ?_|refine a_region (fun K hK=>?_)|refine a_ret ?_);simp(maxSteps:=2000000) only[undef,am0,am1,am2,am3,amb0,amb1,amb2,amb3,amb4,lwn,drn,callee,wantedB,isW,eff,pev,pst0,retPost,resAll,resP,resV,intP,mkV,putC,pbin,sbin,strsEq,peq,pint,pshift,pstr,pun,pconv,isShift,isConstB,app,subS,lay,rowsOf,lkV,keyKind,keyEq,mfind,mput,oInt,isZeroInt,forall_const,exists_eq_left',implies_true,IntKind.bits, ↓reduceIte,Nat.reduceEqDiff,Nat.reduceAdd,Nat.reduceSub,Nat.reduceMul,Nat.reduceLT,Nat.reduceLeDiff,Nat.reduceBEq,Int.reduceLE,Int.reduceLT,Int.reduceToNat,reduceCtorEq,Ty.all,g0,g1,g5,hll2,hd2])
     |(refine a_skip ?_;try simp only[pst0, ↓reduceIte,Nat.reduceEqDiff])
     |(refine a_exit ?_;try simp only[pst0, ↓reduceIte,Nat.reduceEqDiff])
     |(refine a_cond _ (by(try simp(maxSteps:=2000000) only[undef,am0,am1,am2,am3,amb0,amb1,amb2,amb3,amb4,lwn,drn,callee,wantedB,isW,eff,pev,pst0,retPost,resAll,resP,resV,intP,mkV,putC,pbin,sbin,strsEq,peq,pint,pshift,pstr,pun,pconv,isShift,isConstB,app,subS,lay,rowsOf,lkV,keyKind,keyEq,mfind,mput,oInt,isZeroInt,forall_const,exists_eq_left',implies_true,IntKind.bits, ↓reduceIte,Nat.reduceEqDiff,Nat.reduceAdd,Nat.reduceSub,Nat.reduceMul,Nat.reduceLT,Nat.reduceLeDiff,Nat.reduceBEq,Int.reduceLE,Int.reduceLT,Int.reduceToNat,reduceCtorEq,Ty.all,g0,g1,g5,hll2,hd2]);rfl) (fun hb=>?_) (fun hb=>?_)<;>(try simp only[hb0,decide_eq_true_eq,decide_eq_false_iff_not,reduceCtorEq]at hb)<;>(try(exfalso;omega)))
     |(with_reducible refine ite_in (fun hb=>?_) (fun hb=>?_)<;>(try simp only[Decidable.not_not]at hb)<;>(try simp only[hb,if_true,if_false,not_false_eq_true,not_true_eq_false, ↓reduceIte])<;>(try simp only[hb0,decide_eq_true_eq,decide_eq_false_iff_not,reduceCtorEq]at hb)<;>(try(exfalso;omega)))
     |(refine hK _ _ ?_;clear hK;try simp only[pst0, ↓reduceIte,Nat.reduceEqDiff])
     |(clear hK;refine hK _ _ ?_;clear hK;try simp only[pst0, ↓reduceIte,Nat.reduceEqDiff])
     |(clear hK;clear hK;refine hK _ _ ?_;clear hK;try simp only[pst0, ↓reduceIte,Nat.reduceEqDiff])
     |(clear hK;clear hK;clear hK;refine hK _ _ ?_;clear hK;try simp only[pst0, ↓reduceIte,Nat.reduceEqDiff])
     |(rw[if_pos];rotate_left 1;omega;simp(maxSteps:=2000000) only[undef,am0,am1,am2,am3,amb0,amb1,amb2,amb3,amb4,lwn,drn,callee,wantedB,isW,eff,pev,pst0,retPost,resAll,resP,resV,intP,mkV,putC,pbin,sbin,strsEq,peq,pint,pshift,pstr,pun,pconv,isShift,isConstB,app,subS,lay,rowsOf,lkV,keyKind,keyEq,mfind,mput,oInt,isZeroInt,forall_const,exists_eq_left',implies_true,IntKind.bits, ↓reduceIte,Nat.reduceEqDiff,Nat.reduceAdd,Nat.reduceSub,Nat.reduceMul,Nat.reduceLT,Nat.reduceLeDiff,Nat.reduceBEq,Int.reduceLE,Int.reduceLT,Int.reduceToNat,reduceCtorEq,Ty.all,g0,g1,g5,hll2,hd2]))
    rw[hCD,hn]
    exact⟨rfl,_,heap_self ho,by omega,by rw[List.take_of_length_le (by omega)]⟩
end Go.Proofs.Ytdekkbdlcblhcaa
namespace Go.AM
section
variable {P:Program}{f:FuncId}{z:Nat}{h:Heap}{K:PV→Heap→Prop}
theorem RepL.nil_split{β:Env}{n:Nat}{F:Nat→Prop}{w:World}{z:Nat}: ∀ {pre post:List PV}{vals:List Value},RepL β n F w (pre++ .imm z []::post) vals→ ∃ a cap,RepL β n F w (pre++ .sc (.slice a 0 cap)::post) vals
 |[],post,[],h=>by simp[RepL]at h
 |[],post,v::vals,h=>by
  simp only[List.nil_append,RepL,Rep]at h⊢
  obtain⟨⟨a,cap,hv,_⟩,h2⟩:=h
  exact⟨a,cap,by simpa using hv,h2⟩
 |p::pre,post,[],h=>by simp[RepL]at h
 |p::pre,post,v::vals,h=>by
  simp only[List.cons_append,RepL]at h⊢
  obtain⟨a,cap,hx⟩:=RepL.nil_split h.2
  exact⟨a,cap,h.1,hx⟩
theorem PCall.nil_split{pre post:List PV}(h0: ∀ a cap,PCall P f (pre++ .sc (.slice a 0 cap)::post) h K):PCall P f (pre++ .imm z []::post) h K:=by
 intro β w vals sm hr
 obtain⟨a,cap,hx⟩:=RepL.nil_split hr
 exact h0 a cap β w vals sm hx
theorem PCall.nil1(h0: ∀ a cap,PCall P f [.sc (.slice a 0 cap)] h K):PCall P f [.imm z []] h K:=PCall.nil_split (pre:=[]) (post:=[]) h0
theorem peq_none(c:Bool)(cap:Nat):peq 5 c (.sc (.slice none 0 cap)) (.sc (.slice none 0 0))=some true:=rfl
theorem peq_some(c:Bool)(x:Addr)(cap:Nat):peq 5 c (.sc (.slice (some x) 0 cap)) (.sc (.slice none 0 0))=some false:=rfl
theorem view_some(h:Heap)(x:Option Addr)(cap:Nat):view h (.sc (.slice x 0 cap))=some []:=by
 unfold view
 split<;>first|rfl|(simp_all;done)|(simp_all)
theorem zOk_some(h:Heap)(z:Nat)(x:Option Addr)(cap:Nat):zOk h z (.sc (.slice x 0 cap))=true:=by
 unfold zOk
 split<;>first|rfl|(simp_all;done)|(simp_all)
end
end Go.AM
namespace Go.AM
def vEq:Value→Value→Bool
 | .int k a,.int k' b=>decide (k=k')&&decide (a=b)
 | .bool a,.bool b=>a==b
 | .string a,.string b=>decide (a.data.toList=b.data.toList)
 | .nilIface,.nilIface=>true
 | .pointer none,.pointer none=>true
 | .map none,.map none=>true
 | .slice none n m,.slice none n' m'=>decide (n=n')&&decide (m=m')
 | .func (.func f) a b,.func (.func f') a' b'=>decide (f=f')&&decide (a.size=0)&&decide (b.size=0)&&decide (a'.size=0)&&decide (b'.size=0)
 | .iface t v,.iface u x=>decide (t=u)&&vEq v x
 |_,_=>false
theorem vEq_eq(a b:Value)(h:vEq a b=true):a=b:=by
 fun_induction vEq a b
 case case3 a b=>
  obtain⟨⟨a⟩⟩:=a
  obtain⟨⟨b⟩⟩:=b
  simp at h;rw[h]
 case case8=>
  simp at h
  obtain⟨⟨⟨⟨rfl,rfl⟩,rfl⟩,rfl⟩,rfl⟩:=h
  rfl
 all_goals simp_all
mutual
def pvEq:PV→PV→Bool
 | .sc v,.sc u=>vEq v u
 | .ptr a b c,.ptr a' b' c'=>decide (a=a')&&decide (b=b')&&decide (c=c')
 | .own a b c,.own a' b' c'=>decide (a=a')&&decide (b=b')&&decide (c=c')
 | .mp a,.mp b=>decide (a=b)
 | .emp,.emp=>true
 | .cptr l,.cptr l'=>pvEqL l l'
 | .agg l,.agg l'=>pvEqL l l'
 | .tup l,.tup l'=>pvEqL l l'
 | .fn f a b,.fn f' a' b'=>decide (f=f')&&pvEqL a a'&&pvEqL b b'
 | .ab k a b c d,.ab k' a' b' c' d'=>decide (k=k')&&decide (a=a')&&decide (b=b')&&decide (c=c')&&decide (d=d')
 | .imm z r,.imm z' r'=>decide (z=z')&&pvEqR r r'
 |_,_=>false
def pvEqL:List PV→List PV→Bool
 |[],[]=>true
 |a::l,b::l'=>pvEq a b&&pvEqL l l'
 |_,_=>false
def pvEqR:List (List PV)→List (List PV)→Bool
 |[],[]=>true
 |a::l,b::l'=>pvEqL a b&&pvEqR l l'
 |_,_=>false
end
mutual
theorem pvEq_eq: ∀ (a b:PV),pvEq a b=true→a=b
 | .sc v,b,h=>by cases b<;>simp[pvEq]at h;rw[vEq_eq _ _ h]
 | .ptr a b c,x,h=>by cases x<;>simp[pvEq]at h;obtain⟨⟨rfl,rfl⟩,rfl⟩:=h;rfl
 | .own a b c,x,h=>by cases x<;>simp[pvEq]at h;obtain⟨⟨rfl,rfl⟩,rfl⟩:=h;rfl
 | .mp a,x,h=>by cases x<;>simp[pvEq]at h;rw[h]
 | .emp,x,h=>by cases x<;>simp[pvEq]at h;rfl
 | .cptr l,x,h=>by cases x<;>simp[pvEq]at h;rw[pvEqL_eq _ _ h]
 | .agg l,x,h=>by cases x<;>simp[pvEq]at h;rw[pvEqL_eq _ _ h]
 | .tup l,x,h=>by cases x<;>simp[pvEq]at h;rw[pvEqL_eq _ _ h]
 | .imm z r,x,h=>by cases x<;>simp[pvEq]at h;rw[h.1,pvEqR_eq _ _ h.2]
 | .fn f a b,x,h=>by cases x<;>simp[pvEq]at h;rw[h.1.1,pvEqL_eq _ _ h.1.2,pvEqL_eq _ _ h.2]
 | .ab k a b c d,x,h=>by cases x<;>simp[pvEq]at h;obtain⟨⟨⟨⟨rfl,rfl⟩,rfl⟩,rfl⟩,rfl⟩:=h;rfl
theorem pvEqL_eq: ∀ (a b:List PV),pvEqL a b=true→a=b
 |[],b,h=>by cases b<;>simp[pvEqL]at h;rfl
 |x::l,b,h=>by cases b<;>simp[pvEqL]at h;rw[pvEq_eq _ _ h.1,pvEqL_eq _ _ h.2]
theorem pvEqR_eq: ∀ (a b:List (List PV)),pvEqR a b=true→a=b
 |[],b,h=>by cases b<;>simp[pvEqR]at h;rfl
 |x::l,b,h=>by cases b<;>simp[pvEqR]at h;rw[pvEqL_eq _ _ h.1,pvEqR_eq _ _ h.2]
end
section
variable (P:Program)(wf:FuncId→Bool)(own:FuncId→Nat→Bool)(ext:FuncId→List PV→Option PV)
end
section
variable {P:Program}{wf:FuncId→Bool}{own:FuncId→Nat→Bool}
def ExtOk(P:Program)(ext:FuncId→List PV→Option PV):Prop:= ∀ f args r h,ext f args=some r→PCall P f args h (fun r' h'=>r'=r∧h'=h)
theorem eff_same{ow:Nat→Bool}{o:Oper}{ρ:Operand→PV}{h h':Heap}{v:PV}(hw:isW ow wf o=false)(hc:callee ρ o.op=none)(he:eff P (o.dst.any ow) o.op ρ h=some (v,h')):h'=h:=by
 obtain⟨dst,op,t,pos,after,guard⟩:=o
 simp only at hc he hw
 unfold eff at he
 split at he<;>simp only[isW]at hw<;>(try(simp at hw;done))
 all_goals(repeat'(split at he))
 all_goals first
  |(simp[Option.bind_eq_some_iff,Option.map_eq_some_iff]at he;done)
  |(simp[Option.bind_eq_some_iff,Option.map_eq_some_iff]at he;grind)
  |skip
theorem Does.owp{ow:Nat→Bool}{o:Oper}{s:Slots}{h h':Heap}{v:PV}{K:Slots→Heap→Prop}(hd:Does P ow o (pev s) h v h')(hK:K (updO s o.dst v) h'):owp P ow o K s h:=by
 unfold Does at hd
 unfold AM.owp
 split at hd
 ·rename_i f args hc
  exact hd.mono (fun r h'' hr=>by rw[hr.1,hr.2];exact hK)
 ·rename_i hc
  rw[hd]
  exact hK
theorem pcall_indexByte{f:FuncId}{fn:Func}(hf:P.funcs[f]? =some fn)(hname:(fn.name== "runtime.NumGoroutine")=false)(hb:fn.body.isNone=true)(hn:Extern.findNext fn=none)(he:Extern.find fn=some Extern.BytealgIndexByte.indexByte)(s:ByteArray)(c:Int)(h:Heap):
  PCall P f [.sc (.string s),.sc (.int .u8 c)] h (fun r h'=>r= .sc (.int .i64 (firstIdx s c.toNat.toUInt8))∧h'=h):=by
 intro β w vals sm hr
 match vals,hr.len,hr with
 |[x,y],_,hr=>
  simp only[RepL,Rep]at hr
  obtain⟨rfl,rfl,_⟩:=hr
  exact .inr ⟨_,w,by rw[run_callFunc_extern hf hname hb hn he];simp only[run_indexByte_string];rfl,_,h,β,_,rfl,⟨rfl,rfl⟩,sm,by simp only[RepH,Rep],Ext.refl⟩
end
end Go.AM
namespace Go.Proofs.Ytdekkbdlcblhcaa
open Go.AM
set_option maxHeartbeats 2000000
set_option maxRecDepth 100000
def ext(f:FuncId)(args:List PV):Option PV:=if f=96 then(match args with|[.sc (.string s),.sc (.int .u8 c)]=>some (.sc (.int .i64 (firstIdx s c.toNat.toUInt8)))|_=>none)else none
theorem ixb_ok:(Try.f96.name== "runtime.NumGoroutine")=false∧Try.f96.body.isNone=true∧Extern.findNext Try.f96=none∧Extern.find Try.f96=some Extern.BytealgIndexByte.indexByte:=
 ⟨by kernel_rfl,by kernel_rfl,by kernel_rfl,by kernel_rfl⟩
theorem ext_ok:ExtOk Try.prog ext:=by
 intro f args r h hr
 unfold ext at hr
 split at hr
 ·rename_i hf
  subst hf
  split at hr
  ·simp only[Option.some.injEq]at hr
   subst hr
   exact pcall_indexByte Try.func96 ixb_ok.1 ixb_ok.2.1 ixb_ok.2.2.1 ixb_ok.2.2.2 _ _ _
  ·simp at hr
 ·simp at hr
end Go.Proofs.Ytdekkbdlcblhcaa
namespace Go.AM
def Tl(h:Heap)(id0 z:Nat)(p:PV)(rows:List (List PV)):Prop:=
 (rows=[]∧(p= .sc (.slice none 0 0)∨p= .emp))∨ ∃ id,id0≤id∧id<h.next∧p= .own id 0 rows.length∧h.obj id=some (.arr z rows)
variable {h:Heap}{id0 z:Nat}{p:PV}{rows:List (List PV)}
theorem Tl.nil:Tl h id0 z (.sc (.slice none 0 0)) []:= .inl ⟨rfl,.inl rfl⟩
theorem Tl.tail(t:Tl h id0 z p rows): ∃ H,isTail h p=some (H,rows)∧zOk h z p=true∧H.next=h.next∧(∀ j,j<id0→H.obj j=h.obj j)∧(∀ h0,Keep h0 h→h0.next≤id0→Keep h0 H):=by
 rcases t with⟨rfl,rfl|rfl⟩|⟨id,h1,h2,rfl,ho⟩
 ·exact ⟨h,rfl,rfl,rfl,fun _ _=>rfl,fun _ hk _=>hk⟩
 ·exact ⟨h,rfl,rfl,rfl,fun _ _=>rfl,fun _ hk _=>hk⟩
 ·refine ⟨h.kill id,by simp[isTail,ho],by simp[zOk,ho],rfl,fun j hj=>?_,fun h0 hk hn=>keep_kill (by omega) hk⟩
  rw[kill_obj,if_neg (by omega)]
theorem Tl.grow{H:Heap}{len:Nat}(hn:id0≤H.next)(hl:len=rows.length):Tl (H.new (.arr z rows)) id0 z (.own H.next 0 len) rows:=
 .inr ⟨H.next,hn,Nat.lt_succ_self _,by rw[hl],by rw[new_obj,if_pos rfl]⟩
theorem Tl.up{h':Heap}(t:Tl h id0 z p rows)(hn:h.next≤h'.next)(ho: ∀ j,id0≤j→j<h.next→h'.obj j=h.obj j):Tl h' id0 z p rows:=by
 rcases t with ht|⟨id,h1,h2,rfl,h3⟩
 ·exact .inl ht
 ·exact .inr ⟨id,h1,by omega,rfl,by rw[ho id h1 h2];exact h3⟩
theorem FrzL_sc{n:Nat}:(l:List PV)→(∀ p∈l, ∃ v,p= .sc v)→FrzL n h l l
 |[],_=>by simp only[FrzL]
 |p::l,hp=>by
  obtain⟨v,hv⟩:=hp p (by simp)
  simp only[FrzL]
  exact⟨by rw[hv];simp only[FrzTo],FrzL_sc l (fun q hq=>hp q (by simp[hq]))⟩
theorem FrzR_sc{n:Nat}:(l:List (List PV))→(∀ r∈l, ∀ p∈r, ∃ v,p= .sc v)→FrzR n h l l
 |[],_=>by simp only[FrzR]
 |r::l,hp=>by
  simp only[FrzR]
  exact⟨FrzL_sc r (hp r (by simp)),FrzR_sc l (fun q hq=>hp q (by simp[hq]))⟩
theorem Tl.frz(t:Tl h id0 z p rows)(hs: ∀ r∈rows, ∀ p∈r, ∃ v,p= .sc v):FrzTo id0 h (.imm z rows) p:=by
 simp only[FrzTo]
 rcases t with⟨h1,h2⟩|⟨id,h1,h2,rfl,ho⟩
 ·exact .inr (.inl ⟨h1,h2.symm⟩)
 ·refine .inr (.inr ⟨id,0,_,_,rfl,h1,ho,by omega,?_⟩)
  rw[List.drop_zero,List.take_of_length_le (by omega)]
  exact FrzR_sc _ hs
theorem owp_useH{P:Program}{ow:Nat→Bool}{n:Nat}{s:Slots}{f:FuncId}{dst:Option Tmp}{args:List Operand}{ts:Array TypeId}{ty:TypeId}{pos:String}{af:Array Edge}{gd:Option (Nat × Bool)}{ags:List PV}{v:PV}{h1:Heap}{K:Slots→Heap→Prop}{ops rest:List Oper}
  (hc:PCall P f ags h fun r h'=>r=v∧h'=h1)(ha:args.map (pev s)=ags)(hk:lwn P ow n ops rest K (updO s dst v) h1):
  owp P ow {dst:=dst,op:= .call {callee:= .value (.func f),args:=args.toArray,argTypes:=ts},type:=ty,pos:=pos,after:=af,guard:=gd} (lwp P ow n ops rest K) s h:=
 owp_useL hc ha fun r h' hr=>by rw[hr.1,hr.2];exact hk
end Go.AM
namespace Go.Proofs.Ytdekkbdlcblhcaa
open Go.AM
set_option maxHeartbeats 2000000
set_option maxRecDepth 20000
theorem PCall.frz{P:Program}{f:FuncId}{args:List PV}{h:Heap}{v:PV}(hb:hasBody P f=true)(hc:PCall P f args h fun r' h'=>FrzTo h.next h' v r'∧Grow h h'):PCall P f args h fun r h'=>r=v∧h'=h:=by
 refine pcall_wf hb fun hw=>PCall.drop (hc.mono ?_)
 rintro r' h' ⟨hf,g⟩
 refine⟨v,h,⟨rfl,rfl⟩,hf,Nat.le_refl _,fun id o ho=>?_⟩
 have hid:=hw id (by rw[ho];try rfl)
 exact⟨by rw[g.old id hid];exact ho,hid,.inl ho⟩
end Go.Proofs.Ytdekkbdlcblhcaa
namespace Go.AM
mutual
def Ex.small:Ex→Prop
 | .mk _ _ _ args kids=>args.length≤1048576∧Ex.smalls kids
def Ex.smalls:List Ex→Prop
 |[]=>True
 |k::ks=>k.small∧Ex.smalls ks
end
end Go.AM
namespace Go.Proofs.Ytdekkbdlcblhcaa
open Go.AM
set_option maxHeartbeats 2000000
set_option maxRecDepth 20000
end Go.Proofs.Ytdekkbdlcblhcaa
namespace Go.Proofs.Ytdekkbdlcblhcaa
open Go.AM
set_option maxHeartbeats 2000000
set_option maxRecDepth 20000
structure Hold(p:Prop):Prop where
 out:p
theorem a_hold{P:Program}{ow:Nat→Bool}{wf:FuncId→Bool}{n:Nat}{Q:Post}{s:Slots}{h:Heap}(id:Nat){ops:Array Oper}{d:Bool}{x y:Code}(hh:Hold (awp P ow wf n (.seq (.seq (.region id ops d) x) y) Q s h)):awp P ow wf n (.seq (.seq (.region id ops d) x) y) Q s h:=hh.out
theorem a_cut{P:Program}{ow:Nat→Bool}{wf:FuncId→Bool}{n:Nat}{Q:Post}{s:Slots}{h:Heap}{a b:Code}(I:Slots→Heap→Prop)(h1:awp P ow wf n a (Post.seq I Q) s h)(h2: ∀ s h,I s h→awp P ow wf n b Q s h):awp P ow wf n (.seq a b) Q s h:=by
 simp only[awp]
 refine awp_mono a (fun e s h hh=>?_) h1
 cases e<;>simp only[Post.seq]at hh⊢
 ·exact h2 _ _ hh
 all_goals exact hh
end Go.Proofs.Ytdekkbdlcblhcaa
namespace Go.Proofs.Ytdekkbdlcblhcaa
open Go.AM
set_option maxHeartbeats 2000000
set_option maxRecDepth 20000
theorem tl_frzS{h:Heap}{id0:Nat}{p:PV}{l:List ByteArray}(t:Tl h id0 1 p (strRows l)):FrzTo id0 h (.imm 1 (strRows l)) p:=t.frz fun r hr p hp=>by
 simp only[strRows,List.mem_map]at hr
 obtain⟨s,_,rfl⟩:=hr
 simp only[List.mem_singleton]at hp
 exact⟨_,hp⟩
end Go.Proofs.Ytdekkbdlcblhcaa
namespace Go.Proofs.Ytdekkbdlcblhcaa
open Go.AM
def zeroFm:Fm:= .mk ⟨#[]⟩ ⟨#[]⟩ [] [] [] []
end Go.Proofs.Ytdekkbdlcblhcaa
namespace Go.Proofs.Ytdekkbdlcblhcaa
open Go.AM
def fin(r:Fm × Int):Fm × Int:=bif r.2==0 then r else(zeroFm,r.2)
end Go.Proofs.Ytdekkbdlcblhcaa
namespace Go.Proofs.Ytdekkbdlcblhcaa
open Go.AM
set_option maxHeartbeats 4000000
set_option maxRecDepth 20000
theorem a_gen{P:Program}{ow:Nat→Bool}{wf:FuncId→Bool}{n:Nat}{Q:Post}{s:Slots}{h:Heap}{c:Code}(I:Slots→Heap→Prop)(hi:I s h)(hh: ∀ s h,I s h→awp P ow wf n c Q s h):awp P ow wf n c Q s h:=hh _ _ hi
end Go.Proofs.Ytdekkbdlcblhcaa
namespace Go.Proofs.Ytdekkbdlcblhcaa
open Go.AM
set_option maxHeartbeats 2000000
set_option maxRecDepth 20000
theorem cloneS_c{l:List ByteArray}(hl:l.length≤1099511627776)(h:Heap):PCall Try.prog 13 [.imm 1 (strRows l)] h fun r h'=>Grow h h'∧Tl h' h.next 1 r (strRows l):=by
 have hll:=strRows_len l
 cases l with
 |nil=>
  have e0:strRows []=[]:=rfl
  rw[e0]
  refine PCall.nil1 fun a cap=>?_
  cases a with
  |none=>
   refine pcall_body (ow:=fun _=>false) (wf:=fun _=>false) Ty.mixed Try.func13 rfl Ty.hb_13 (by rw[Try.ntmps13];simp) ?_
   rw[Try.ntmps13,Try.results13]
   repeat'(first
    |refine a_seq fun K hK=>?_
    |(refine a_block ?_)
    |((first|refine a_regionS ?_|refine a_region (fun K hK=>?_)|refine a_ret ?_);simp(maxSteps:=2000000) only[undef,am0,am1,am2,am3,amb0,amb1,amb2,amb3,amb4,lwn,drn,callee,wantedB,isW,eff,pev,pst0,retPost,resAll,resP,resV,intP,mkV,putC,pbin,sbin,strsEq,peq,pint,pshift,pstr,pun,pconv,isShift,isConstB,app,subS,lay,rowsOf,lkV,keyKind,keyEq,mfind,mput,oInt,isZeroInt,forall_const,exists_eq_left',implies_true,IntKind.bits, ↓reduceIte,Nat.reduceEqDiff,Nat.reduceAdd,Nat.reduceSub,Nat.reduceMul,Nat.reduceLT,Nat.reduceLeDiff,Nat.reduceBEq,Int.reduceLE,Int.reduceLT,Int.reduceToNat,reduceCtorEq,Ty.all,peq_none])
    |(refine a_skip ?_;try simp only[pst0, ↓reduceIte,Nat.reduceEqDiff])
    |(refine a_exit ?_;try simp only[pst0, ↓reduceIte,Nat.reduceEqDiff])
    |(refine a_cond _ (by(try simp(maxSteps:=2000000) only[undef,am0,am1,am2,am3,amb0,amb1,amb2,amb3,amb4,lwn,drn,callee,wantedB,isW,eff,pev,pst0,retPost,resAll,resP,resV,intP,mkV,putC,pbin,sbin,strsEq,peq,pint,pshift,pstr,pun,pconv,isShift,isConstB,app,subS,lay,rowsOf,lkV,keyKind,keyEq,mfind,mput,oInt,isZeroInt,forall_const,exists_eq_left',implies_true,IntKind.bits, ↓reduceIte,Nat.reduceEqDiff,Nat.reduceAdd,Nat.reduceSub,Nat.reduceMul,Nat.reduceLT,Nat.reduceLeDiff,Nat.reduceBEq,Int.reduceLE,Int.reduceLT,Int.reduceToNat,reduceCtorEq,Ty.all,peq_none]);rfl) (fun hb=>?_) (fun hb=>?_)<;>(try simp only[hb0,decide_eq_true_eq,decide_eq_false_iff_not,reduceCtorEq]at hb)<;>(try(exfalso;omega)))
    |(with_reducible refine ite_in (fun hb=>?_) (fun hb=>?_)<;>(try simp only[Decidable.not_not]at hb)<;>(try simp only[hb,if_true,if_false,not_false_eq_true,not_true_eq_false, ↓reduceIte])<;>(try simp only[hb0,decide_eq_true_eq,decide_eq_false_iff_not,reduceCtorEq]at hb)<;>(try(exfalso;omega)))
    |(refine hK _ _ ?_;clear hK;try simp only[pst0, ↓reduceIte,Nat.reduceEqDiff])
    |(clear hK;refine hK _ _ ?_;clear hK;try simp only[pst0, ↓reduceIte,Nat.reduceEqDiff])
    |(clear hK;clear hK;refine hK _ _ ?_;clear hK;try simp only[pst0, ↓reduceIte,Nat.reduceEqDiff])
    |(clear hK;clear hK;clear hK;refine hK _ _ ?_;clear hK;try simp only[pst0, ↓reduceIte,Nat.reduceEqDiff])
    |(rw[if_pos];rotate_left 1;omega;simp(maxSteps:=2000000) only[undef,am0,am1,am2,am3,amb0,amb1,amb2,amb3,amb4,lwn,drn,callee,wantedB,isW,eff,pev,pst0,retPost,resAll,resP,resV,intP,mkV,putC,pbin,sbin,strsEq,peq,pint,pshift,pstr,pun,pconv,isShift,isConstB,app,subS,lay,rowsOf,lkV,keyKind,keyEq,mfind,mput,oInt,isZeroInt,forall_const,exists_eq_left',implies_true,IntKind.bits, ↓reduceIte,Nat.reduceEqDiff,Nat.reduceAdd,Nat.reduceSub,Nat.reduceMul,Nat.reduceLT,Nat.reduceLeDiff,Nat.reduceBEq,Int.reduceLE,Int.reduceLT,Int.reduceToNat,reduceCtorEq,Ty.all,peq_none]))
   exact⟨Grow.refl _,Tl.nil⟩
  |some x=>
   refine pcall_body (ow:=fun _=>false) (wf:=fun _=>false) Ty.mixed Try.func13 rfl Ty.hb_13 (by rw[Try.ntmps13];simp) ?_
   rw[Try.ntmps13,Try.results13]
   repeat'(first
    |refine a_seq fun K hK=>?_
    |(refine a_block ?_)
    |((first|refine a_regionS ?_|refine a_region (fun K hK=>?_)|refine a_ret ?_);simp(maxSteps:=2000000) only[undef,am0,am1,am2,am3,amb0,amb1,amb2,amb3,amb4,lwn,drn,callee,wantedB,isW,eff,pev,pst0,retPost,resAll,resP,resV,intP,mkV,putC,pbin,sbin,strsEq,peq,pint,pshift,pstr,pun,pconv,isShift,isConstB,app,subS,lay,rowsOf,lkV,keyKind,keyEq,mfind,mput,oInt,isZeroInt,forall_const,exists_eq_left',implies_true,IntKind.bits, ↓reduceIte,Nat.reduceEqDiff,Nat.reduceAdd,Nat.reduceSub,Nat.reduceMul,Nat.reduceLT,Nat.reduceLeDiff,Nat.reduceBEq,Int.reduceLE,Int.reduceLT,Int.reduceToNat,reduceCtorEq,Ty.all,peq_some,view_some,zOk_some])
    |(refine a_skip ?_;try simp only[pst0, ↓reduceIte,Nat.reduceEqDiff])
    |(refine a_exit ?_;try simp only[pst0, ↓reduceIte,Nat.reduceEqDiff])
    |(refine a_cond _ (by(try simp(maxSteps:=2000000) only[undef,am0,am1,am2,am3,amb0,amb1,amb2,amb3,amb4,lwn,drn,callee,wantedB,isW,eff,pev,pst0,retPost,resAll,resP,resV,intP,mkV,putC,pbin,sbin,strsEq,peq,pint,pshift,pstr,pun,pconv,isShift,isConstB,app,subS,lay,rowsOf,lkV,keyKind,keyEq,mfind,mput,oInt,isZeroInt,forall_const,exists_eq_left',implies_true,IntKind.bits, ↓reduceIte,Nat.reduceEqDiff,Nat.reduceAdd,Nat.reduceSub,Nat.reduceMul,Nat.reduceLT,Nat.reduceLeDiff,Nat.reduceBEq,Int.reduceLE,Int.reduceLT,Int.reduceToNat,reduceCtorEq,Ty.all,peq_some,view_some,zOk_some]);rfl) (fun hb=>?_) (fun hb=>?_)<;>(try simp only[hb0,decide_eq_true_eq,decide_eq_false_iff_not,reduceCtorEq]at hb)<;>(try(exfalso;omega)))
    |(with_reducible refine ite_in (fun hb=>?_) (fun hb=>?_)<;>(try simp only[Decidable.not_not]at hb)<;>(try simp only[hb,if_true,if_false,not_false_eq_true,not_true_eq_false, ↓reduceIte])<;>(try simp only[hb0,decide_eq_true_eq,decide_eq_false_iff_not,reduceCtorEq]at hb)<;>(try(exfalso;omega)))
    |(refine hK _ _ ?_;clear hK;try simp only[pst0, ↓reduceIte,Nat.reduceEqDiff])
    |(clear hK;refine hK _ _ ?_;clear hK;try simp only[pst0, ↓reduceIte,Nat.reduceEqDiff])
    |(clear hK;clear hK;refine hK _ _ ?_;clear hK;try simp only[pst0, ↓reduceIte,Nat.reduceEqDiff])
    |(clear hK;clear hK;clear hK;refine hK _ _ ?_;clear hK;try simp only[pst0, ↓reduceIte,Nat.reduceEqDiff])
    |(rw[if_pos];rotate_left 1;omega;simp(maxSteps:=2000000) only[undef,am0,am1,am2,am3,amb0,amb1,amb2,amb3,amb4,lwn,drn,callee,wantedB,isW,eff,pev,pst0,retPost,resAll,resP,resV,intP,mkV,putC,pbin,sbin,strsEq,peq,pint,pshift,pstr,pun,pconv,isShift,isConstB,app,subS,lay,rowsOf,lkV,keyKind,keyEq,mfind,mput,oInt,isZeroInt,forall_const,exists_eq_left',implies_true,IntKind.bits, ↓reduceIte,Nat.reduceEqDiff,Nat.reduceAdd,Nat.reduceSub,Nat.reduceMul,Nat.reduceLT,Nat.reduceLeDiff,Nat.reduceBEq,Int.reduceLE,Int.reduceLT,Int.reduceToNat,reduceCtorEq,Ty.all,peq_some,view_some,zOk_some]))
   exact⟨(Grow.refl h).new _,Tl.grow (Nat.le_refl _) rfl⟩
 |cons x l=>
  have h0:(0<(strRows (x::l)).length)=True:=by rw[hll];simp
  have hb:((x::l).length)*16≤140737488355328:=by omega
  have hz:0+(strRows (x::l)).length=(x::l).length:=by omega
  generalize strRows (x::l)=R at hll h0 hz
  refine pcall_body (ow:=fun _=>false) (wf:=fun _=>false) Ty.mixed Try.func13 rfl Ty.hb_13 (by rw[Try.ntmps13];simp) ?_
  rw[Try.ntmps13,Try.results13]
  repeat'(first
   |refine a_seq fun K hK=>?_
   |(refine a_block ?_)
   |((first|refine a_regionS ?_|refine a_region (fun K hK=>?_)|refine a_ret ?_);simp(maxSteps:=2000000) only[undef,am0,am1,am2,am3,amb0,amb1,amb2,amb3,amb4,lwn,drn,callee,wantedB,isW,eff,pev,pst0,retPost,resAll,resP,resV,intP,mkV,putC,pbin,sbin,strsEq,peq,pint,pshift,pstr,pun,pconv,isShift,isConstB,app,subS,lay,rowsOf,lkV,keyKind,keyEq,mfind,mput,oInt,isZeroInt,forall_const,exists_eq_left',implies_true,IntKind.bits, ↓reduceIte,Nat.reduceEqDiff,Nat.reduceAdd,Nat.reduceSub,Nat.reduceMul,Nat.reduceLT,Nat.reduceLeDiff,Nat.reduceBEq,Int.reduceLE,Int.reduceLT,Int.reduceToNat,reduceCtorEq,Ty.all,h0,hll,hb])
   |(refine a_skip ?_;try simp only[pst0, ↓reduceIte,Nat.reduceEqDiff])
   |(refine a_exit ?_;try simp only[pst0, ↓reduceIte,Nat.reduceEqDiff])
   |(refine a_cond _ (by(try simp(maxSteps:=2000000) only[undef,am0,am1,am2,am3,amb0,amb1,amb2,amb3,amb4,lwn,drn,callee,wantedB,isW,eff,pev,pst0,retPost,resAll,resP,resV,intP,mkV,putC,pbin,sbin,strsEq,peq,pint,pshift,pstr,pun,pconv,isShift,isConstB,app,subS,lay,rowsOf,lkV,keyKind,keyEq,mfind,mput,oInt,isZeroInt,forall_const,exists_eq_left',implies_true,IntKind.bits, ↓reduceIte,Nat.reduceEqDiff,Nat.reduceAdd,Nat.reduceSub,Nat.reduceMul,Nat.reduceLT,Nat.reduceLeDiff,Nat.reduceBEq,Int.reduceLE,Int.reduceLT,Int.reduceToNat,reduceCtorEq,Ty.all,h0,hll,hb]);rfl) (fun hb=>?_) (fun hb=>?_)<;>(try simp only[hb0,decide_eq_true_eq,decide_eq_false_iff_not,reduceCtorEq]at hb)<;>(try(exfalso;omega)))
   |(with_reducible refine ite_in (fun hb=>?_) (fun hb=>?_)<;>(try simp only[Decidable.not_not]at hb)<;>(try simp only[hb,if_true,if_false,not_false_eq_true,not_true_eq_false, ↓reduceIte])<;>(try simp only[hb0,decide_eq_true_eq,decide_eq_false_iff_not,reduceCtorEq]at hb)<;>(try(exfalso;omega)))
   |(refine hK _ _ ?_;clear hK;try simp only[pst0, ↓reduceIte,Nat.reduceEqDiff])
   |(clear hK;refine hK _ _ ?_;clear hK;try simp only[pst0, ↓reduceIte,Nat.reduceEqDiff])
   |(clear hK;clear hK;refine hK _ _ ?_;clear hK;try simp only[pst0, ↓reduceIte,Nat.reduceEqDiff])
   |(clear hK;clear hK;clear hK;refine hK _ _ ?_;clear hK;try simp only[pst0, ↓reduceIte,Nat.reduceEqDiff])
   |(rw[if_pos];rotate_left 1;omega;simp(maxSteps:=2000000) only[undef,am0,am1,am2,am3,amb0,amb1,amb2,amb3,amb4,lwn,drn,callee,wantedB,isW,eff,pev,pst0,retPost,resAll,resP,resV,intP,mkV,putC,pbin,sbin,strsEq,peq,pint,pshift,pstr,pun,pconv,isShift,isConstB,app,subS,lay,rowsOf,lkV,keyKind,keyEq,mfind,mput,oInt,isZeroInt,forall_const,exists_eq_left',implies_true,IntKind.bits, ↓reduceIte,Nat.reduceEqDiff,Nat.reduceAdd,Nat.reduceSub,Nat.reduceMul,Nat.reduceLT,Nat.reduceLeDiff,Nat.reduceBEq,Int.reduceLE,Int.reduceLT,Int.reduceToNat,reduceCtorEq,Ty.all,h0,hll,hb]))
  exact⟨(Grow.refl h).new _,Tl.grow (Nat.le_refl _) (by simp[hll])⟩
theorem cloneS_q{l:List ByteArray}(hl:l.length≤1099511627776)(h:Heap):PCall Try.prog 13 [.imm 1 (strRows l)] h fun r h'=>r= .imm 1 (strRows l)∧h'=h:=by
 refine PCall.frz Ty.hb_13 ((cloneS_c hl h).mono ?_)
 rintro r h' ⟨hg,tl⟩
 exact⟨tl_frzS tl,hg⟩
end Go.Proofs.Ytdekkbdlcblhcaa
namespace Go.AM
theorem PCall.frzE{P:Program}{f:FuncId}{args:List PV}{h:Heap}{C:PV→Prop}(hb:hasBody P f=true)(hc:PCall P f args h fun r' h'=> ∃ v,C v∧FrzTo h.next h' v r'∧Grow h h'):PCall P f args h fun r h'=>C r∧h'=h:=by
 refine pcall_wf hb fun hw=>PCall.drop (hc.mono ?_)
 rintro r' h' ⟨v,hv,hf,g⟩
 refine⟨v,h,⟨hv,rfl⟩,hf,Nat.le_refl _,fun id o ho=>?_⟩
 have hid:=hw id (by rw[ho];try rfl)
 exact⟨by rw[g.old id hid];exact ho,hid,.inl ho⟩
theorem str_in9(n:Nat)(l:List ByteArray):inNR n (strRows l):=by
 induction l with
 |nil=>simp only[strRows,List.map_nil,inNR]
 |cons s l ih=>
  simp only[strRows,List.map_cons]at ih⊢
  unfold inNR
  exact⟨by unfold inNL;exact⟨by simp only[inN],by simp only[inNL]⟩,ih⟩
theorem ats_frz9(n:Nat)(h:Heap): ∀ l:List At,FrzR n h (atRows l) (atRows l)
 |[]=>by simp only[atRows,List.map_nil,FrzR]
 |a::l=>by
  have:=ats_frz9 n h l
  simp only[atRows,List.map_cons]at this⊢
  unfold FrzR
  refine⟨?_,this⟩
  simp only[atRow,FrzL,FrzTo,and_true,true_and]
  exact .inl (str_in9 n a.args)
theorem atRows_app(l:List At)(a:At):atRows (l++[a])=atRows l++[[sPV a.name,.imm 1 (strRows a.args)]]:=by simp[atRows,atRow]
def InitV(I:List At)(r:PV):Prop:= ∃ D:List At,D.Perm I∧D.Pairwise (fun a b=>decide (cmpP b a<0)=false)∧r= .imm 2 (atRows (compA D))
end Go.AM
namespace Go.Proofs.Ytdekkbdlcblhcaa
open Go.AM
set_option maxHeartbeats 4000000
set_option maxRecDepth 20000
theorem compactF_nil{p:PV}(hp:p= .emp∨p= .sc (.slice none 0 0)){g:FuncId}{h:Heap}:PCall Try.prog 16 [p,.sc (.func (.func g) #[] #[])] h fun r h'=>r=p∧h'=h:=by
 have d:decide ((0:Int)<2)=true:=rfl
 rcases hp with rfl|rfl
 ·refine pcall_body (ow:=fun _=>false) (wf:=fun _=>false) Ty.mixed Try.func16 rfl Ty.hb_16 (by rw[Try.ntmps16];simp) ?_
  rw[Try.ntmps16,Try.results16]
  repeat'(first
   |refine a_seq fun K hK=>?_
   |(refine a_block ?_)
   |((first|refine a_regionS ?_|refine a_region (fun K hK=>?_)|refine a_ret ?_);simp(maxSteps:=2000000) only[undef,am0,am1,am2,am3,amb0,amb1,amb2,amb3,amb4,lwn,drn,callee,wantedB,isW,eff,pev,pst0,retPost,resAll,resP,resV,intP,mkV,putC,pbin,sbin,strsEq,peq,pint,pshift,pstr,pun,pconv,isShift,isConstB,app,subS,lay,rowsOf,lkV,keyKind,keyEq,mfind,mput,oInt,isZeroInt,forall_const,exists_eq_left',implies_true,IntKind.bits, ↓reduceIte,Nat.reduceEqDiff,Nat.reduceAdd,Nat.reduceSub,Nat.reduceMul,Nat.reduceLT,Nat.reduceLeDiff,Nat.reduceBEq,Int.reduceLE,Int.reduceLT,Int.reduceToNat,reduceCtorEq,Ty.all,d])
   |(refine a_skip ?_;try simp only[pst0, ↓reduceIte,Nat.reduceEqDiff])
   |(refine a_exit ?_;try simp only[pst0, ↓reduceIte,Nat.reduceEqDiff])
   |(refine a_cond _ (by(try simp(maxSteps:=2000000) only[undef,am0,am1,am2,am3,amb0,amb1,amb2,amb3,amb4,lwn,drn,callee,wantedB,isW,eff,pev,pst0,retPost,resAll,resP,resV,intP,mkV,putC,pbin,sbin,strsEq,peq,pint,pshift,pstr,pun,pconv,isShift,isConstB,app,subS,lay,rowsOf,lkV,keyKind,keyEq,mfind,mput,oInt,isZeroInt,forall_const,exists_eq_left',implies_true,IntKind.bits, ↓reduceIte,Nat.reduceEqDiff,Nat.reduceAdd,Nat.reduceSub,Nat.reduceMul,Nat.reduceLT,Nat.reduceLeDiff,Nat.reduceBEq,Int.reduceLE,Int.reduceLT,Int.reduceToNat,reduceCtorEq,Ty.all,d]);rfl) (fun hb=>?_) (fun hb=>?_)<;>(try simp only[hb0,decide_eq_true_eq,decide_eq_false_iff_not,reduceCtorEq]at hb)<;>(try(exfalso;omega)))
   |(with_reducible refine ite_in (fun hb=>?_) (fun hb=>?_)<;>(try simp only[Decidable.not_not]at hb)<;>(try simp only[hb,if_true,if_false,not_false_eq_true,not_true_eq_false, ↓reduceIte])<;>(try simp only[hb0,decide_eq_true_eq,decide_eq_false_iff_not,reduceCtorEq]at hb)<;>(try(exfalso;omega)))
   |(refine hK _ _ ?_;clear hK;try simp only[pst0, ↓reduceIte,Nat.reduceEqDiff])
   |(clear hK;refine hK _ _ ?_;clear hK;try simp only[pst0, ↓reduceIte,Nat.reduceEqDiff])
   |(clear hK;clear hK;refine hK _ _ ?_;clear hK;try simp only[pst0, ↓reduceIte,Nat.reduceEqDiff])
   |(clear hK;clear hK;clear hK;refine hK _ _ ?_;clear hK;try simp only[pst0, ↓reduceIte,Nat.reduceEqDiff])
   |(rw[if_pos];rotate_left 1;omega;simp(maxSteps:=2000000) only[undef,am0,am1,am2,am3,amb0,amb1,amb2,amb3,amb4,lwn,drn,callee,wantedB,isW,eff,pev,pst0,retPost,resAll,resP,resV,intP,mkV,putC,pbin,sbin,strsEq,peq,pint,pshift,pstr,pun,pconv,isShift,isConstB,app,subS,lay,rowsOf,lkV,keyKind,keyEq,mfind,mput,oInt,isZeroInt,forall_const,exists_eq_left',implies_true,IntKind.bits, ↓reduceIte,Nat.reduceEqDiff,Nat.reduceAdd,Nat.reduceSub,Nat.reduceMul,Nat.reduceLT,Nat.reduceLeDiff,Nat.reduceBEq,Int.reduceLE,Int.reduceLT,Int.reduceToNat,reduceCtorEq,Ty.all,d]))
 ·refine pcall_body (ow:=fun _=>false) (wf:=fun _=>false) Ty.mixed Try.func16 rfl Ty.hb_16 (by rw[Try.ntmps16];simp) ?_
  rw[Try.ntmps16,Try.results16]
  repeat'(first
   |refine a_seq fun K hK=>?_
   |(refine a_block ?_)
   |((first|refine a_regionS ?_|refine a_region (fun K hK=>?_)|refine a_ret ?_);simp(maxSteps:=2000000) only[undef,am0,am1,am2,am3,amb0,amb1,amb2,amb3,amb4,lwn,drn,callee,wantedB,isW,eff,pev,pst0,retPost,resAll,resP,resV,intP,mkV,putC,pbin,sbin,strsEq,peq,pint,pshift,pstr,pun,pconv,isShift,isConstB,app,subS,lay,rowsOf,lkV,keyKind,keyEq,mfind,mput,oInt,isZeroInt,forall_const,exists_eq_left',implies_true,IntKind.bits, ↓reduceIte,Nat.reduceEqDiff,Nat.reduceAdd,Nat.reduceSub,Nat.reduceMul,Nat.reduceLT,Nat.reduceLeDiff,Nat.reduceBEq,Int.reduceLE,Int.reduceLT,Int.reduceToNat,reduceCtorEq,Ty.all,d])
   |(refine a_skip ?_;try simp only[pst0, ↓reduceIte,Nat.reduceEqDiff])
   |(refine a_exit ?_;try simp only[pst0, ↓reduceIte,Nat.reduceEqDiff])
   |(refine a_cond _ (by(try simp(maxSteps:=2000000) only[undef,am0,am1,am2,am3,amb0,amb1,amb2,amb3,amb4,lwn,drn,callee,wantedB,isW,eff,pev,pst0,retPost,resAll,resP,resV,intP,mkV,putC,pbin,sbin,strsEq,peq,pint,pshift,pstr,pun,pconv,isShift,isConstB,app,subS,lay,rowsOf,lkV,keyKind,keyEq,mfind,mput,oInt,isZeroInt,forall_const,exists_eq_left',implies_true,IntKind.bits, ↓reduceIte,Nat.reduceEqDiff,Nat.reduceAdd,Nat.reduceSub,Nat.reduceMul,Nat.reduceLT,Nat.reduceLeDiff,Nat.reduceBEq,Int.reduceLE,Int.reduceLT,Int.reduceToNat,reduceCtorEq,Ty.all,d]);rfl) (fun hb=>?_) (fun hb=>?_)<;>(try simp only[hb0,decide_eq_true_eq,decide_eq_false_iff_not,reduceCtorEq]at hb)<;>(try(exfalso;omega)))
   |(with_reducible refine ite_in (fun hb=>?_) (fun hb=>?_)<;>(try simp only[Decidable.not_not]at hb)<;>(try simp only[hb,if_true,if_false,not_false_eq_true,not_true_eq_false, ↓reduceIte])<;>(try simp only[hb0,decide_eq_true_eq,decide_eq_false_iff_not,reduceCtorEq]at hb)<;>(try(exfalso;omega)))
   |(refine hK _ _ ?_;clear hK;try simp only[pst0, ↓reduceIte,Nat.reduceEqDiff])
   |(clear hK;refine hK _ _ ?_;clear hK;try simp only[pst0, ↓reduceIte,Nat.reduceEqDiff])
   |(clear hK;clear hK;refine hK _ _ ?_;clear hK;try simp only[pst0, ↓reduceIte,Nat.reduceEqDiff])
   |(clear hK;clear hK;clear hK;refine hK _ _ ?_;clear hK;try simp only[pst0, ↓reduceIte,Nat.reduceEqDiff])
   |(rw[if_pos];rotate_left 1;omega;simp(maxSteps:=2000000) only[undef,am0,am1,am2,am3,amb0,amb1,amb2,amb3,amb4,lwn,drn,callee,wantedB,isW,eff,pev,pst0,retPost,resAll,resP,resV,intP,mkV,putC,pbin,sbin,strsEq,peq,pint,pshift,pstr,pun,pconv,isShift,isConstB,app,subS,lay,rowsOf,lkV,keyKind,keyEq,mfind,mput,oInt,isZeroInt,forall_const,exists_eq_left',implies_true,IntKind.bits, ↓reduceIte,Nat.reduceEqDiff,Nat.reduceAdd,Nat.reduceSub,Nat.reduceMul,Nat.reduceLT,Nat.reduceLeDiff,Nat.reduceBEq,Int.reduceLE,Int.reduceLT,Int.reduceToNat,reduceCtorEq,Ty.all,d]))
theorem pInit_c{p:Pb}(hI:p.init.length≤1048576)(hok: ∀ a∈p.init,a.ok)(hal: ∀ a∈p.init,a.args.length≤1099511627776)(h:Heap):
  PCall Try.prog 6 [.agg p.cells] h fun r h'=>InitV p.init r∧h'=h:=by
 refine PCall.frzE Ty.hb_6 ?_
 obtain⟨pn,pd,po,pi,pv,⟨gop,gname,gargs,gparams,gexprs,gkids⟩⟩:=p
 simp only[Pb.cells,Fm.cells,List.cons_append,List.nil_append]at hI hok hal⊢
 have hll:=atRows_len pi
 refine pcall_body (ow:=fun _=>false) (wf:=fun g=>g==14||g==16) Ty.mixed Try.func6 rfl Ty.hb_6 (by rw[Try.ntmps6];simp) ?_
 rw[Try.ntmps6,Try.results6]
 repeat'(first
  |refine a_seq fun K hK=>?_
  |(refine a_block ?_)
  |((first|refine a_regionS ?_|refine a_region (fun K hK=>?_)|refine a_ret ?_);simp(maxSteps:=2000000) only[undef,am0,am1,am2,am3,amb0,amb1,amb2,amb3,amb4,lwn,drn,callee,wantedB,isW,eff,pev,pst0,retPost,resAll,resP,resV,intP,mkV,putC,pbin,sbin,strsEq,peq,pint,pshift,pstr,pun,pconv,isShift,isConstB,app,subS,lay,rowsOf,lkV,keyKind,keyEq,mfind,mput,oInt,isZeroInt,forall_const,exists_eq_left',implies_true,IntKind.bits, ↓reduceIte,Nat.reduceEqDiff,Nat.reduceAdd,Nat.reduceSub,Nat.reduceMul,Nat.reduceLT,Nat.reduceLeDiff,Nat.reduceBEq,Int.reduceLE,Int.reduceLT,Int.reduceToNat,reduceCtorEq,Ty.all,hll])
  |(refine a_skip ?_;try simp only[pst0, ↓reduceIte,Nat.reduceEqDiff])
  |(refine a_exit ?_;try simp only[pst0, ↓reduceIte,Nat.reduceEqDiff])
  |(refine a_cond _ (by(try simp(maxSteps:=2000000) only[undef,am0,am1,am2,am3,amb0,amb1,amb2,amb3,amb4,lwn,drn,callee,wantedB,isW,eff,pev,pst0,retPost,resAll,resP,resV,intP,mkV,putC,pbin,sbin,strsEq,peq,pint,pshift,pstr,pun,pconv,isShift,isConstB,app,subS,lay,rowsOf,lkV,keyKind,keyEq,mfind,mput,oInt,isZeroInt,forall_const,exists_eq_left',implies_true,IntKind.bits, ↓reduceIte,Nat.reduceEqDiff,Nat.reduceAdd,Nat.reduceSub,Nat.reduceMul,Nat.reduceLT,Nat.reduceLeDiff,Nat.reduceBEq,Int.reduceLE,Int.reduceLT,Int.reduceToNat,reduceCtorEq,Ty.all,hll]);rfl) (fun hb=>?_) (fun hb=>?_)<;>(try simp only[hb0,decide_eq_true_eq,decide_eq_false_iff_not,reduceCtorEq]at hb)<;>(try(exfalso;omega)))
  |(with_reducible refine ite_in (fun hb=>?_) (fun hb=>?_)<;>(try simp only[Decidable.not_not]at hb)<;>(try simp only[hb,if_true,if_false,not_false_eq_true,not_true_eq_false, ↓reduceIte])<;>(try simp only[hb0,decide_eq_true_eq,decide_eq_false_iff_not,reduceCtorEq]at hb)<;>(try(exfalso;omega)))
  |(refine hK _ _ ?_;clear hK;try simp only[pst0, ↓reduceIte,Nat.reduceEqDiff])
  |(clear hK;refine hK _ _ ?_;clear hK;try simp only[pst0, ↓reduceIte,Nat.reduceEqDiff])
  |(clear hK;clear hK;refine hK _ _ ?_;clear hK;try simp only[pst0, ↓reduceIte,Nat.reduceEqDiff])
  |(clear hK;clear hK;clear hK;refine hK _ _ ?_;clear hK;try simp only[pst0, ↓reduceIte,Nat.reduceEqDiff])
  |(rw[if_pos];rotate_left 1;omega;simp(maxSteps:=2000000) only[undef,am0,am1,am2,am3,amb0,amb1,amb2,amb3,amb4,lwn,drn,callee,wantedB,isW,eff,pev,pst0,retPost,resAll,resP,resV,intP,mkV,putC,pbin,sbin,strsEq,peq,pint,pshift,pstr,pun,pconv,isShift,isConstB,app,subS,lay,rowsOf,lkV,keyKind,keyEq,mfind,mput,oInt,isZeroInt,forall_const,exists_eq_left',implies_true,IntKind.bits, ↓reduceIte,Nat.reduceEqDiff,Nat.reduceAdd,Nat.reduceSub,Nat.reduceMul,Nat.reduceLT,Nat.reduceLeDiff,Nat.reduceBEq,Int.reduceLE,Int.reduceLT,Int.reduceToNat,reduceCtorEq,Ty.all,hll]))
 refine a_loop (fun m S h'=>S 7= .imm 2 (atRows pi)∧S 8= .sc (.int .i64 pi.length)∧ ∃ (k:Nat)(o:PV),S 9= .sc (.int .i64 k)∧S 3=o∧k≤pi.length∧m=pi.length-k∧Grow h h'∧Tl h' h.next 2 o (atRows (pi.take k))) pi.length ?_ ?_
 ·simp only[undef,am0,am1,am2,am3,amb0,amb1,amb2,amb3,amb4,lwn,drn,callee,wantedB,isW,eff,pev,pst0,retPost,resAll,resP,resV,intP,mkV,putC,pbin,sbin,strsEq,peq,pint,pshift,pstr,pun,pconv,isShift,isConstB,app,subS,lay,rowsOf,lkV,keyKind,keyEq,mfind,mput,oInt,isZeroInt,forall_const,exists_eq_left',implies_true,IntKind.bits, ↓reduceIte,Nat.reduceEqDiff,Nat.reduceAdd,Nat.reduceSub,Nat.reduceMul,Nat.reduceLT,Nat.reduceLeDiff,Nat.reduceBEq,Int.reduceLE,Int.reduceLT,Int.reduceToNat,reduceCtorEq]
  exact⟨0,_,rfl,rfl,by omega,rfl,Grow.refl _,Tl.nil⟩
 ·rintro m S h' ⟨g7,g8,k,o,g9,g3,hk,rfl,hg,tl⟩
  by_cases hlt:k<pi.length
  ·have hd:decide ((k:Int)<(pi.length:Int))=true:=by simp;omega
   obtain⟨x,hx⟩: ∃ x,pi[k]? =some x:=⟨_,List.getElem?_eq_getElem hlt⟩
   have hr:=atRows_get hx
   have hc:=fun H:Heap=>cloneS_q (hal x (List.mem_of_getElem? hx)) H
   repeat'(first
    |refine a_seq fun K hK=>?_
    |(refine a_block ?_)
    |((first|refine a_regionS ?_|refine a_region (fun K hK=>?_)|refine a_ret ?_);simp(maxSteps:=2000000) only[undef,am0,am1,am2,am3,amb0,amb1,amb2,amb3,amb4,lwn,drn,callee,wantedB,isW,eff,pev,pst0,retPost,resAll,resP,resV,intP,mkV,putC,pbin,sbin,strsEq,peq,pint,pshift,pstr,pun,pconv,isShift,isConstB,app,subS,lay,rowsOf,lkV,keyKind,keyEq,mfind,mput,oInt,isZeroInt,forall_const,exists_eq_left',implies_true,IntKind.bits, ↓reduceIte,Nat.reduceEqDiff,Nat.reduceAdd,Nat.reduceSub,Nat.reduceMul,Nat.reduceLT,Nat.reduceLeDiff,Nat.reduceBEq,Int.reduceLE,Int.reduceLT,Int.reduceToNat,reduceCtorEq,Ty.all,g3,g7,g8,g9,hll,hd,hr])
    |(refine a_skip ?_;try simp only[pst0, ↓reduceIte,Nat.reduceEqDiff])
    |(refine a_exit ?_;try simp only[pst0, ↓reduceIte,Nat.reduceEqDiff])
    |(refine a_cond _ (by(try simp(maxSteps:=2000000) only[undef,am0,am1,am2,am3,amb0,amb1,amb2,amb3,amb4,lwn,drn,callee,wantedB,isW,eff,pev,pst0,retPost,resAll,resP,resV,intP,mkV,putC,pbin,sbin,strsEq,peq,pint,pshift,pstr,pun,pconv,isShift,isConstB,app,subS,lay,rowsOf,lkV,keyKind,keyEq,mfind,mput,oInt,isZeroInt,forall_const,exists_eq_left',implies_true,IntKind.bits, ↓reduceIte,Nat.reduceEqDiff,Nat.reduceAdd,Nat.reduceSub,Nat.reduceMul,Nat.reduceLT,Nat.reduceLeDiff,Nat.reduceBEq,Int.reduceLE,Int.reduceLT,Int.reduceToNat,reduceCtorEq,Ty.all,g3,g7,g8,g9,hll,hd,hr]);rfl) (fun hb=>?_) (fun hb=>?_)<;>(try simp only[hb0,decide_eq_true_eq,decide_eq_false_iff_not,reduceCtorEq]at hb)<;>(try(exfalso;omega)))
    |(with_reducible refine ite_in (fun hb=>?_) (fun hb=>?_)<;>(try simp only[Decidable.not_not]at hb)<;>(try simp only[hb,if_true,if_false,not_false_eq_true,not_true_eq_false, ↓reduceIte])<;>(try simp only[hb0,decide_eq_true_eq,decide_eq_false_iff_not,reduceCtorEq]at hb)<;>(try(exfalso;omega)))
    |(refine hK _ _ ?_;clear hK;try simp only[pst0, ↓reduceIte,Nat.reduceEqDiff])
    |(clear hK;refine hK _ _ ?_;clear hK;try simp only[pst0, ↓reduceIte,Nat.reduceEqDiff])
    |(clear hK;clear hK;refine hK _ _ ?_;clear hK;try simp only[pst0, ↓reduceIte,Nat.reduceEqDiff])
    |(clear hK;clear hK;clear hK;refine hK _ _ ?_;clear hK;try simp only[pst0, ↓reduceIte,Nat.reduceEqDiff])
    |(rw[if_pos];rotate_left 1;omega;simp(maxSteps:=2000000) only[undef,am0,am1,am2,am3,amb0,amb1,amb2,amb3,amb4,lwn,drn,callee,wantedB,isW,eff,pev,pst0,retPost,resAll,resP,resV,intP,mkV,putC,pbin,sbin,strsEq,peq,pint,pshift,pstr,pun,pconv,isShift,isConstB,app,subS,lay,rowsOf,lkV,keyKind,keyEq,mfind,mput,oInt,isZeroInt,forall_const,exists_eq_left',implies_true,IntKind.bits, ↓reduceIte,Nat.reduceEqDiff,Nat.reduceAdd,Nat.reduceSub,Nat.reduceMul,Nat.reduceLT,Nat.reduceLeDiff,Nat.reduceBEq,Int.reduceLE,Int.reduceLT,Int.reduceToNat,reduceCtorEq,Ty.all,g3,g7,g8,g9,hll,hd,hr]))
   refine a_gen (fun S H2=>S 7= .imm 2 (atRows pi)∧S 8= .sc (.int .i64 pi.length)∧S 9= .sc (.int .i64 k)∧S 3=o∧ ∃ id,S 5= .ptr id 0 0∧H2.obj id=some (.arr 2 [[sPV x.name,.imm 1 (strRows x.args)]])∧Grow h H2∧Tl H2 h.next 2 o (atRows (pi.take k))) ?_ ?_
   ·simp only[undef,am0,am1,am2,am3,amb0,amb1,amb2,amb3,amb4,lwn,drn,callee,wantedB,isW,eff,pev,pst0,retPost,resAll,resP,resV,intP,mkV,putC,pbin,sbin,strsEq,peq,pint,pshift,pstr,pun,pconv,isShift,isConstB,app,subS,lay,rowsOf,lkV,keyKind,keyEq,mfind,mput,oInt,isZeroInt,forall_const,exists_eq_left',implies_true,IntKind.bits, ↓reduceIte,Nat.reduceEqDiff,Nat.reduceAdd,Nat.reduceSub,Nat.reduceMul,Nat.reduceLT,Nat.reduceLeDiff,Nat.reduceBEq,Int.reduceLE,Int.reduceLT,Int.reduceToNat,reduceCtorEq,g3,g7,g8,g9]
    refine⟨_,rfl,?_,(hg.new _).set hg.le _,tl.up (Nat.le_succ _) fun j _ hj=>?_⟩
    ·first|rfl|exact if_pos rfl|simp
    rw[set_obj,new_obj,if_neg (by omega),if_neg (by omega)]
   clear g3 g7 g8 g9 tl hg
   rintro S h2 ⟨g7,g8,g9,g3,id,g5,ho,hg,tl⟩
   have hrl:(atRows (pi.take k)).length=k:=by rw[atRows_len,List.length_take];omega
   have hap:atRows (pi.take k)++[[sPV x.name,.imm 1 (strRows x.args)]]=atRows (pi.take (k+1)):=by
    rw[← atRows_app,List.take_add_one,hx];try rfl
   have hb:(k+1)*40≤140737488355328:=by omega
   have w7:IntKind.i64.wrap ((k:Int)+1)=((k+1:Nat):Int):=by rw[wrap64 (by omega) (by omega)];omega
   obtain⟨H,t1,t2,t3,t4,t5⟩:=tl.tail
   have hkp:=t5 h ⟨hg.le,hg.old⟩ (Nat.le_refl _)
   have hgH:Grow h H:=⟨hkp.1,hkp.2⟩
   have hl1:(atRows (pi.take (k+1))).length=k+1:=by rw[atRows_len,List.length_take];omega
   have fin2:Grow h (H.new (.arr 2 (atRows (pi.take (k+1)))))∧Tl (H.new (.arr 2 (atRows (pi.take (k+1))))) h.next 2 (.own H.next 0 (k+1)) (atRows (pi.take (k+1))):=
    ⟨hgH.new _,Tl.grow hkp.1 hl1.symm⟩
   rw[t3]at fin2
   generalize atRows (pi.take k)=R at hap hrl t1
   clear tl
   repeat'(first
    |refine a_seq fun K hK=>?_
    |(refine a_block ?_)
    |((first|refine a_regionS ?_|refine a_drawS (by decide+kernel) ?_|refine a_region (fun K hK=>?_)|refine a_draw (by decide+kernel) (fun K hK=>?_)|refine a_ret ?_);simp(maxSteps:=2000000) only[undef,am0,am1,am2,am3,amb0,amb1,amb2,amb3,amb4,lwn,drn,callee,wantedB,isW,eff,pev,pst0,retPost,resAll,resP,resV,intP,mkV,putC,pbin,sbin,strsEq,peq,pint,pshift,pstr,pun,pconv,isShift,isConstB,app,subS,lay,rowsOf,lkV,keyKind,keyEq,mfind,mput,oInt,isZeroInt,forall_const,exists_eq_left',implies_true,IntKind.bits, ↓reduceIte,Nat.reduceEqDiff,Nat.reduceAdd,Nat.reduceSub,Nat.reduceMul,Nat.reduceLT,Nat.reduceLeDiff,Nat.reduceBEq,Int.reduceLE,Int.reduceLT,Int.reduceToNat,reduceCtorEq,Ty.all,g3,g5,g7,g8,g9,ho])
    |(refine a_skip ?_;try simp only[pst0, ↓reduceIte,Nat.reduceEqDiff])
    |(refine a_exit ?_;try simp only[pst0, ↓reduceIte,Nat.reduceEqDiff])
    |(refine a_cond _ (by(try simp(maxSteps:=2000000) only[undef,am0,am1,am2,am3,amb0,amb1,amb2,amb3,amb4,lwn,drn,callee,wantedB,isW,eff,pev,pst0,retPost,resAll,resP,resV,intP,mkV,putC,pbin,sbin,strsEq,peq,pint,pshift,pstr,pun,pconv,isShift,isConstB,app,subS,lay,rowsOf,lkV,keyKind,keyEq,mfind,mput,oInt,isZeroInt,forall_const,exists_eq_left',implies_true,IntKind.bits, ↓reduceIte,Nat.reduceEqDiff,Nat.reduceAdd,Nat.reduceSub,Nat.reduceMul,Nat.reduceLT,Nat.reduceLeDiff,Nat.reduceBEq,Int.reduceLE,Int.reduceLT,Int.reduceToNat,reduceCtorEq,Ty.all,g3,g5,g7,g8,g9,ho]);rfl) (fun hb=>?_) (fun hb=>?_)<;>(try simp only[hb0,decide_eq_true_eq,decide_eq_false_iff_not,reduceCtorEq]at hb)<;>(try(exfalso;omega)))
    |(with_reducible refine ite_in (fun hb=>?_) (fun hb=>?_)<;>(try simp only[Decidable.not_not]at hb)<;>(try simp only[hb,if_true,if_false,not_false_eq_true,not_true_eq_false, ↓reduceIte])<;>(try simp only[hb0,decide_eq_true_eq,decide_eq_false_iff_not,reduceCtorEq]at hb)<;>(try(exfalso;omega)))
    |(refine hK _ _ ?_;clear hK;try simp only[pst0, ↓reduceIte,Nat.reduceEqDiff])
    |(clear hK;refine hK _ _ ?_;clear hK;try simp only[pst0, ↓reduceIte,Nat.reduceEqDiff])
    |(clear hK;clear hK;refine hK _ _ ?_;clear hK;try simp only[pst0, ↓reduceIte,Nat.reduceEqDiff])
    |(clear hK;clear hK;clear hK;refine hK _ _ ?_;clear hK;try simp only[pst0, ↓reduceIte,Nat.reduceEqDiff])
    |((first|(with_reducible refine a_past _ rfl (by decide+kernel) ?_)|(with_reducible refine a_past2 (by simp only[List.forall_mem_cons,undef,am0,am1,am2,am3,amb0,amb1,amb2,amb3,amb4,lwn,drn,callee,wantedB,isW,eff,pev,pst0,retPost,resAll,resP,resV,intP,mkV,putC,pbin,sbin,strsEq,peq,pint,pshift,pstr,pun,pconv,isShift,isConstB,app,subS,lay,rowsOf,lkV,keyKind,keyEq,mfind,mput,oInt,isZeroInt,forall_const,exists_eq_left',implies_true,IntKind.bits, ↓reduceIte,Nat.reduceEqDiff,Nat.reduceAdd,Nat.reduceSub,Nat.reduceMul,Nat.reduceLT,Nat.reduceLeDiff,Nat.reduceBEq,Int.reduceLE,Int.reduceLT,Int.reduceToNat,reduceCtorEq,Ty.all,g3,g5,g7,g8,g9,ho]<;>(repeat' apply And.intro)<;>first|trivial|exact .inl (by decide+kernel)) ?_));try simp(maxSteps:=2000000) only[undef,am0,am1,am2,am3,amb0,amb1,amb2,amb3,amb4,lwn,drn,callee,wantedB,isW,eff,pev,pst0,retPost,resAll,resP,resV,intP,mkV,putC,pbin,sbin,strsEq,peq,pint,pshift,pstr,pun,pconv,isShift,isConstB,app,subS,lay,rowsOf,lkV,keyKind,keyEq,mfind,mput,oInt,isZeroInt,forall_const,exists_eq_left',implies_true,IntKind.bits, ↓reduceIte,Nat.reduceEqDiff,Nat.reduceAdd,Nat.reduceSub,Nat.reduceMul,Nat.reduceLT,Nat.reduceLeDiff,Nat.reduceBEq,Int.reduceLE,Int.reduceLT,Int.reduceToNat,reduceCtorEq,Ty.all,g3,g5,g7,g8,g9,ho])
    |(rw[if_pos];rotate_left 1;omega;simp(maxSteps:=2000000) only[undef,am0,am1,am2,am3,amb0,amb1,amb2,amb3,amb4,lwn,drn,callee,wantedB,isW,eff,pev,pst0,retPost,resAll,resP,resV,intP,mkV,putC,pbin,sbin,strsEq,peq,pint,pshift,pstr,pun,pconv,isShift,isConstB,app,subS,lay,rowsOf,lkV,keyKind,keyEq,mfind,mput,oInt,isZeroInt,forall_const,exists_eq_left',implies_true,IntKind.bits, ↓reduceIte,Nat.reduceEqDiff,Nat.reduceAdd,Nat.reduceSub,Nat.reduceMul,Nat.reduceLT,Nat.reduceLeDiff,Nat.reduceBEq,Int.reduceLE,Int.reduceLT,Int.reduceToNat,reduceCtorEq,Ty.all,g3,g5,g7,g8,g9,ho]))
   first
    |refine a_dcall0 (hc _) (by(try simp only[undef,am0,am1,am2,am3,amb0,amb1,amb2,amb3,amb4,lwn,drn,callee,wantedB,isW,eff,pev,pst0,retPost,resAll,resP,resV,intP,mkV,putC,pbin,sbin,strsEq,peq,pint,pshift,pstr,pun,pconv,isShift,isConstB,app,subS,lay,rowsOf,lkV,keyKind,keyEq,mfind,mput,oInt,isZeroInt,forall_const,exists_eq_left',implies_true,IntKind.bits, ↓reduceIte,Nat.reduceEqDiff,Nat.reduceAdd,Nat.reduceSub,Nat.reduceMul,Nat.reduceLT,Nat.reduceLeDiff,Nat.reduceBEq,Int.reduceLE,Int.reduceLT,Int.reduceToNat,reduceCtorEq,g3,g5,g7,g8,g9,ho]);try rfl) ?_
    |refine a_dcallA (hc _) (by(try simp only[undef,am0,am1,am2,am3,amb0,amb1,amb2,amb3,amb4,lwn,drn,callee,wantedB,isW,eff,pev,pst0,retPost,resAll,resP,resV,intP,mkV,putC,pbin,sbin,strsEq,peq,pint,pshift,pstr,pun,pconv,isShift,isConstB,app,subS,lay,rowsOf,lkV,keyKind,keyEq,mfind,mput,oInt,isZeroInt,forall_const,exists_eq_left',implies_true,IntKind.bits, ↓reduceIte,Nat.reduceEqDiff,Nat.reduceAdd,Nat.reduceSub,Nat.reduceMul,Nat.reduceLT,Nat.reduceLeDiff,Nat.reduceBEq,Int.reduceLE,Int.reduceLT,Int.reduceToNat,reduceCtorEq,g3,g5,g7,g8,g9,ho]);try rfl) (by simp only[undef,am0,am1,am2,am3,amb0,amb1,amb2,amb3,amb4,lwn,drn,callee,wantedB,isW,eff,pev,pst0,retPost,resAll,resP,resV,intP,mkV,putC,pbin,sbin,strsEq,peq,pint,pshift,pstr,pun,pconv,isShift,isConstB,app,subS,lay,rowsOf,lkV,keyKind,keyEq,mfind,mput,oInt,isZeroInt,forall_const,exists_eq_left',implies_true,IntKind.bits, ↓reduceIte,Nat.reduceEqDiff,Nat.reduceAdd,Nat.reduceSub,Nat.reduceMul,Nat.reduceLT,Nat.reduceLeDiff,Nat.reduceBEq,Int.reduceLE,Int.reduceLT,Int.reduceToNat,reduceCtorEq,Ty.all,g3,g5,g7,g8,g9,ho];try trivial) ?_
   simp(maxSteps:=2000000) only[undef,am0,am1,am2,am3,amb0,amb1,amb2,amb3,amb4,lwn,drn,callee,wantedB,isW,eff,pev,pst0,retPost,resAll,resP,resV,intP,mkV,putC,pbin,sbin,strsEq,peq,pint,pshift,pstr,pun,pconv,isShift,isConstB,app,subS,lay,rowsOf,lkV,keyKind,keyEq,mfind,mput,oInt,isZeroInt,forall_const,exists_eq_left',implies_true,IntKind.bits, ↓reduceIte,Nat.reduceEqDiff,Nat.reduceAdd,Nat.reduceSub,Nat.reduceMul,Nat.reduceLT,Nat.reduceLeDiff,Nat.reduceBEq,Int.reduceLE,Int.reduceLT,Int.reduceToNat,reduceCtorEq,Ty.all,Option.getD_some,g3,g5,g7,g8,g9,ho]
   repeat'(first
    |refine a_seq fun K hK=>?_
    |(refine a_block ?_)
    |((first|refine a_regionS ?_|refine a_drawS (by decide+kernel) ?_|refine a_region (fun K hK=>?_)|refine a_draw (by decide+kernel) (fun K hK=>?_)|refine a_ret ?_);simp(maxSteps:=2000000) only[undef,am0,am1,am2,am3,amb0,amb1,amb2,amb3,amb4,lwn,drn,callee,wantedB,isW,eff,pev,pst0,retPost,resAll,resP,resV,intP,mkV,putC,pbin,sbin,strsEq,peq,pint,pshift,pstr,pun,pconv,isShift,isConstB,app,subS,lay,rowsOf,lkV,keyKind,keyEq,mfind,mput,oInt,isZeroInt,forall_const,exists_eq_left',implies_true,IntKind.bits, ↓reduceIte,Nat.reduceEqDiff,Nat.reduceAdd,Nat.reduceSub,Nat.reduceMul,Nat.reduceLT,Nat.reduceLeDiff,Nat.reduceBEq,Int.reduceLE,Int.reduceLT,Int.reduceToNat,reduceCtorEq,Ty.all,g3,g5,g7,g8,g9,ho,t1,t2,t3,hrl,hb,hap,w7])
    |(refine a_skip ?_;try simp only[pst0, ↓reduceIte,Nat.reduceEqDiff])
    |(refine a_exit ?_;try simp only[pst0, ↓reduceIte,Nat.reduceEqDiff])
    |(refine a_cond _ (by(try simp(maxSteps:=2000000) only[undef,am0,am1,am2,am3,amb0,amb1,amb2,amb3,amb4,lwn,drn,callee,wantedB,isW,eff,pev,pst0,retPost,resAll,resP,resV,intP,mkV,putC,pbin,sbin,strsEq,peq,pint,pshift,pstr,pun,pconv,isShift,isConstB,app,subS,lay,rowsOf,lkV,keyKind,keyEq,mfind,mput,oInt,isZeroInt,forall_const,exists_eq_left',implies_true,IntKind.bits, ↓reduceIte,Nat.reduceEqDiff,Nat.reduceAdd,Nat.reduceSub,Nat.reduceMul,Nat.reduceLT,Nat.reduceLeDiff,Nat.reduceBEq,Int.reduceLE,Int.reduceLT,Int.reduceToNat,reduceCtorEq,Ty.all,g3,g5,g7,g8,g9,ho,t1,t2,t3,hrl,hb,hap,w7]);rfl) (fun hb=>?_) (fun hb=>?_)<;>(try simp only[hb0,decide_eq_true_eq,decide_eq_false_iff_not,reduceCtorEq]at hb)<;>(try(exfalso;omega)))
    |(with_reducible refine ite_in (fun hb=>?_) (fun hb=>?_)<;>(try simp only[Decidable.not_not]at hb)<;>(try simp only[hb,if_true,if_false,not_false_eq_true,not_true_eq_false, ↓reduceIte])<;>(try simp only[hb0,decide_eq_true_eq,decide_eq_false_iff_not,reduceCtorEq]at hb)<;>(try(exfalso;omega)))
    |(refine hK _ _ ?_;clear hK;try simp only[pst0, ↓reduceIte,Nat.reduceEqDiff])
    |(clear hK;refine hK _ _ ?_;clear hK;try simp only[pst0, ↓reduceIte,Nat.reduceEqDiff])
    |(clear hK;clear hK;refine hK _ _ ?_;clear hK;try simp only[pst0, ↓reduceIte,Nat.reduceEqDiff])
    |(clear hK;clear hK;clear hK;refine hK _ _ ?_;clear hK;try simp only[pst0, ↓reduceIte,Nat.reduceEqDiff])
    |((first|(with_reducible refine a_past _ rfl (by decide+kernel) ?_)|(with_reducible refine a_past2 (by simp only[List.forall_mem_cons,undef,am0,am1,am2,am3,amb0,amb1,amb2,amb3,amb4,lwn,drn,callee,wantedB,isW,eff,pev,pst0,retPost,resAll,resP,resV,intP,mkV,putC,pbin,sbin,strsEq,peq,pint,pshift,pstr,pun,pconv,isShift,isConstB,app,subS,lay,rowsOf,lkV,keyKind,keyEq,mfind,mput,oInt,isZeroInt,forall_const,exists_eq_left',implies_true,IntKind.bits, ↓reduceIte,Nat.reduceEqDiff,Nat.reduceAdd,Nat.reduceSub,Nat.reduceMul,Nat.reduceLT,Nat.reduceLeDiff,Nat.reduceBEq,Int.reduceLE,Int.reduceLT,Int.reduceToNat,reduceCtorEq,Ty.all,g3,g5,g7,g8,g9,ho,t1,t2,t3,hrl,hb,hap,w7]<;>(repeat' apply And.intro)<;>first|trivial|exact .inl (by decide+kernel)) ?_));try simp(maxSteps:=2000000) only[undef,am0,am1,am2,am3,amb0,amb1,amb2,amb3,amb4,lwn,drn,callee,wantedB,isW,eff,pev,pst0,retPost,resAll,resP,resV,intP,mkV,putC,pbin,sbin,strsEq,peq,pint,pshift,pstr,pun,pconv,isShift,isConstB,app,subS,lay,rowsOf,lkV,keyKind,keyEq,mfind,mput,oInt,isZeroInt,forall_const,exists_eq_left',implies_true,IntKind.bits, ↓reduceIte,Nat.reduceEqDiff,Nat.reduceAdd,Nat.reduceSub,Nat.reduceMul,Nat.reduceLT,Nat.reduceLeDiff,Nat.reduceBEq,Int.reduceLE,Int.reduceLT,Int.reduceToNat,reduceCtorEq,Ty.all,g3,g5,g7,g8,g9,ho,t1,t2,t3,hrl,hb,hap,w7])
    |(rw[if_pos];rotate_left 1;omega;simp(maxSteps:=2000000) only[undef,am0,am1,am2,am3,amb0,amb1,amb2,amb3,amb4,lwn,drn,callee,wantedB,isW,eff,pev,pst0,retPost,resAll,resP,resV,intP,mkV,putC,pbin,sbin,strsEq,peq,pint,pshift,pstr,pun,pconv,isShift,isConstB,app,subS,lay,rowsOf,lkV,keyKind,keyEq,mfind,mput,oInt,isZeroInt,forall_const,exists_eq_left',implies_true,IntKind.bits, ↓reduceIte,Nat.reduceEqDiff,Nat.reduceAdd,Nat.reduceSub,Nat.reduceMul,Nat.reduceLT,Nat.reduceLeDiff,Nat.reduceBEq,Int.reduceLE,Int.reduceLT,Int.reduceToNat,reduceCtorEq,Ty.all,g3,g5,g7,g8,g9,ho,t1,t2,t3,hrl,hb,hap,w7]))
   exact⟨pi.length-(k+1),by omega,k+1,_,rfl,rfl,by omega,rfl,fin2.1,fin2.2⟩
  ·have hd:decide ((k:Int)<(pi.length:Int))=false:=by simp;omega
   rw[List.take_of_length_le (by omega)]at tl
   rcases tl with⟨hn,hp⟩|⟨id,i1,i2,rfl,i4⟩
   ·have hn':pi=[]:=by simpa[atRows]using hn
    have hp':o= .emp∨o= .sc (.slice none 0 0):=hp.symm
    have c1:=fun H:Heap=>sortF_nil hp' (h:=H)
    have c2:=fun H:Heap=>compactF_nil hp' (g:=17) (h:=H)
    subst hn'
    repeat'(first
     |refine a_seq fun K hK=>?_
     |(refine a_block ?_)
     |((first|refine a_regionS ?_|refine a_region (fun K hK=>?_)|refine a_ret ?_);simp(maxSteps:=2000000) only[undef,am0,am1,am2,am3,amb0,amb1,amb2,amb3,amb4,lwn,drn,callee,wantedB,isW,eff,pev,pst0,retPost,resAll,resP,resV,intP,mkV,putC,pbin,sbin,strsEq,peq,pint,pshift,pstr,pun,pconv,isShift,isConstB,app,subS,lay,rowsOf,lkV,keyKind,keyEq,mfind,mput,oInt,isZeroInt,forall_const,exists_eq_left',implies_true,IntKind.bits, ↓reduceIte,Nat.reduceEqDiff,Nat.reduceAdd,Nat.reduceSub,Nat.reduceMul,Nat.reduceLT,Nat.reduceLeDiff,Nat.reduceBEq,Int.reduceLE,Int.reduceLT,Int.reduceToNat,reduceCtorEq,Ty.all,g3,g7,g8,g9,hd])
     |(refine a_skip ?_;try simp only[pst0, ↓reduceIte,Nat.reduceEqDiff])
     |(refine a_exit ?_;try simp only[pst0, ↓reduceIte,Nat.reduceEqDiff])
     |(refine a_cond _ (by(try simp(maxSteps:=2000000) only[undef,am0,am1,am2,am3,amb0,amb1,amb2,amb3,amb4,lwn,drn,callee,wantedB,isW,eff,pev,pst0,retPost,resAll,resP,resV,intP,mkV,putC,pbin,sbin,strsEq,peq,pint,pshift,pstr,pun,pconv,isShift,isConstB,app,subS,lay,rowsOf,lkV,keyKind,keyEq,mfind,mput,oInt,isZeroInt,forall_const,exists_eq_left',implies_true,IntKind.bits, ↓reduceIte,Nat.reduceEqDiff,Nat.reduceAdd,Nat.reduceSub,Nat.reduceMul,Nat.reduceLT,Nat.reduceLeDiff,Nat.reduceBEq,Int.reduceLE,Int.reduceLT,Int.reduceToNat,reduceCtorEq,Ty.all,g3,g7,g8,g9,hd]);rfl) (fun hb=>?_) (fun hb=>?_)<;>(try simp only[hb0,decide_eq_true_eq,decide_eq_false_iff_not,reduceCtorEq]at hb)<;>(try(exfalso;omega)))
     |(with_reducible refine ite_in (fun hb=>?_) (fun hb=>?_)<;>(try simp only[Decidable.not_not]at hb)<;>(try simp only[hb,if_true,if_false,not_false_eq_true,not_true_eq_false, ↓reduceIte])<;>(try simp only[hb0,decide_eq_true_eq,decide_eq_false_iff_not,reduceCtorEq]at hb)<;>(try(exfalso;omega)))
     |(refine hK _ _ ?_;clear hK;try simp only[pst0, ↓reduceIte,Nat.reduceEqDiff])
     |(clear hK;refine hK _ _ ?_;clear hK;try simp only[pst0, ↓reduceIte,Nat.reduceEqDiff])
     |(clear hK;clear hK;refine hK _ _ ?_;clear hK;try simp only[pst0, ↓reduceIte,Nat.reduceEqDiff])
     |(clear hK;clear hK;clear hK;refine hK _ _ ?_;clear hK;try simp only[pst0, ↓reduceIte,Nat.reduceEqDiff])
     |(rw[if_pos];rotate_left 1;omega;simp(maxSteps:=2000000) only[undef,am0,am1,am2,am3,amb0,amb1,amb2,amb3,amb4,lwn,drn,callee,wantedB,isW,eff,pev,pst0,retPost,resAll,resP,resV,intP,mkV,putC,pbin,sbin,strsEq,peq,pint,pshift,pstr,pun,pconv,isShift,isConstB,app,subS,lay,rowsOf,lkV,keyKind,keyEq,mfind,mput,oInt,isZeroInt,forall_const,exists_eq_left',implies_true,IntKind.bits, ↓reduceIte,Nat.reduceEqDiff,Nat.reduceAdd,Nat.reduceSub,Nat.reduceMul,Nat.reduceLT,Nat.reduceLeDiff,Nat.reduceBEq,Int.reduceLE,Int.reduceLT,Int.reduceToNat,reduceCtorEq,Ty.all,g3,g7,g8,g9,hd]))
    refine owp_useH (c1 _) (by(try simp only[undef,am0,am1,am2,am3,amb0,amb1,amb2,amb3,amb4,lwn,drn,callee,wantedB,isW,eff,pev,pst0,retPost,resAll,resP,resV,intP,mkV,putC,pbin,sbin,strsEq,peq,pint,pshift,pstr,pun,pconv,isShift,isConstB,app,subS,lay,rowsOf,lkV,keyKind,keyEq,mfind,mput,oInt,isZeroInt,forall_const,exists_eq_left',implies_true,IntKind.bits, ↓reduceIte,Nat.reduceEqDiff,Nat.reduceAdd,Nat.reduceSub,Nat.reduceMul,Nat.reduceLT,Nat.reduceLeDiff,Nat.reduceBEq,Int.reduceLE,Int.reduceLT,Int.reduceToNat,reduceCtorEq,g3]);try rfl) ?_
    simp(maxSteps:=2000000) only[undef,am0,am1,am2,am3,amb0,amb1,amb2,amb3,amb4,lwn,drn,callee,wantedB,isW,eff,pev,pst0,retPost,resAll,resP,resV,intP,mkV,putC,pbin,sbin,strsEq,peq,pint,pshift,pstr,pun,pconv,isShift,isConstB,app,subS,lay,rowsOf,lkV,keyKind,keyEq,mfind,mput,oInt,isZeroInt,forall_const,exists_eq_left',implies_true,IntKind.bits, ↓reduceIte,Nat.reduceEqDiff,Nat.reduceAdd,Nat.reduceSub,Nat.reduceMul,Nat.reduceLT,Nat.reduceLeDiff,Nat.reduceBEq,Int.reduceLE,Int.reduceLT,Int.reduceToNat,reduceCtorEq,Ty.all,g3]
    repeat'(first
     |refine a_seq fun K hK=>?_
     |(refine a_block ?_)
     |((first|refine a_regionS ?_|refine a_region (fun K hK=>?_)|refine a_ret ?_);simp(maxSteps:=2000000) only[undef,am0,am1,am2,am3,amb0,amb1,amb2,amb3,amb4,lwn,drn,callee,wantedB,isW,eff,pev,pst0,retPost,resAll,resP,resV,intP,mkV,putC,pbin,sbin,strsEq,peq,pint,pshift,pstr,pun,pconv,isShift,isConstB,app,subS,lay,rowsOf,lkV,keyKind,keyEq,mfind,mput,oInt,isZeroInt,forall_const,exists_eq_left',implies_true,IntKind.bits, ↓reduceIte,Nat.reduceEqDiff,Nat.reduceAdd,Nat.reduceSub,Nat.reduceMul,Nat.reduceLT,Nat.reduceLeDiff,Nat.reduceBEq,Int.reduceLE,Int.reduceLT,Int.reduceToNat,reduceCtorEq,Ty.all,g3])
     |(refine a_skip ?_;try simp only[pst0, ↓reduceIte,Nat.reduceEqDiff])
     |(refine a_exit ?_;try simp only[pst0, ↓reduceIte,Nat.reduceEqDiff])
     |(refine a_cond _ (by(try simp(maxSteps:=2000000) only[undef,am0,am1,am2,am3,amb0,amb1,amb2,amb3,amb4,lwn,drn,callee,wantedB,isW,eff,pev,pst0,retPost,resAll,resP,resV,intP,mkV,putC,pbin,sbin,strsEq,peq,pint,pshift,pstr,pun,pconv,isShift,isConstB,app,subS,lay,rowsOf,lkV,keyKind,keyEq,mfind,mput,oInt,isZeroInt,forall_const,exists_eq_left',implies_true,IntKind.bits, ↓reduceIte,Nat.reduceEqDiff,Nat.reduceAdd,Nat.reduceSub,Nat.reduceMul,Nat.reduceLT,Nat.reduceLeDiff,Nat.reduceBEq,Int.reduceLE,Int.reduceLT,Int.reduceToNat,reduceCtorEq,Ty.all,g3]);rfl) (fun hb=>?_) (fun hb=>?_)<;>(try simp only[hb0,decide_eq_true_eq,decide_eq_false_iff_not,reduceCtorEq]at hb)<;>(try(exfalso;omega)))
     |(with_reducible refine ite_in (fun hb=>?_) (fun hb=>?_)<;>(try simp only[Decidable.not_not]at hb)<;>(try simp only[hb,if_true,if_false,not_false_eq_true,not_true_eq_false, ↓reduceIte])<;>(try simp only[hb0,decide_eq_true_eq,decide_eq_false_iff_not,reduceCtorEq]at hb)<;>(try(exfalso;omega)))
     |(refine hK _ _ ?_;clear hK;try simp only[pst0, ↓reduceIte,Nat.reduceEqDiff])
     |(clear hK;refine hK _ _ ?_;clear hK;try simp only[pst0, ↓reduceIte,Nat.reduceEqDiff])
     |(clear hK;clear hK;refine hK _ _ ?_;clear hK;try simp only[pst0, ↓reduceIte,Nat.reduceEqDiff])
     |(clear hK;clear hK;clear hK;refine hK _ _ ?_;clear hK;try simp only[pst0, ↓reduceIte,Nat.reduceEqDiff])
     |(rw[if_pos];rotate_left 1;omega;simp(maxSteps:=2000000) only[undef,am0,am1,am2,am3,amb0,amb1,amb2,amb3,amb4,lwn,drn,callee,wantedB,isW,eff,pev,pst0,retPost,resAll,resP,resV,intP,mkV,putC,pbin,sbin,strsEq,peq,pint,pshift,pstr,pun,pconv,isShift,isConstB,app,subS,lay,rowsOf,lkV,keyKind,keyEq,mfind,mput,oInt,isZeroInt,forall_const,exists_eq_left',implies_true,IntKind.bits, ↓reduceIte,Nat.reduceEqDiff,Nat.reduceAdd,Nat.reduceSub,Nat.reduceMul,Nat.reduceLT,Nat.reduceLeDiff,Nat.reduceBEq,Int.reduceLE,Int.reduceLT,Int.reduceToNat,reduceCtorEq,Ty.all,g3]))
    refine owp_useQ (c2 _) (by(try simp only[undef,am0,am1,am2,am3,amb0,amb1,amb2,amb3,amb4,lwn,drn,callee,wantedB,isW,eff,pev,pst0,retPost,resAll,resP,resV,intP,mkV,putC,pbin,sbin,strsEq,peq,pint,pshift,pstr,pun,pconv,isShift,isConstB,app,subS,lay,rowsOf,lkV,keyKind,keyEq,mfind,mput,oInt,isZeroInt,forall_const,exists_eq_left',implies_true,IntKind.bits, ↓reduceIte,Nat.reduceEqDiff,Nat.reduceAdd,Nat.reduceSub,Nat.reduceMul,Nat.reduceLT,Nat.reduceLeDiff,Nat.reduceBEq,Int.reduceLE,Int.reduceLT,Int.reduceToNat,reduceCtorEq,g3]);try rfl) ?_
    simp(maxSteps:=2000000) only[undef,am0,am1,am2,am3,amb0,amb1,amb2,amb3,amb4,lwn,drn,callee,wantedB,isW,eff,pev,pst0,retPost,resAll,resP,resV,intP,mkV,putC,pbin,sbin,strsEq,peq,pint,pshift,pstr,pun,pconv,isShift,isConstB,app,subS,lay,rowsOf,lkV,keyKind,keyEq,mfind,mput,oInt,isZeroInt,forall_const,exists_eq_left',implies_true,IntKind.bits, ↓reduceIte,Nat.reduceEqDiff,Nat.reduceAdd,Nat.reduceSub,Nat.reduceMul,Nat.reduceLT,Nat.reduceLeDiff,Nat.reduceBEq,Int.reduceLE,Int.reduceLT,Int.reduceToNat,reduceCtorEq,Ty.all,g3]
    repeat'(first
     |refine a_seq fun K hK=>?_
     |(refine a_block ?_)
     |((first|refine a_regionS ?_|refine a_region (fun K hK=>?_)|refine a_ret ?_);simp(maxSteps:=2000000) only[undef,am0,am1,am2,am3,amb0,amb1,amb2,amb3,amb4,lwn,drn,callee,wantedB,isW,eff,pev,pst0,retPost,resAll,resP,resV,intP,mkV,putC,pbin,sbin,strsEq,peq,pint,pshift,pstr,pun,pconv,isShift,isConstB,app,subS,lay,rowsOf,lkV,keyKind,keyEq,mfind,mput,oInt,isZeroInt,forall_const,exists_eq_left',implies_true,IntKind.bits, ↓reduceIte,Nat.reduceEqDiff,Nat.reduceAdd,Nat.reduceSub,Nat.reduceMul,Nat.reduceLT,Nat.reduceLeDiff,Nat.reduceBEq,Int.reduceLE,Int.reduceLT,Int.reduceToNat,reduceCtorEq,Ty.all,g3])
     |(refine a_skip ?_;try simp only[pst0, ↓reduceIte,Nat.reduceEqDiff])
     |(refine a_exit ?_;try simp only[pst0, ↓reduceIte,Nat.reduceEqDiff])
     |(refine a_cond _ (by(try simp(maxSteps:=2000000) only[undef,am0,am1,am2,am3,amb0,amb1,amb2,amb3,amb4,lwn,drn,callee,wantedB,isW,eff,pev,pst0,retPost,resAll,resP,resV,intP,mkV,putC,pbin,sbin,strsEq,peq,pint,pshift,pstr,pun,pconv,isShift,isConstB,app,subS,lay,rowsOf,lkV,keyKind,keyEq,mfind,mput,oInt,isZeroInt,forall_const,exists_eq_left',implies_true,IntKind.bits, ↓reduceIte,Nat.reduceEqDiff,Nat.reduceAdd,Nat.reduceSub,Nat.reduceMul,Nat.reduceLT,Nat.reduceLeDiff,Nat.reduceBEq,Int.reduceLE,Int.reduceLT,Int.reduceToNat,reduceCtorEq,Ty.all,g3]);rfl) (fun hb=>?_) (fun hb=>?_)<;>(try simp only[hb0,decide_eq_true_eq,decide_eq_false_iff_not,reduceCtorEq]at hb)<;>(try(exfalso;omega)))
     |(with_reducible refine ite_in (fun hb=>?_) (fun hb=>?_)<;>(try simp only[Decidable.not_not]at hb)<;>(try simp only[hb,if_true,if_false,not_false_eq_true,not_true_eq_false, ↓reduceIte])<;>(try simp only[hb0,decide_eq_true_eq,decide_eq_false_iff_not,reduceCtorEq]at hb)<;>(try(exfalso;omega)))
     |(refine hK _ _ ?_;clear hK;try simp only[pst0, ↓reduceIte,Nat.reduceEqDiff])
     |(clear hK;refine hK _ _ ?_;clear hK;try simp only[pst0, ↓reduceIte,Nat.reduceEqDiff])
     |(clear hK;clear hK;refine hK _ _ ?_;clear hK;try simp only[pst0, ↓reduceIte,Nat.reduceEqDiff])
     |(clear hK;clear hK;clear hK;refine hK _ _ ?_;clear hK;try simp only[pst0, ↓reduceIte,Nat.reduceEqDiff])
     |(rw[if_pos];rotate_left 1;omega;simp(maxSteps:=2000000) only[undef,am0,am1,am2,am3,amb0,amb1,amb2,amb3,amb4,lwn,drn,callee,wantedB,isW,eff,pev,pst0,retPost,resAll,resP,resV,intP,mkV,putC,pbin,sbin,strsEq,peq,pint,pshift,pstr,pun,pconv,isShift,isConstB,app,subS,lay,rowsOf,lkV,keyKind,keyEq,mfind,mput,oInt,isZeroInt,forall_const,exists_eq_left',implies_true,IntKind.bits, ↓reduceIte,Nat.reduceEqDiff,Nat.reduceAdd,Nat.reduceSub,Nat.reduceMul,Nat.reduceLT,Nat.reduceLeDiff,Nat.reduceBEq,Int.reduceLE,Int.reduceLT,Int.reduceToNat,reduceCtorEq,Ty.all,g3]))
    refine⟨.imm 2 (atRows []),⟨[],List.Perm.refl _,List.Pairwise.nil,rfl⟩,?_,hg⟩
    unfold FrzTo
    exact .inr (.inl ⟨rfl,hp'⟩)
   ·rw [atRows_len]at g3
    have c1:=sortF_own i4 (by omega) (fun a ha=>(hok a ha).2.1)
    repeat'(first
     |refine a_seq fun K hK=>?_
     |(refine a_block ?_)
     |((first|refine a_regionS ?_|refine a_region (fun K hK=>?_)|refine a_ret ?_);simp(maxSteps:=2000000) only[undef,am0,am1,am2,am3,amb0,amb1,amb2,amb3,amb4,lwn,drn,callee,wantedB,isW,eff,pev,pst0,retPost,resAll,resP,resV,intP,mkV,putC,pbin,sbin,strsEq,peq,pint,pshift,pstr,pun,pconv,isShift,isConstB,app,subS,lay,rowsOf,lkV,keyKind,keyEq,mfind,mput,oInt,isZeroInt,forall_const,exists_eq_left',implies_true,IntKind.bits, ↓reduceIte,Nat.reduceEqDiff,Nat.reduceAdd,Nat.reduceSub,Nat.reduceMul,Nat.reduceLT,Nat.reduceLeDiff,Nat.reduceBEq,Int.reduceLE,Int.reduceLT,Int.reduceToNat,reduceCtorEq,Ty.all,g3,g7,g8,g9,hd])
     |(refine a_skip ?_;try simp only[pst0, ↓reduceIte,Nat.reduceEqDiff])
     |(refine a_exit ?_;try simp only[pst0, ↓reduceIte,Nat.reduceEqDiff])
     |(refine a_cond _ (by(try simp(maxSteps:=2000000) only[undef,am0,am1,am2,am3,amb0,amb1,amb2,amb3,amb4,lwn,drn,callee,wantedB,isW,eff,pev,pst0,retPost,resAll,resP,resV,intP,mkV,putC,pbin,sbin,strsEq,peq,pint,pshift,pstr,pun,pconv,isShift,isConstB,app,subS,lay,rowsOf,lkV,keyKind,keyEq,mfind,mput,oInt,isZeroInt,forall_const,exists_eq_left',implies_true,IntKind.bits, ↓reduceIte,Nat.reduceEqDiff,Nat.reduceAdd,Nat.reduceSub,Nat.reduceMul,Nat.reduceLT,Nat.reduceLeDiff,Nat.reduceBEq,Int.reduceLE,Int.reduceLT,Int.reduceToNat,reduceCtorEq,Ty.all,g3,g7,g8,g9,hd]);rfl) (fun hb=>?_) (fun hb=>?_)<;>(try simp only[hb0,decide_eq_true_eq,decide_eq_false_iff_not,reduceCtorEq]at hb)<;>(try(exfalso;omega)))
     |(with_reducible refine ite_in (fun hb=>?_) (fun hb=>?_)<;>(try simp only[Decidable.not_not]at hb)<;>(try simp only[hb,if_true,if_false,not_false_eq_true,not_true_eq_false, ↓reduceIte])<;>(try simp only[hb0,decide_eq_true_eq,decide_eq_false_iff_not,reduceCtorEq]at hb)<;>(try(exfalso;omega)))
     |(refine hK _ _ ?_;clear hK;try simp only[pst0, ↓reduceIte,Nat.reduceEqDiff])
     |(clear hK;refine hK _ _ ?_;clear hK;try simp only[pst0, ↓reduceIte,Nat.reduceEqDiff])
     |(clear hK;clear hK;refine hK _ _ ?_;clear hK;try simp only[pst0, ↓reduceIte,Nat.reduceEqDiff])
     |(clear hK;clear hK;clear hK;refine hK _ _ ?_;clear hK;try simp only[pst0, ↓reduceIte,Nat.reduceEqDiff])
     |(rw[if_pos];rotate_left 1;omega;simp(maxSteps:=2000000) only[undef,am0,am1,am2,am3,amb0,amb1,amb2,amb3,amb4,lwn,drn,callee,wantedB,isW,eff,pev,pst0,retPost,resAll,resP,resV,intP,mkV,putC,pbin,sbin,strsEq,peq,pint,pshift,pstr,pun,pconv,isShift,isConstB,app,subS,lay,rowsOf,lkV,keyKind,keyEq,mfind,mput,oInt,isZeroInt,forall_const,exists_eq_left',implies_true,IntKind.bits, ↓reduceIte,Nat.reduceEqDiff,Nat.reduceAdd,Nat.reduceSub,Nat.reduceMul,Nat.reduceLT,Nat.reduceLeDiff,Nat.reduceBEq,Int.reduceLE,Int.reduceLT,Int.reduceToNat,reduceCtorEq,Ty.all,g3,g7,g8,g9,hd]))
    refine owp_useL c1 (by(try simp only[undef,am0,am1,am2,am3,amb0,amb1,amb2,amb3,amb4,lwn,drn,callee,wantedB,isW,eff,pev,pst0,retPost,resAll,resP,resV,intP,mkV,putC,pbin,sbin,strsEq,peq,pint,pshift,pstr,pun,pconv,isShift,isConstB,app,subS,lay,rowsOf,lkV,keyKind,keyEq,mfind,mput,oInt,isZeroInt,forall_const,exists_eq_left',implies_true,IntKind.bits, ↓reduceIte,Nat.reduceEqDiff,Nat.reduceAdd,Nat.reduceSub,Nat.reduceMul,Nat.reduceLT,Nat.reduceLeDiff,Nat.reduceBEq,Int.reduceLE,Int.reduceLT,Int.reduceToNat,reduceCtorEq,g3]);try rfl) ?_
    rintro r h3 ⟨rfl,D,q1,q2,rfl⟩
    simp(maxSteps:=2000000) only[undef,am0,am1,am2,am3,amb0,amb1,amb2,amb3,amb4,lwn,drn,callee,wantedB,isW,eff,pev,pst0,retPost,resAll,resP,resV,intP,mkV,putC,pbin,sbin,strsEq,peq,pint,pshift,pstr,pun,pconv,isShift,isConstB,app,subS,lay,rowsOf,lkV,keyKind,keyEq,mfind,mput,oInt,isZeroInt,forall_const,exists_eq_left',implies_true,IntKind.bits, ↓reduceIte,Nat.reduceEqDiff,Nat.reduceAdd,Nat.reduceSub,Nat.reduceMul,Nat.reduceLT,Nat.reduceLeDiff,Nat.reduceBEq,Int.reduceLE,Int.reduceLT,Int.reduceToNat,reduceCtorEq,Ty.all,g3]
    have hDl:D.length=pi.length:=q1.length_eq
    have c2:=compactF_own (D:=D) (id:=id) (h:=h'.set id (.arr 2 (atRows D))) (by simp[Heap.set]) (by omega) (fun a ha=>hok a (q1.mem_iff.1 ha))
    rw[hDl]at c2
    repeat'(first
     |refine a_seq fun K hK=>?_
     |(refine a_block ?_)
     |((first|refine a_regionS ?_|refine a_region (fun K hK=>?_)|refine a_ret ?_);simp(maxSteps:=2000000) only[undef,am0,am1,am2,am3,amb0,amb1,amb2,amb3,amb4,lwn,drn,callee,wantedB,isW,eff,pev,pst0,retPost,resAll,resP,resV,intP,mkV,putC,pbin,sbin,strsEq,peq,pint,pshift,pstr,pun,pconv,isShift,isConstB,app,subS,lay,rowsOf,lkV,keyKind,keyEq,mfind,mput,oInt,isZeroInt,forall_const,exists_eq_left',implies_true,IntKind.bits, ↓reduceIte,Nat.reduceEqDiff,Nat.reduceAdd,Nat.reduceSub,Nat.reduceMul,Nat.reduceLT,Nat.reduceLeDiff,Nat.reduceBEq,Int.reduceLE,Int.reduceLT,Int.reduceToNat,reduceCtorEq,Ty.all,g3])
     |(refine a_skip ?_;try simp only[pst0, ↓reduceIte,Nat.reduceEqDiff])
     |(refine a_exit ?_;try simp only[pst0, ↓reduceIte,Nat.reduceEqDiff])
     |(refine a_cond _ (by(try simp(maxSteps:=2000000) only[undef,am0,am1,am2,am3,amb0,amb1,amb2,amb3,amb4,lwn,drn,callee,wantedB,isW,eff,pev,pst0,retPost,resAll,resP,resV,intP,mkV,putC,pbin,sbin,strsEq,peq,pint,pshift,pstr,pun,pconv,isShift,isConstB,app,subS,lay,rowsOf,lkV,keyKind,keyEq,mfind,mput,oInt,isZeroInt,forall_const,exists_eq_left',implies_true,IntKind.bits, ↓reduceIte,Nat.reduceEqDiff,Nat.reduceAdd,Nat.reduceSub,Nat.reduceMul,Nat.reduceLT,Nat.reduceLeDiff,Nat.reduceBEq,Int.reduceLE,Int.reduceLT,Int.reduceToNat,reduceCtorEq,Ty.all,g3]);rfl) (fun hb=>?_) (fun hb=>?_)<;>(try simp only[hb0,decide_eq_true_eq,decide_eq_false_iff_not,reduceCtorEq]at hb)<;>(try(exfalso;omega)))
     |(with_reducible refine ite_in (fun hb=>?_) (fun hb=>?_)<;>(try simp only[Decidable.not_not]at hb)<;>(try simp only[hb,if_true,if_false,not_false_eq_true,not_true_eq_false, ↓reduceIte])<;>(try simp only[hb0,decide_eq_true_eq,decide_eq_false_iff_not,reduceCtorEq]at hb)<;>(try(exfalso;omega)))
     |(refine hK _ _ ?_;clear hK;try simp only[pst0, ↓reduceIte,Nat.reduceEqDiff])
     |(clear hK;refine hK _ _ ?_;clear hK;try simp only[pst0, ↓reduceIte,Nat.reduceEqDiff])
     |(clear hK;clear hK;refine hK _ _ ?_;clear hK;try simp only[pst0, ↓reduceIte,Nat.reduceEqDiff])
     |(clear hK;clear hK;clear hK;refine hK _ _ ?_;clear hK;try simp only[pst0, ↓reduceIte,Nat.reduceEqDiff])
     |(rw[if_pos];rotate_left 1;omega;simp(maxSteps:=2000000) only[undef,am0,am1,am2,am3,amb0,amb1,amb2,amb3,amb4,lwn,drn,callee,wantedB,isW,eff,pev,pst0,retPost,resAll,resP,resV,intP,mkV,putC,pbin,sbin,strsEq,peq,pint,pshift,pstr,pun,pconv,isShift,isConstB,app,subS,lay,rowsOf,lkV,keyKind,keyEq,mfind,mput,oInt,isZeroInt,forall_const,exists_eq_left',implies_true,IntKind.bits, ↓reduceIte,Nat.reduceEqDiff,Nat.reduceAdd,Nat.reduceSub,Nat.reduceMul,Nat.reduceLT,Nat.reduceLeDiff,Nat.reduceBEq,Int.reduceLE,Int.reduceLT,Int.reduceToNat,reduceCtorEq,Ty.all,g3]))
    refine owp_useL c2 (by(try simp only[undef,am0,am1,am2,am3,amb0,amb1,amb2,amb3,amb4,lwn,drn,callee,wantedB,isW,eff,pev,pst0,retPost,resAll,resP,resV,intP,mkV,putC,pbin,sbin,strsEq,peq,pint,pshift,pstr,pun,pconv,isShift,isConstB,app,subS,lay,rowsOf,lkV,keyKind,keyEq,mfind,mput,oInt,isZeroInt,forall_const,exists_eq_left',implies_true,IntKind.bits, ↓reduceIte,Nat.reduceEqDiff,Nat.reduceAdd,Nat.reduceSub,Nat.reduceMul,Nat.reduceLT,Nat.reduceLeDiff,Nat.reduceBEq,Int.reduceLE,Int.reduceLT,Int.reduceToNat,reduceCtorEq,g3]);try rfl) ?_
    rintro r h3 ⟨rfl,rows,rfl,r1,r2⟩
    simp(maxSteps:=2000000) only[undef,am0,am1,am2,am3,amb0,amb1,amb2,amb3,amb4,lwn,drn,callee,wantedB,isW,eff,pev,pst0,retPost,resAll,resP,resV,intP,mkV,putC,pbin,sbin,strsEq,peq,pint,pshift,pstr,pun,pconv,isShift,isConstB,app,subS,lay,rowsOf,lkV,keyKind,keyEq,mfind,mput,oInt,isZeroInt,forall_const,exists_eq_left',implies_true,IntKind.bits, ↓reduceIte,Nat.reduceEqDiff,Nat.reduceAdd,Nat.reduceSub,Nat.reduceMul,Nat.reduceLT,Nat.reduceLeDiff,Nat.reduceBEq,Int.reduceLE,Int.reduceLT,Int.reduceToNat,reduceCtorEq,Ty.all]
    repeat'(first
     |refine a_seq fun K hK=>?_
     |(refine a_block ?_)
     |((first|refine a_regionS ?_|refine a_region (fun K hK=>?_)|refine a_ret ?_);simp(maxSteps:=2000000) only[undef,am0,am1,am2,am3,amb0,amb1,amb2,amb3,amb4,lwn,drn,callee,wantedB,isW,eff,pev,pst0,retPost,resAll,resP,resV,intP,mkV,putC,pbin,sbin,strsEq,peq,pint,pshift,pstr,pun,pconv,isShift,isConstB,app,subS,lay,rowsOf,lkV,keyKind,keyEq,mfind,mput,oInt,isZeroInt,forall_const,exists_eq_left',implies_true,IntKind.bits, ↓reduceIte,Nat.reduceEqDiff,Nat.reduceAdd,Nat.reduceSub,Nat.reduceMul,Nat.reduceLT,Nat.reduceLeDiff,Nat.reduceBEq,Int.reduceLE,Int.reduceLT,Int.reduceToNat,reduceCtorEq,Ty.all])
     |(refine a_skip ?_;try simp only[pst0, ↓reduceIte,Nat.reduceEqDiff])
     |(refine a_exit ?_;try simp only[pst0, ↓reduceIte,Nat.reduceEqDiff])
     |(refine a_cond _ (by(try simp(maxSteps:=2000000) only[undef,am0,am1,am2,am3,amb0,amb1,amb2,amb3,amb4,lwn,drn,callee,wantedB,isW,eff,pev,pst0,retPost,resAll,resP,resV,intP,mkV,putC,pbin,sbin,strsEq,peq,pint,pshift,pstr,pun,pconv,isShift,isConstB,app,subS,lay,rowsOf,lkV,keyKind,keyEq,mfind,mput,oInt,isZeroInt,forall_const,exists_eq_left',implies_true,IntKind.bits, ↓reduceIte,Nat.reduceEqDiff,Nat.reduceAdd,Nat.reduceSub,Nat.reduceMul,Nat.reduceLT,Nat.reduceLeDiff,Nat.reduceBEq,Int.reduceLE,Int.reduceLT,Int.reduceToNat,reduceCtorEq,Ty.all]);rfl) (fun hb=>?_) (fun hb=>?_)<;>(try simp only[hb0,decide_eq_true_eq,decide_eq_false_iff_not,reduceCtorEq]at hb)<;>(try(exfalso;omega)))
     |(with_reducible refine ite_in (fun hb=>?_) (fun hb=>?_)<;>(try simp only[Decidable.not_not]at hb)<;>(try simp only[hb,if_true,if_false,not_false_eq_true,not_true_eq_false, ↓reduceIte])<;>(try simp only[hb0,decide_eq_true_eq,decide_eq_false_iff_not,reduceCtorEq]at hb)<;>(try(exfalso;omega)))
     |(refine hK _ _ ?_;clear hK;try simp only[pst0, ↓reduceIte,Nat.reduceEqDiff])
     |(clear hK;refine hK _ _ ?_;clear hK;try simp only[pst0, ↓reduceIte,Nat.reduceEqDiff])
     |(clear hK;clear hK;refine hK _ _ ?_;clear hK;try simp only[pst0, ↓reduceIte,Nat.reduceEqDiff])
     |(clear hK;clear hK;clear hK;refine hK _ _ ?_;clear hK;try simp only[pst0, ↓reduceIte,Nat.reduceEqDiff])
     |(rw[if_pos];rotate_left 1;omega;simp(maxSteps:=2000000) only[undef,am0,am1,am2,am3,amb0,amb1,amb2,amb3,amb4,lwn,drn,callee,wantedB,isW,eff,pev,pst0,retPost,resAll,resP,resV,intP,mkV,putC,pbin,sbin,strsEq,peq,pint,pshift,pstr,pun,pconv,isShift,isConstB,app,subS,lay,rowsOf,lkV,keyKind,keyEq,mfind,mput,oInt,isZeroInt,forall_const,exists_eq_left',implies_true,IntKind.bits, ↓reduceIte,Nat.reduceEqDiff,Nat.reduceAdd,Nat.reduceSub,Nat.reduceMul,Nat.reduceLT,Nat.reduceLeDiff,Nat.reduceBEq,Int.reduceLE,Int.reduceLT,Int.reduceToNat,reduceCtorEq,Ty.all]))
    refine⟨.imm 2 (atRows (compA D)),⟨D,q1,q2,rfl⟩,?_,(hg.set i1 _).set i1 _⟩
    unfold FrzTo
    refine .inr (.inr ⟨id,0,_,rows,rfl,i1,by simp[Heap.set],by omega,?_⟩)
    rw[List.drop_zero,r2]
    exact ats_frz9 _ _ _
end Go.Proofs.Ytdekkbdlcblhcaa
namespace Go.Proofs.Ytdekkbdlcblhcaa
open Go.AM
set_option maxHeartbeats 4000000
set_option maxRecDepth 20000
def argSumA(n:Int):List At→Int
 |[]=>n
 |a::l=>argSumA (IntKind.i64.wrap (n+a.args.length)) l
def argSumV(n:Int):List Vl→Int
 |[]=>n
 |v::l=>argSumV (IntKind.i64.wrap (n+v.at_.args.length)) l
def largeP(p:Pb):Bool:=decide (argSumV (argSumA (IntKind.i64.wrap (IntKind.i64.wrap ((p.objects.length:Int)+p.init.length)+p.values.length)) p.init) p.values>1000)||decide (p.goal.size>2000)
theorem plarge_c(p:Pb)(hp:p.okS)(h:Heap):PCall Try.prog 4 [.agg p.cells] h fun r h'=>r= .sc (.bool (largeP p))∧h'=h:=by
 obtain⟨ho,⟨hi,hia⟩,⟨hv,hva⟩,hg⟩:=hp
 obtain⟨name,domain,objects,init,values,goal⟩:=p
 simp only at ho hi hia hv hva hg
 have hz:=rsize_c goal hg
 unfold largeP
 simp only
 generalize goal.size=gs at hz⊢
 clear hg
 obtain⟨gop,gname,gargs,gparams,gexprs,gkids⟩:=goal
 have hlo:=pmRows_len objects
 have hli:=atRows_len init
 have hlv:=vlRows_len values
 unfold bigN at ho hi hv
 simp only[Fm.cells]at hz
 generalize hN0:IntKind.i64.wrap (IntKind.i64.wrap ((objects.length:Int)+init.length)+values.length)=n0
 generalize hNA:argSumA n0 init=nA
 generalize hNV:argSumV nA values=nV
 have hC: ∀ r,r=(Pb.mk name domain objects init values (.mk gop gname gargs gparams gexprs gkids)).cells→r=[sPV name,sPV domain,.imm 2 (pmRows objects),.imm 2 (atRows init),.imm 3 (vlRows values),sPV gop,sPV gname,.imm 1 (strRows gargs),.imm 2 (pmRows gparams),.imm 5 (Ex.rows gexprs),.imm 6 (Fm.rows gkids)]:=fun r e=>e
 have hC2:=hC _ rfl
 rw[hC2]
 refine pcall_body (ow:=fun _=>false) (wf:=fun _=>false) Ty.mixed Try.func4 rfl Ty.hb_4 (by rw[Try.ntmps4];simp) ?_
 rw[Try.ntmps4,Try.results4]
 repeat'(first|(with_reducible refine a_hold 2 ?_)|(first
  |refine a_seq fun K hK=>?_
  |(refine a_block ?_)
  |((first|refine a_regionS ?_|refine a_region (fun K hK=>?_)|refine a_ret ?_);simp(maxSteps:=2000000) only[undef,am0,am1,am2,am3,amb0,amb1,amb2,amb3,amb4,lwn,drn,callee,wantedB,isW,eff,pev,pst0,retPost,resAll,resP,resV,intP,mkV,putC,pbin,sbin,strsEq,peq,pint,pshift,pstr,pun,pconv,isShift,isConstB,app,subS,lay,rowsOf,lkV,keyKind,keyEq,mfind,mput,oInt,isZeroInt,forall_const,exists_eq_left',implies_true,IntKind.bits, ↓reduceIte,Nat.reduceEqDiff,Nat.reduceAdd,Nat.reduceSub,Nat.reduceMul,Nat.reduceLT,Nat.reduceLeDiff,Nat.reduceBEq,Int.reduceLE,Int.reduceLT,Int.reduceToNat,reduceCtorEq,Ty.all,hlo,hli,hlv,hN0])
  |(refine a_skip ?_;try simp only[pst0, ↓reduceIte,Nat.reduceEqDiff])
  |(refine a_exit ?_;try simp only[pst0, ↓reduceIte,Nat.reduceEqDiff])
  |(refine a_cond _ (by(try simp(maxSteps:=2000000) only[undef,am0,am1,am2,am3,amb0,amb1,amb2,amb3,amb4,lwn,drn,callee,wantedB,isW,eff,pev,pst0,retPost,resAll,resP,resV,intP,mkV,putC,pbin,sbin,strsEq,peq,pint,pshift,pstr,pun,pconv,isShift,isConstB,app,subS,lay,rowsOf,lkV,keyKind,keyEq,mfind,mput,oInt,isZeroInt,forall_const,exists_eq_left',implies_true,IntKind.bits, ↓reduceIte,Nat.reduceEqDiff,Nat.reduceAdd,Nat.reduceSub,Nat.reduceMul,Nat.reduceLT,Nat.reduceLeDiff,Nat.reduceBEq,Int.reduceLE,Int.reduceLT,Int.reduceToNat,reduceCtorEq,Ty.all,hlo,hli,hlv,hN0]);rfl) (fun hb=>?_) (fun hb=>?_)<;>(try simp only[hb0,decide_eq_true_eq,decide_eq_false_iff_not,reduceCtorEq]at hb)<;>(try(exfalso;omega)))
  |(with_reducible refine ite_in (fun hb=>?_) (fun hb=>?_)<;>(try simp only[Decidable.not_not]at hb)<;>(try simp only[hb,if_true,if_false,not_false_eq_true,not_true_eq_false, ↓reduceIte])<;>(try simp only[hb0,decide_eq_true_eq,decide_eq_false_iff_not,reduceCtorEq]at hb)<;>(try(exfalso;omega)))
  |(refine hK _ _ ?_;clear hK;try simp only[pst0, ↓reduceIte,Nat.reduceEqDiff])
  |(clear hK;refine hK _ _ ?_;clear hK;try simp only[pst0, ↓reduceIte,Nat.reduceEqDiff])
  |(clear hK;clear hK;refine hK _ _ ?_;clear hK;try simp only[pst0, ↓reduceIte,Nat.reduceEqDiff])
  |(clear hK;clear hK;clear hK;refine hK _ _ ?_;clear hK;try simp only[pst0, ↓reduceIte,Nat.reduceEqDiff])
  |(rw[if_pos];rotate_left 1;omega;simp(maxSteps:=2000000) only[undef,am0,am1,am2,am3,amb0,amb1,amb2,amb3,amb4,lwn,drn,callee,wantedB,isW,eff,pev,pst0,retPost,resAll,resP,resV,intP,mkV,putC,pbin,sbin,strsEq,peq,pint,pshift,pstr,pun,pconv,isShift,isConstB,app,subS,lay,rowsOf,lkV,keyKind,keyEq,mfind,mput,oInt,isZeroInt,forall_const,exists_eq_left',implies_true,IntKind.bits, ↓reduceIte,Nat.reduceEqDiff,Nat.reduceAdd,Nat.reduceSub,Nat.reduceMul,Nat.reduceLT,Nat.reduceLeDiff,Nat.reduceBEq,Int.reduceLE,Int.reduceLT,Int.reduceToNat,reduceCtorEq,Ty.all,hlo,hli,hlv,hN0])))
 refine⟨?_⟩
 refine a_cut (fun S h'=>h'=h∧S 1= .cptr (Pb.mk name domain objects init values (.mk gop gname gargs gparams gexprs gkids)).cells∧S 3= .sc (.int .i64 nA)) ?_ ?_
 ·rw [hC2]
  repeat'(first
   |refine a_seq fun K hK=>?_
   |(refine a_block ?_)
   |((first|refine a_regionS ?_|refine a_region (fun K hK=>?_)|refine a_ret ?_);simp(maxSteps:=2000000) only[undef,am0,am1,am2,am3,amb0,amb1,amb2,amb3,amb4,lwn,drn,callee,wantedB,isW,eff,pev,pst0,retPost,resAll,resP,resV,intP,mkV,putC,pbin,sbin,strsEq,peq,pint,pshift,pstr,pun,pconv,isShift,isConstB,app,subS,lay,rowsOf,lkV,keyKind,keyEq,mfind,mput,oInt,isZeroInt,forall_const,exists_eq_left',implies_true,IntKind.bits, ↓reduceIte,Nat.reduceEqDiff,Nat.reduceAdd,Nat.reduceSub,Nat.reduceMul,Nat.reduceLT,Nat.reduceLeDiff,Nat.reduceBEq,Int.reduceLE,Int.reduceLT,Int.reduceToNat,reduceCtorEq,Ty.all])
   |(refine a_skip ?_;try simp only[pst0, ↓reduceIte,Nat.reduceEqDiff])
   |(refine a_exit ?_;try simp only[pst0, ↓reduceIte,Nat.reduceEqDiff])
   |(refine a_cond _ (by(try simp(maxSteps:=2000000) only[undef,am0,am1,am2,am3,amb0,amb1,amb2,amb3,amb4,lwn,drn,callee,wantedB,isW,eff,pev,pst0,retPost,resAll,resP,resV,intP,mkV,putC,pbin,sbin,strsEq,peq,pint,pshift,pstr,pun,pconv,isShift,isConstB,app,subS,lay,rowsOf,lkV,keyKind,keyEq,mfind,mput,oInt,isZeroInt,forall_const,exists_eq_left',implies_true,IntKind.bits, ↓reduceIte,Nat.reduceEqDiff,Nat.reduceAdd,Nat.reduceSub,Nat.reduceMul,Nat.reduceLT,Nat.reduceLeDiff,Nat.reduceBEq,Int.reduceLE,Int.reduceLT,Int.reduceToNat,reduceCtorEq,Ty.all]);rfl) (fun hb=>?_) (fun hb=>?_)<;>(try simp only[hb0,decide_eq_true_eq,decide_eq_false_iff_not,reduceCtorEq]at hb)<;>(try(exfalso;omega)))
   |(with_reducible refine ite_in (fun hb=>?_) (fun hb=>?_)<;>(try simp only[Decidable.not_not]at hb)<;>(try simp only[hb,if_true,if_false,not_false_eq_true,not_true_eq_false, ↓reduceIte])<;>(try simp only[hb0,decide_eq_true_eq,decide_eq_false_iff_not,reduceCtorEq]at hb)<;>(try(exfalso;omega)))
   |(refine hK _ _ ?_;clear hK;try simp only[pst0, ↓reduceIte,Nat.reduceEqDiff])
   |(clear hK;refine hK _ _ ?_;clear hK;try simp only[pst0, ↓reduceIte,Nat.reduceEqDiff])
   |(clear hK;clear hK;refine hK _ _ ?_;clear hK;try simp only[pst0, ↓reduceIte,Nat.reduceEqDiff])
   |(clear hK;clear hK;clear hK;refine hK _ _ ?_;clear hK;try simp only[pst0, ↓reduceIte,Nat.reduceEqDiff])
   |(rw[if_pos];rotate_left 1;omega;simp(maxSteps:=2000000) only[undef,am0,am1,am2,am3,amb0,amb1,amb2,amb3,amb4,lwn,drn,callee,wantedB,isW,eff,pev,pst0,retPost,resAll,resP,resV,intP,mkV,putC,pbin,sbin,strsEq,peq,pint,pshift,pstr,pun,pconv,isShift,isConstB,app,subS,lay,rowsOf,lkV,keyKind,keyEq,mfind,mput,oInt,isZeroInt,forall_const,exists_eq_left',implies_true,IntKind.bits, ↓reduceIte,Nat.reduceEqDiff,Nat.reduceAdd,Nat.reduceSub,Nat.reduceMul,Nat.reduceLT,Nat.reduceLeDiff,Nat.reduceBEq,Int.reduceLE,Int.reduceLT,Int.reduceToNat,reduceCtorEq,Ty.all]))
  refine a_loop (fun c S h'=>h'=h∧S 1= .cptr (Pb.mk name domain objects init values (.mk gop gname gargs gparams gexprs gkids)).cells∧ ∃ (k:Nat)(n:Int),S 4= .sc (.int .i64 k)∧S 3= .sc (.int .i64 n)∧k≤init.length∧c=init.length-k∧nA=argSumA n (init.drop k)) init.length ?_ ?_
  ·simp only[undef,am0,am1,am2,am3,amb0,amb1,amb2,amb3,amb4,lwn,drn,callee,wantedB,isW,eff,pev,pst0,retPost,resAll,resP,resV,intP,mkV,putC,pbin,sbin,strsEq,peq,pint,pshift,pstr,pun,pconv,isShift,isConstB,app,subS,lay,rowsOf,lkV,keyKind,keyEq,mfind,mput,oInt,isZeroInt,forall_const,exists_eq_left',implies_true,IntKind.bits, ↓reduceIte,Nat.reduceEqDiff,Nat.reduceAdd,Nat.reduceSub,Nat.reduceMul,Nat.reduceLT,Nat.reduceLeDiff,Nat.reduceBEq,Int.reduceLE,Int.reduceLT,Int.reduceToNat,reduceCtorEq,hC2]
   exact⟨0,n0,rfl,rfl,by omega,rfl,by rw[← hNA];try rfl⟩
  ·rintro c S h' ⟨rfl,g1,k,n,g4,g3,hk,rfl,hinv⟩
   rw[hC2]at g1
   by_cases hlt:k<init.length
   ·have hd:decide ((k:Int)<(init.length:Int))=true:=by simp;omega
    have w7:IntKind.i64.wrap ((k:Int)+1)=k+1:=by rw[wrap64 (by omega) (by omega)]
    obtain⟨a,hx⟩: ∃ a,init[k]? =some a:=⟨_,List.getElem?_eq_getElem hlt⟩
    have hr:=atRows_get hx
    have hls:=strRows_len a.args
    rw[drop_of_get hx]at hinv
    simp only[argSumA]at hinv
    repeat'(first
     |refine a_seq fun K hK=>?_
     |(refine a_block ?_)
     |((first|refine a_regionS ?_|refine a_region (fun K hK=>?_)|refine a_ret ?_);simp(maxSteps:=2000000) only[undef,am0,am1,am2,am3,amb0,amb1,amb2,amb3,amb4,lwn,drn,callee,wantedB,isW,eff,pev,pst0,retPost,resAll,resP,resV,intP,mkV,putC,pbin,sbin,strsEq,peq,pint,pshift,pstr,pun,pconv,isShift,isConstB,app,subS,lay,rowsOf,lkV,keyKind,keyEq,mfind,mput,oInt,isZeroInt,forall_const,exists_eq_left',implies_true,IntKind.bits, ↓reduceIte,Nat.reduceEqDiff,Nat.reduceAdd,Nat.reduceSub,Nat.reduceMul,Nat.reduceLT,Nat.reduceLeDiff,Nat.reduceBEq,Int.reduceLE,Int.reduceLT,Int.reduceToNat,reduceCtorEq,Ty.all,g1,g3,g4,hli,hd,hr,hls,w7])
     |(refine a_skip ?_;try simp only[pst0, ↓reduceIte,Nat.reduceEqDiff])
     |(refine a_exit ?_;try simp only[pst0, ↓reduceIte,Nat.reduceEqDiff])
     |(refine a_cond _ (by(try simp(maxSteps:=2000000) only[undef,am0,am1,am2,am3,amb0,amb1,amb2,amb3,amb4,lwn,drn,callee,wantedB,isW,eff,pev,pst0,retPost,resAll,resP,resV,intP,mkV,putC,pbin,sbin,strsEq,peq,pint,pshift,pstr,pun,pconv,isShift,isConstB,app,subS,lay,rowsOf,lkV,keyKind,keyEq,mfind,mput,oInt,isZeroInt,forall_const,exists_eq_left',implies_true,IntKind.bits, ↓reduceIte,Nat.reduceEqDiff,Nat.reduceAdd,Nat.reduceSub,Nat.reduceMul,Nat.reduceLT,Nat.reduceLeDiff,Nat.reduceBEq,Int.reduceLE,Int.reduceLT,Int.reduceToNat,reduceCtorEq,Ty.all,g1,g3,g4,hli,hd,hr,hls,w7]);rfl) (fun hb=>?_) (fun hb=>?_)<;>(try simp only[hb0,decide_eq_true_eq,decide_eq_false_iff_not,reduceCtorEq]at hb)<;>(try(exfalso;omega)))
     |(with_reducible refine ite_in (fun hb=>?_) (fun hb=>?_)<;>(try simp only[Decidable.not_not]at hb)<;>(try simp only[hb,if_true,if_false,not_false_eq_true,not_true_eq_false, ↓reduceIte])<;>(try simp only[hb0,decide_eq_true_eq,decide_eq_false_iff_not,reduceCtorEq]at hb)<;>(try(exfalso;omega)))
     |(refine hK _ _ ?_;clear hK;try simp only[pst0, ↓reduceIte,Nat.reduceEqDiff])
     |(clear hK;refine hK _ _ ?_;clear hK;try simp only[pst0, ↓reduceIte,Nat.reduceEqDiff])
     |(clear hK;clear hK;refine hK _ _ ?_;clear hK;try simp only[pst0, ↓reduceIte,Nat.reduceEqDiff])
     |(clear hK;clear hK;clear hK;refine hK _ _ ?_;clear hK;try simp only[pst0, ↓reduceIte,Nat.reduceEqDiff])
     |(rw[if_pos];rotate_left 1;omega;simp(maxSteps:=2000000) only[undef,am0,am1,am2,am3,amb0,amb1,amb2,amb3,amb4,lwn,drn,callee,wantedB,isW,eff,pev,pst0,retPost,resAll,resP,resV,intP,mkV,putC,pbin,sbin,strsEq,peq,pint,pshift,pstr,pun,pconv,isShift,isConstB,app,subS,lay,rowsOf,lkV,keyKind,keyEq,mfind,mput,oInt,isZeroInt,forall_const,exists_eq_left',implies_true,IntKind.bits, ↓reduceIte,Nat.reduceEqDiff,Nat.reduceAdd,Nat.reduceSub,Nat.reduceMul,Nat.reduceLT,Nat.reduceLeDiff,Nat.reduceBEq,Int.reduceLE,Int.reduceLT,Int.reduceToNat,reduceCtorEq,Ty.all,g1,g3,g4,hli,hd,hr,hls,w7]))
    exact⟨init.length-(k+1),by omega,by rw[hC2],k+1,_,by simp,rfl,by omega,rfl,hinv⟩
   ·have hd:decide ((k:Int)<(init.length:Int))=false:=by simp;omega
    rw[List.drop_eq_nil_of_le (by omega)]at hinv
    simp only[argSumA]at hinv
    repeat'(first
     |refine a_seq fun K hK=>?_
     |(refine a_block ?_)
     |((first|refine a_regionS ?_|refine a_region (fun K hK=>?_)|refine a_ret ?_);simp(maxSteps:=2000000) only[undef,am0,am1,am2,am3,amb0,amb1,amb2,amb3,amb4,lwn,drn,callee,wantedB,isW,eff,pev,pst0,retPost,resAll,resP,resV,intP,mkV,putC,pbin,sbin,strsEq,peq,pint,pshift,pstr,pun,pconv,isShift,isConstB,app,subS,lay,rowsOf,lkV,keyKind,keyEq,mfind,mput,oInt,isZeroInt,forall_const,exists_eq_left',implies_true,IntKind.bits, ↓reduceIte,Nat.reduceEqDiff,Nat.reduceAdd,Nat.reduceSub,Nat.reduceMul,Nat.reduceLT,Nat.reduceLeDiff,Nat.reduceBEq,Int.reduceLE,Int.reduceLT,Int.reduceToNat,reduceCtorEq,Ty.all,g1,g3,g4,hli,hd])
     |(refine a_skip ?_;try simp only[pst0, ↓reduceIte,Nat.reduceEqDiff])
     |(refine a_exit ?_;try simp only[pst0, ↓reduceIte,Nat.reduceEqDiff])
     |(refine a_cond _ (by(try simp(maxSteps:=2000000) only[undef,am0,am1,am2,am3,amb0,amb1,amb2,amb3,amb4,lwn,drn,callee,wantedB,isW,eff,pev,pst0,retPost,resAll,resP,resV,intP,mkV,putC,pbin,sbin,strsEq,peq,pint,pshift,pstr,pun,pconv,isShift,isConstB,app,subS,lay,rowsOf,lkV,keyKind,keyEq,mfind,mput,oInt,isZeroInt,forall_const,exists_eq_left',implies_true,IntKind.bits, ↓reduceIte,Nat.reduceEqDiff,Nat.reduceAdd,Nat.reduceSub,Nat.reduceMul,Nat.reduceLT,Nat.reduceLeDiff,Nat.reduceBEq,Int.reduceLE,Int.reduceLT,Int.reduceToNat,reduceCtorEq,Ty.all,g1,g3,g4,hli,hd]);rfl) (fun hb=>?_) (fun hb=>?_)<;>(try simp only[hb0,decide_eq_true_eq,decide_eq_false_iff_not,reduceCtorEq]at hb)<;>(try(exfalso;omega)))
     |(with_reducible refine ite_in (fun hb=>?_) (fun hb=>?_)<;>(try simp only[Decidable.not_not]at hb)<;>(try simp only[hb,if_true,if_false,not_false_eq_true,not_true_eq_false, ↓reduceIte])<;>(try simp only[hb0,decide_eq_true_eq,decide_eq_false_iff_not,reduceCtorEq]at hb)<;>(try(exfalso;omega)))
     |(refine hK _ _ ?_;clear hK;try simp only[pst0, ↓reduceIte,Nat.reduceEqDiff])
     |(clear hK;refine hK _ _ ?_;clear hK;try simp only[pst0, ↓reduceIte,Nat.reduceEqDiff])
     |(clear hK;clear hK;refine hK _ _ ?_;clear hK;try simp only[pst0, ↓reduceIte,Nat.reduceEqDiff])
     |(clear hK;clear hK;clear hK;refine hK _ _ ?_;clear hK;try simp only[pst0, ↓reduceIte,Nat.reduceEqDiff])
     |(rw[if_pos];rotate_left 1;omega;simp(maxSteps:=2000000) only[undef,am0,am1,am2,am3,amb0,amb1,amb2,amb3,amb4,lwn,drn,callee,wantedB,isW,eff,pev,pst0,retPost,resAll,resP,resV,intP,mkV,putC,pbin,sbin,strsEq,peq,pint,pshift,pstr,pun,pconv,isShift,isConstB,app,subS,lay,rowsOf,lkV,keyKind,keyEq,mfind,mput,oInt,isZeroInt,forall_const,exists_eq_left',implies_true,IntKind.bits, ↓reduceIte,Nat.reduceEqDiff,Nat.reduceAdd,Nat.reduceSub,Nat.reduceMul,Nat.reduceLT,Nat.reduceLeDiff,Nat.reduceBEq,Int.reduceLE,Int.reduceLT,Int.reduceToNat,reduceCtorEq,Ty.all,g1,g3,g4,hli,hd]))
    simp only[undef,am0,am1,am2,am3,amb0,amb1,amb2,amb3,amb4,lwn,drn,callee,wantedB,isW,eff,pev,pst0,retPost,resAll,resP,resV,intP,mkV,putC,pbin,sbin,strsEq,peq,pint,pshift,pstr,pun,pconv,isShift,isConstB,app,subS,lay,rowsOf,lkV,keyKind,keyEq,mfind,mput,oInt,isZeroInt,forall_const,exists_eq_left',implies_true,IntKind.bits, ↓reduceIte,Nat.reduceEqDiff,Nat.reduceAdd,Nat.reduceSub,Nat.reduceMul,Nat.reduceLT,Nat.reduceLeDiff,Nat.reduceBEq,Int.reduceLE,Int.reduceLT,Int.reduceToNat,reduceCtorEq,g1,g3,hinv,hC2]
 ·rintro S h' ⟨rfl,g1,g3⟩
  rw[hC2]at g1
  clear hNA hN0
  repeat'(first|(with_reducible refine a_hold 6 ?_)|(first
   |refine a_seq fun K hK=>?_
   |(refine a_block ?_)
   |((first|refine a_regionS ?_|refine a_region (fun K hK=>?_)|refine a_ret ?_);simp(maxSteps:=2000000) only[undef,am0,am1,am2,am3,amb0,amb1,amb2,amb3,amb4,lwn,drn,callee,wantedB,isW,eff,pev,pst0,retPost,resAll,resP,resV,intP,mkV,putC,pbin,sbin,strsEq,peq,pint,pshift,pstr,pun,pconv,isShift,isConstB,app,subS,lay,rowsOf,lkV,keyKind,keyEq,mfind,mput,oInt,isZeroInt,forall_const,exists_eq_left',implies_true,IntKind.bits, ↓reduceIte,Nat.reduceEqDiff,Nat.reduceAdd,Nat.reduceSub,Nat.reduceMul,Nat.reduceLT,Nat.reduceLeDiff,Nat.reduceBEq,Int.reduceLE,Int.reduceLT,Int.reduceToNat,reduceCtorEq,Ty.all,g1,g3])
   |(refine a_skip ?_;try simp only[pst0, ↓reduceIte,Nat.reduceEqDiff])
   |(refine a_exit ?_;try simp only[pst0, ↓reduceIte,Nat.reduceEqDiff])
   |(refine a_cond _ (by(try simp(maxSteps:=2000000) only[undef,am0,am1,am2,am3,amb0,amb1,amb2,amb3,amb4,lwn,drn,callee,wantedB,isW,eff,pev,pst0,retPost,resAll,resP,resV,intP,mkV,putC,pbin,sbin,strsEq,peq,pint,pshift,pstr,pun,pconv,isShift,isConstB,app,subS,lay,rowsOf,lkV,keyKind,keyEq,mfind,mput,oInt,isZeroInt,forall_const,exists_eq_left',implies_true,IntKind.bits, ↓reduceIte,Nat.reduceEqDiff,Nat.reduceAdd,Nat.reduceSub,Nat.reduceMul,Nat.reduceLT,Nat.reduceLeDiff,Nat.reduceBEq,Int.reduceLE,Int.reduceLT,Int.reduceToNat,reduceCtorEq,Ty.all,g1,g3]);rfl) (fun hb=>?_) (fun hb=>?_)<;>(try simp only[hb0,decide_eq_true_eq,decide_eq_false_iff_not,reduceCtorEq]at hb)<;>(try(exfalso;omega)))
   |(with_reducible refine ite_in (fun hb=>?_) (fun hb=>?_)<;>(try simp only[Decidable.not_not]at hb)<;>(try simp only[hb,if_true,if_false,not_false_eq_true,not_true_eq_false, ↓reduceIte])<;>(try simp only[hb0,decide_eq_true_eq,decide_eq_false_iff_not,reduceCtorEq]at hb)<;>(try(exfalso;omega)))
   |(refine hK _ _ ?_;clear hK;try simp only[pst0, ↓reduceIte,Nat.reduceEqDiff])
   |(clear hK;refine hK _ _ ?_;clear hK;try simp only[pst0, ↓reduceIte,Nat.reduceEqDiff])
   |(clear hK;clear hK;refine hK _ _ ?_;clear hK;try simp only[pst0, ↓reduceIte,Nat.reduceEqDiff])
   |(clear hK;clear hK;clear hK;refine hK _ _ ?_;clear hK;try simp only[pst0, ↓reduceIte,Nat.reduceEqDiff])
   |(rw[if_pos];rotate_left 1;omega;simp(maxSteps:=2000000) only[undef,am0,am1,am2,am3,amb0,amb1,amb2,amb3,amb4,lwn,drn,callee,wantedB,isW,eff,pev,pst0,retPost,resAll,resP,resV,intP,mkV,putC,pbin,sbin,strsEq,peq,pint,pshift,pstr,pun,pconv,isShift,isConstB,app,subS,lay,rowsOf,lkV,keyKind,keyEq,mfind,mput,oInt,isZeroInt,forall_const,exists_eq_left',implies_true,IntKind.bits, ↓reduceIte,Nat.reduceEqDiff,Nat.reduceAdd,Nat.reduceSub,Nat.reduceMul,Nat.reduceLT,Nat.reduceLeDiff,Nat.reduceBEq,Int.reduceLE,Int.reduceLT,Int.reduceToNat,reduceCtorEq,Ty.all,g1,g3])))
  refine⟨?_⟩
  refine a_cut (fun S h2=>h2=h'∧S 1= .cptr (Pb.mk name domain objects init values (.mk gop gname gargs gparams gexprs gkids)).cells∧S 3= .sc (.int .i64 nV)) ?_ ?_
  ·rw [hC2]
   repeat'(first
    |refine a_seq fun K hK=>?_
    |(refine a_block ?_)
    |((first|refine a_regionS ?_|refine a_region (fun K hK=>?_)|refine a_ret ?_);simp(maxSteps:=2000000) only[undef,am0,am1,am2,am3,amb0,amb1,amb2,amb3,amb4,lwn,drn,callee,wantedB,isW,eff,pev,pst0,retPost,resAll,resP,resV,intP,mkV,putC,pbin,sbin,strsEq,peq,pint,pshift,pstr,pun,pconv,isShift,isConstB,app,subS,lay,rowsOf,lkV,keyKind,keyEq,mfind,mput,oInt,isZeroInt,forall_const,exists_eq_left',implies_true,IntKind.bits, ↓reduceIte,Nat.reduceEqDiff,Nat.reduceAdd,Nat.reduceSub,Nat.reduceMul,Nat.reduceLT,Nat.reduceLeDiff,Nat.reduceBEq,Int.reduceLE,Int.reduceLT,Int.reduceToNat,reduceCtorEq,Ty.all,g1,g3])
    |(refine a_skip ?_;try simp only[pst0, ↓reduceIte,Nat.reduceEqDiff])
    |(refine a_exit ?_;try simp only[pst0, ↓reduceIte,Nat.reduceEqDiff])
    |(refine a_cond _ (by(try simp(maxSteps:=2000000) only[undef,am0,am1,am2,am3,amb0,amb1,amb2,amb3,amb4,lwn,drn,callee,wantedB,isW,eff,pev,pst0,retPost,resAll,resP,resV,intP,mkV,putC,pbin,sbin,strsEq,peq,pint,pshift,pstr,pun,pconv,isShift,isConstB,app,subS,lay,rowsOf,lkV,keyKind,keyEq,mfind,mput,oInt,isZeroInt,forall_const,exists_eq_left',implies_true,IntKind.bits, ↓reduceIte,Nat.reduceEqDiff,Nat.reduceAdd,Nat.reduceSub,Nat.reduceMul,Nat.reduceLT,Nat.reduceLeDiff,Nat.reduceBEq,Int.reduceLE,Int.reduceLT,Int.reduceToNat,reduceCtorEq,Ty.all,g1,g3]);rfl) (fun hb=>?_) (fun hb=>?_)<;>(try simp only[hb0,decide_eq_true_eq,decide_eq_false_iff_not,reduceCtorEq]at hb)<;>(try(exfalso;omega)))
    |(with_reducible refine ite_in (fun hb=>?_) (fun hb=>?_)<;>(try simp only[Decidable.not_not]at hb)<;>(try simp only[hb,if_true,if_false,not_false_eq_true,not_true_eq_false, ↓reduceIte])<;>(try simp only[hb0,decide_eq_true_eq,decide_eq_false_iff_not,reduceCtorEq]at hb)<;>(try(exfalso;omega)))
    |(refine hK _ _ ?_;clear hK;try simp only[pst0, ↓reduceIte,Nat.reduceEqDiff])
    |(clear hK;refine hK _ _ ?_;clear hK;try simp only[pst0, ↓reduceIte,Nat.reduceEqDiff])
    |(clear hK;clear hK;refine hK _ _ ?_;clear hK;try simp only[pst0, ↓reduceIte,Nat.reduceEqDiff])
    |(clear hK;clear hK;clear hK;refine hK _ _ ?_;clear hK;try simp only[pst0, ↓reduceIte,Nat.reduceEqDiff])
    |(rw[if_pos];rotate_left 1;omega;simp(maxSteps:=2000000) only[undef,am0,am1,am2,am3,amb0,amb1,amb2,amb3,amb4,lwn,drn,callee,wantedB,isW,eff,pev,pst0,retPost,resAll,resP,resV,intP,mkV,putC,pbin,sbin,strsEq,peq,pint,pshift,pstr,pun,pconv,isShift,isConstB,app,subS,lay,rowsOf,lkV,keyKind,keyEq,mfind,mput,oInt,isZeroInt,forall_const,exists_eq_left',implies_true,IntKind.bits, ↓reduceIte,Nat.reduceEqDiff,Nat.reduceAdd,Nat.reduceSub,Nat.reduceMul,Nat.reduceLT,Nat.reduceLeDiff,Nat.reduceBEq,Int.reduceLE,Int.reduceLT,Int.reduceToNat,reduceCtorEq,Ty.all,g1,g3]))
   refine a_loop (fun c S h2=>h2=h'∧S 1= .cptr (Pb.mk name domain objects init values (.mk gop gname gargs gparams gexprs gkids)).cells∧ ∃ (k:Nat)(n:Int),S 5= .sc (.int .i64 k)∧S 3= .sc (.int .i64 n)∧k≤values.length∧c=values.length-k∧nV=argSumV n (values.drop k)) values.length ?_ ?_
   ·simp only[undef,am0,am1,am2,am3,amb0,amb1,amb2,amb3,amb4,lwn,drn,callee,wantedB,isW,eff,pev,pst0,retPost,resAll,resP,resV,intP,mkV,putC,pbin,sbin,strsEq,peq,pint,pshift,pstr,pun,pconv,isShift,isConstB,app,subS,lay,rowsOf,lkV,keyKind,keyEq,mfind,mput,oInt,isZeroInt,forall_const,exists_eq_left',implies_true,IntKind.bits, ↓reduceIte,Nat.reduceEqDiff,Nat.reduceAdd,Nat.reduceSub,Nat.reduceMul,Nat.reduceLT,Nat.reduceLeDiff,Nat.reduceBEq,Int.reduceLE,Int.reduceLT,Int.reduceToNat,reduceCtorEq,g1,g3,hC2]
    exact⟨0,nA,rfl,rfl,by omega,rfl,by rw[← hNV];try rfl⟩
   ·clear g1 g3
    rintro c S h2 ⟨rfl,g1,k,n,g5,g3,hk,rfl,hinv⟩
    rw[hC2]at g1
    by_cases hlt:k<values.length
    ·have hd:decide ((k:Int)<(values.length:Int))=true:=by simp;omega
     have w7:IntKind.i64.wrap ((k:Int)+1)=k+1:=by rw[wrap64 (by omega) (by omega)]
     obtain⟨a,hx⟩: ∃ a,values[k]? =some a:=⟨_,List.getElem?_eq_getElem hlt⟩
     have hr:=vlRows_get hx
     have hls:=strRows_len a.at_.args
     rw[drop_of_get hx]at hinv
     simp only[argSumV]at hinv
     repeat'(first
      |refine a_seq fun K hK=>?_
      |(refine a_block ?_)
      |((first|refine a_regionS ?_|refine a_region (fun K hK=>?_)|refine a_ret ?_);simp(maxSteps:=2000000) only[undef,am0,am1,am2,am3,amb0,amb1,amb2,amb3,amb4,lwn,drn,callee,wantedB,isW,eff,pev,pst0,retPost,resAll,resP,resV,intP,mkV,putC,pbin,sbin,strsEq,peq,pint,pshift,pstr,pun,pconv,isShift,isConstB,app,subS,lay,rowsOf,lkV,keyKind,keyEq,mfind,mput,oInt,isZeroInt,forall_const,exists_eq_left',implies_true,IntKind.bits, ↓reduceIte,Nat.reduceEqDiff,Nat.reduceAdd,Nat.reduceSub,Nat.reduceMul,Nat.reduceLT,Nat.reduceLeDiff,Nat.reduceBEq,Int.reduceLE,Int.reduceLT,Int.reduceToNat,reduceCtorEq,Ty.all,g1,g3,g5,hlv,hd,hr,hls,w7])
      |(refine a_skip ?_;try simp only[pst0, ↓reduceIte,Nat.reduceEqDiff])
      |(refine a_exit ?_;try simp only[pst0, ↓reduceIte,Nat.reduceEqDiff])
      |(refine a_cond _ (by(try simp(maxSteps:=2000000) only[undef,am0,am1,am2,am3,amb0,amb1,amb2,amb3,amb4,lwn,drn,callee,wantedB,isW,eff,pev,pst0,retPost,resAll,resP,resV,intP,mkV,putC,pbin,sbin,strsEq,peq,pint,pshift,pstr,pun,pconv,isShift,isConstB,app,subS,lay,rowsOf,lkV,keyKind,keyEq,mfind,mput,oInt,isZeroInt,forall_const,exists_eq_left',implies_true,IntKind.bits, ↓reduceIte,Nat.reduceEqDiff,Nat.reduceAdd,Nat.reduceSub,Nat.reduceMul,Nat.reduceLT,Nat.reduceLeDiff,Nat.reduceBEq,Int.reduceLE,Int.reduceLT,Int.reduceToNat,reduceCtorEq,Ty.all,g1,g3,g5,hlv,hd,hr,hls,w7]);rfl) (fun hb=>?_) (fun hb=>?_)<;>(try simp only[hb0,decide_eq_true_eq,decide_eq_false_iff_not,reduceCtorEq]at hb)<;>(try(exfalso;omega)))
      |(with_reducible refine ite_in (fun hb=>?_) (fun hb=>?_)<;>(try simp only[Decidable.not_not]at hb)<;>(try simp only[hb,if_true,if_false,not_false_eq_true,not_true_eq_false, ↓reduceIte])<;>(try simp only[hb0,decide_eq_true_eq,decide_eq_false_iff_not,reduceCtorEq]at hb)<;>(try(exfalso;omega)))
      |(refine hK _ _ ?_;clear hK;try simp only[pst0, ↓reduceIte,Nat.reduceEqDiff])
      |(clear hK;refine hK _ _ ?_;clear hK;try simp only[pst0, ↓reduceIte,Nat.reduceEqDiff])
      |(clear hK;clear hK;refine hK _ _ ?_;clear hK;try simp only[pst0, ↓reduceIte,Nat.reduceEqDiff])
      |(clear hK;clear hK;clear hK;refine hK _ _ ?_;clear hK;try simp only[pst0, ↓reduceIte,Nat.reduceEqDiff])
      |(rw[if_pos];rotate_left 1;omega;simp(maxSteps:=2000000) only[undef,am0,am1,am2,am3,amb0,amb1,amb2,amb3,amb4,lwn,drn,callee,wantedB,isW,eff,pev,pst0,retPost,resAll,resP,resV,intP,mkV,putC,pbin,sbin,strsEq,peq,pint,pshift,pstr,pun,pconv,isShift,isConstB,app,subS,lay,rowsOf,lkV,keyKind,keyEq,mfind,mput,oInt,isZeroInt,forall_const,exists_eq_left',implies_true,IntKind.bits, ↓reduceIte,Nat.reduceEqDiff,Nat.reduceAdd,Nat.reduceSub,Nat.reduceMul,Nat.reduceLT,Nat.reduceLeDiff,Nat.reduceBEq,Int.reduceLE,Int.reduceLT,Int.reduceToNat,reduceCtorEq,Ty.all,g1,g3,g5,hlv,hd,hr,hls,w7]))
     exact⟨values.length-(k+1),by omega,by rw[hC2],k+1,_,by simp,rfl,by omega,rfl,hinv⟩
    ·have hd:decide ((k:Int)<(values.length:Int))=false:=by simp;omega
     rw[List.drop_eq_nil_of_le (by omega)]at hinv
     simp only[argSumV]at hinv
     repeat'(first
      |refine a_seq fun K hK=>?_
      |(refine a_block ?_)
      |((first|refine a_regionS ?_|refine a_region (fun K hK=>?_)|refine a_ret ?_);simp(maxSteps:=2000000) only[undef,am0,am1,am2,am3,amb0,amb1,amb2,amb3,amb4,lwn,drn,callee,wantedB,isW,eff,pev,pst0,retPost,resAll,resP,resV,intP,mkV,putC,pbin,sbin,strsEq,peq,pint,pshift,pstr,pun,pconv,isShift,isConstB,app,subS,lay,rowsOf,lkV,keyKind,keyEq,mfind,mput,oInt,isZeroInt,forall_const,exists_eq_left',implies_true,IntKind.bits, ↓reduceIte,Nat.reduceEqDiff,Nat.reduceAdd,Nat.reduceSub,Nat.reduceMul,Nat.reduceLT,Nat.reduceLeDiff,Nat.reduceBEq,Int.reduceLE,Int.reduceLT,Int.reduceToNat,reduceCtorEq,Ty.all,g1,g3,g5,hlv,hd])
      |(refine a_skip ?_;try simp only[pst0, ↓reduceIte,Nat.reduceEqDiff])
      |(refine a_exit ?_;try simp only[pst0, ↓reduceIte,Nat.reduceEqDiff])
      |(refine a_cond _ (by(try simp(maxSteps:=2000000) only[undef,am0,am1,am2,am3,amb0,amb1,amb2,amb3,amb4,lwn,drn,callee,wantedB,isW,eff,pev,pst0,retPost,resAll,resP,resV,intP,mkV,putC,pbin,sbin,strsEq,peq,pint,pshift,pstr,pun,pconv,isShift,isConstB,app,subS,lay,rowsOf,lkV,keyKind,keyEq,mfind,mput,oInt,isZeroInt,forall_const,exists_eq_left',implies_true,IntKind.bits, ↓reduceIte,Nat.reduceEqDiff,Nat.reduceAdd,Nat.reduceSub,Nat.reduceMul,Nat.reduceLT,Nat.reduceLeDiff,Nat.reduceBEq,Int.reduceLE,Int.reduceLT,Int.reduceToNat,reduceCtorEq,Ty.all,g1,g3,g5,hlv,hd]);rfl) (fun hb=>?_) (fun hb=>?_)<;>(try simp only[hb0,decide_eq_true_eq,decide_eq_false_iff_not,reduceCtorEq]at hb)<;>(try(exfalso;omega)))
      |(with_reducible refine ite_in (fun hb=>?_) (fun hb=>?_)<;>(try simp only[Decidable.not_not]at hb)<;>(try simp only[hb,if_true,if_false,not_false_eq_true,not_true_eq_false, ↓reduceIte])<;>(try simp only[hb0,decide_eq_true_eq,decide_eq_false_iff_not,reduceCtorEq]at hb)<;>(try(exfalso;omega)))
      |(refine hK _ _ ?_;clear hK;try simp only[pst0, ↓reduceIte,Nat.reduceEqDiff])
      |(clear hK;refine hK _ _ ?_;clear hK;try simp only[pst0, ↓reduceIte,Nat.reduceEqDiff])
      |(clear hK;clear hK;refine hK _ _ ?_;clear hK;try simp only[pst0, ↓reduceIte,Nat.reduceEqDiff])
      |(clear hK;clear hK;clear hK;refine hK _ _ ?_;clear hK;try simp only[pst0, ↓reduceIte,Nat.reduceEqDiff])
      |(rw[if_pos];rotate_left 1;omega;simp(maxSteps:=2000000) only[undef,am0,am1,am2,am3,amb0,amb1,amb2,amb3,amb4,lwn,drn,callee,wantedB,isW,eff,pev,pst0,retPost,resAll,resP,resV,intP,mkV,putC,pbin,sbin,strsEq,peq,pint,pshift,pstr,pun,pconv,isShift,isConstB,app,subS,lay,rowsOf,lkV,keyKind,keyEq,mfind,mput,oInt,isZeroInt,forall_const,exists_eq_left',implies_true,IntKind.bits, ↓reduceIte,Nat.reduceEqDiff,Nat.reduceAdd,Nat.reduceSub,Nat.reduceMul,Nat.reduceLT,Nat.reduceLeDiff,Nat.reduceBEq,Int.reduceLE,Int.reduceLT,Int.reduceToNat,reduceCtorEq,Ty.all,g1,g3,g5,hlv,hd]))
     simp only[undef,am0,am1,am2,am3,amb0,amb1,amb2,amb3,amb4,lwn,drn,callee,wantedB,isW,eff,pev,pst0,retPost,resAll,resP,resV,intP,mkV,putC,pbin,sbin,strsEq,peq,pint,pshift,pstr,pun,pconv,isShift,isConstB,app,subS,lay,rowsOf,lkV,keyKind,keyEq,mfind,mput,oInt,isZeroInt,forall_const,exists_eq_left',implies_true,IntKind.bits, ↓reduceIte,Nat.reduceEqDiff,Nat.reduceAdd,Nat.reduceSub,Nat.reduceMul,Nat.reduceLT,Nat.reduceLeDiff,Nat.reduceBEq,Int.reduceLE,Int.reduceLT,Int.reduceToNat,reduceCtorEq,g1,g3,hinv,hC2]
  ·clear g1 g3
   rintro S h2 ⟨rfl,g1,g3⟩
   rw[hC2]at g1
   cases l1:decide (nV>1000)with
   |true=>
    repeat'(first
     |refine a_seq fun K hK=>?_
     |(refine a_block ?_)
     |((first|refine a_regionS ?_|refine a_region (fun K hK=>?_)|refine a_ret ?_);simp(maxSteps:=2000000) only[undef,am0,am1,am2,am3,amb0,amb1,amb2,amb3,amb4,lwn,drn,callee,wantedB,isW,eff,pev,pst0,retPost,resAll,resP,resV,intP,mkV,putC,pbin,sbin,strsEq,peq,pint,pshift,pstr,pun,pconv,isShift,isConstB,app,subS,lay,rowsOf,lkV,keyKind,keyEq,mfind,mput,oInt,isZeroInt,forall_const,exists_eq_left',implies_true,IntKind.bits, ↓reduceIte,Nat.reduceEqDiff,Nat.reduceAdd,Nat.reduceSub,Nat.reduceMul,Nat.reduceLT,Nat.reduceLeDiff,Nat.reduceBEq,Int.reduceLE,Int.reduceLT,Int.reduceToNat,reduceCtorEq,Ty.all,g1,g3,l1])
     |(refine a_skip ?_;try simp only[pst0, ↓reduceIte,Nat.reduceEqDiff])
     |(refine a_exit ?_;try simp only[pst0, ↓reduceIte,Nat.reduceEqDiff])
     |(refine a_cond _ (by(try simp(maxSteps:=2000000) only[undef,am0,am1,am2,am3,amb0,amb1,amb2,amb3,amb4,lwn,drn,callee,wantedB,isW,eff,pev,pst0,retPost,resAll,resP,resV,intP,mkV,putC,pbin,sbin,strsEq,peq,pint,pshift,pstr,pun,pconv,isShift,isConstB,app,subS,lay,rowsOf,lkV,keyKind,keyEq,mfind,mput,oInt,isZeroInt,forall_const,exists_eq_left',implies_true,IntKind.bits, ↓reduceIte,Nat.reduceEqDiff,Nat.reduceAdd,Nat.reduceSub,Nat.reduceMul,Nat.reduceLT,Nat.reduceLeDiff,Nat.reduceBEq,Int.reduceLE,Int.reduceLT,Int.reduceToNat,reduceCtorEq,Ty.all,g1,g3,l1]);rfl) (fun hb=>?_) (fun hb=>?_)<;>(try simp only[hb0,decide_eq_true_eq,decide_eq_false_iff_not,reduceCtorEq]at hb)<;>(try(exfalso;omega)))
     |(with_reducible refine ite_in (fun hb=>?_) (fun hb=>?_)<;>(try simp only[Decidable.not_not]at hb)<;>(try simp only[hb,if_true,if_false,not_false_eq_true,not_true_eq_false, ↓reduceIte])<;>(try simp only[hb0,decide_eq_true_eq,decide_eq_false_iff_not,reduceCtorEq]at hb)<;>(try(exfalso;omega)))
     |(refine hK _ _ ?_;clear hK;try simp only[pst0, ↓reduceIte,Nat.reduceEqDiff])
     |(clear hK;refine hK _ _ ?_;clear hK;try simp only[pst0, ↓reduceIte,Nat.reduceEqDiff])
     |(clear hK;clear hK;refine hK _ _ ?_;clear hK;try simp only[pst0, ↓reduceIte,Nat.reduceEqDiff])
     |(clear hK;clear hK;clear hK;refine hK _ _ ?_;clear hK;try simp only[pst0, ↓reduceIte,Nat.reduceEqDiff])
     |(rw[if_pos];rotate_left 1;omega;simp(maxSteps:=2000000) only[undef,am0,am1,am2,am3,amb0,amb1,amb2,amb3,amb4,lwn,drn,callee,wantedB,isW,eff,pev,pst0,retPost,resAll,resP,resV,intP,mkV,putC,pbin,sbin,strsEq,peq,pint,pshift,pstr,pun,pconv,isShift,isConstB,app,subS,lay,rowsOf,lkV,keyKind,keyEq,mfind,mput,oInt,isZeroInt,forall_const,exists_eq_left',implies_true,IntKind.bits, ↓reduceIte,Nat.reduceEqDiff,Nat.reduceAdd,Nat.reduceSub,Nat.reduceMul,Nat.reduceLT,Nat.reduceLeDiff,Nat.reduceBEq,Int.reduceLE,Int.reduceLT,Int.reduceToNat,reduceCtorEq,Ty.all,g1,g3,l1]))
    all_goals simp only[Bool.true_or]
   |false=>
    repeat'(first
     |refine a_seq fun K hK=>?_
     |(refine a_block ?_)
     |((first|refine a_regionS ?_|refine a_region (fun K hK=>?_)|refine a_ret ?_);simp(maxSteps:=2000000) only[undef,am0,am1,am2,am3,amb0,amb1,amb2,amb3,amb4,lwn,drn,callee,wantedB,isW,eff,pev,pst0,retPost,resAll,resP,resV,intP,mkV,putC,pbin,sbin,strsEq,peq,pint,pshift,pstr,pun,pconv,isShift,isConstB,app,subS,lay,rowsOf,lkV,keyKind,keyEq,mfind,mput,oInt,isZeroInt,forall_const,exists_eq_left',implies_true,IntKind.bits, ↓reduceIte,Nat.reduceEqDiff,Nat.reduceAdd,Nat.reduceSub,Nat.reduceMul,Nat.reduceLT,Nat.reduceLeDiff,Nat.reduceBEq,Int.reduceLE,Int.reduceLT,Int.reduceToNat,reduceCtorEq,Ty.all,g1,g3,l1])
     |(refine a_skip ?_;try simp only[pst0, ↓reduceIte,Nat.reduceEqDiff])
     |(refine a_exit ?_;try simp only[pst0, ↓reduceIte,Nat.reduceEqDiff])
     |(refine a_cond _ (by(try simp(maxSteps:=2000000) only[undef,am0,am1,am2,am3,amb0,amb1,amb2,amb3,amb4,lwn,drn,callee,wantedB,isW,eff,pev,pst0,retPost,resAll,resP,resV,intP,mkV,putC,pbin,sbin,strsEq,peq,pint,pshift,pstr,pun,pconv,isShift,isConstB,app,subS,lay,rowsOf,lkV,keyKind,keyEq,mfind,mput,oInt,isZeroInt,forall_const,exists_eq_left',implies_true,IntKind.bits, ↓reduceIte,Nat.reduceEqDiff,Nat.reduceAdd,Nat.reduceSub,Nat.reduceMul,Nat.reduceLT,Nat.reduceLeDiff,Nat.reduceBEq,Int.reduceLE,Int.reduceLT,Int.reduceToNat,reduceCtorEq,Ty.all,g1,g3,l1]);rfl) (fun hb=>?_) (fun hb=>?_)<;>(try simp only[hb0,decide_eq_true_eq,decide_eq_false_iff_not,reduceCtorEq]at hb)<;>(try(exfalso;omega)))
     |(with_reducible refine ite_in (fun hb=>?_) (fun hb=>?_)<;>(try simp only[Decidable.not_not]at hb)<;>(try simp only[hb,if_true,if_false,not_false_eq_true,not_true_eq_false, ↓reduceIte])<;>(try simp only[hb0,decide_eq_true_eq,decide_eq_false_iff_not,reduceCtorEq]at hb)<;>(try(exfalso;omega)))
     |(refine hK _ _ ?_;clear hK;try simp only[pst0, ↓reduceIte,Nat.reduceEqDiff])
     |(clear hK;refine hK _ _ ?_;clear hK;try simp only[pst0, ↓reduceIte,Nat.reduceEqDiff])
     |(clear hK;clear hK;refine hK _ _ ?_;clear hK;try simp only[pst0, ↓reduceIte,Nat.reduceEqDiff])
     |(clear hK;clear hK;clear hK;refine hK _ _ ?_;clear hK;try simp only[pst0, ↓reduceIte,Nat.reduceEqDiff])
     |(rw[if_pos];rotate_left 1;omega;simp(maxSteps:=2000000) only[undef,am0,am1,am2,am3,amb0,amb1,amb2,amb3,amb4,lwn,drn,callee,wantedB,isW,eff,pev,pst0,retPost,resAll,resP,resV,intP,mkV,putC,pbin,sbin,strsEq,peq,pint,pshift,pstr,pun,pconv,isShift,isConstB,app,subS,lay,rowsOf,lkV,keyKind,keyEq,mfind,mput,oInt,isZeroInt,forall_const,exists_eq_left',implies_true,IntKind.bits, ↓reduceIte,Nat.reduceEqDiff,Nat.reduceAdd,Nat.reduceSub,Nat.reduceMul,Nat.reduceLT,Nat.reduceLeDiff,Nat.reduceBEq,Int.reduceLE,Int.reduceLT,Int.reduceToNat,reduceCtorEq,Ty.all,g1,g3,l1]))
    refine owp_useQ (hz _) (by(try simp only[undef,am0,am1,am2,am3,amb0,amb1,amb2,amb3,amb4,lwn,drn,callee,wantedB,isW,eff,pev,pst0,retPost,resAll,resP,resV,intP,mkV,putC,pbin,sbin,strsEq,peq,pint,pshift,pstr,pun,pconv,isShift,isConstB,app,subS,lay,rowsOf,lkV,keyKind,keyEq,mfind,mput,oInt,isZeroInt,forall_const,exists_eq_left',implies_true,IntKind.bits, ↓reduceIte,Nat.reduceEqDiff,Nat.reduceAdd,Nat.reduceSub,Nat.reduceMul,Nat.reduceLT,Nat.reduceLeDiff,Nat.reduceBEq,Int.reduceLE,Int.reduceLT,Int.reduceToNat,reduceCtorEq,g1,g3,l1]);try rfl) ?_
    simp(maxSteps:=2000000) only[undef,am0,am1,am2,am3,amb0,amb1,amb2,amb3,amb4,lwn,drn,callee,wantedB,isW,eff,pev,pst0,retPost,resAll,resP,resV,intP,mkV,putC,pbin,sbin,strsEq,peq,pint,pshift,pstr,pun,pconv,isShift,isConstB,app,subS,lay,rowsOf,lkV,keyKind,keyEq,mfind,mput,oInt,isZeroInt,forall_const,exists_eq_left',implies_true,IntKind.bits, ↓reduceIte,Nat.reduceEqDiff,Nat.reduceAdd,Nat.reduceSub,Nat.reduceMul,Nat.reduceLT,Nat.reduceLeDiff,Nat.reduceBEq,Int.reduceLE,Int.reduceLT,Int.reduceToNat,reduceCtorEq,Ty.all,g1,g3,l1]
    repeat'(first
     |refine a_seq fun K hK=>?_
     |(refine a_block ?_)
     |((first|refine a_regionS ?_|refine a_region (fun K hK=>?_)|refine a_ret ?_);simp(maxSteps:=2000000) only[undef,am0,am1,am2,am3,amb0,amb1,amb2,amb3,amb4,lwn,drn,callee,wantedB,isW,eff,pev,pst0,retPost,resAll,resP,resV,intP,mkV,putC,pbin,sbin,strsEq,peq,pint,pshift,pstr,pun,pconv,isShift,isConstB,app,subS,lay,rowsOf,lkV,keyKind,keyEq,mfind,mput,oInt,isZeroInt,forall_const,exists_eq_left',implies_true,IntKind.bits, ↓reduceIte,Nat.reduceEqDiff,Nat.reduceAdd,Nat.reduceSub,Nat.reduceMul,Nat.reduceLT,Nat.reduceLeDiff,Nat.reduceBEq,Int.reduceLE,Int.reduceLT,Int.reduceToNat,reduceCtorEq,Ty.all,g1,g3,l1])
     |(refine a_skip ?_;try simp only[pst0, ↓reduceIte,Nat.reduceEqDiff])
     |(refine a_exit ?_;try simp only[pst0, ↓reduceIte,Nat.reduceEqDiff])
     |(refine a_cond _ (by(try simp(maxSteps:=2000000) only[undef,am0,am1,am2,am3,amb0,amb1,amb2,amb3,amb4,lwn,drn,callee,wantedB,isW,eff,pev,pst0,retPost,resAll,resP,resV,intP,mkV,putC,pbin,sbin,strsEq,peq,pint,pshift,pstr,pun,pconv,isShift,isConstB,app,subS,lay,rowsOf,lkV,keyKind,keyEq,mfind,mput,oInt,isZeroInt,forall_const,exists_eq_left',implies_true,IntKind.bits, ↓reduceIte,Nat.reduceEqDiff,Nat.reduceAdd,Nat.reduceSub,Nat.reduceMul,Nat.reduceLT,Nat.reduceLeDiff,Nat.reduceBEq,Int.reduceLE,Int.reduceLT,Int.reduceToNat,reduceCtorEq,Ty.all,g1,g3,l1]);rfl) (fun hb=>?_) (fun hb=>?_)<;>(try simp only[hb0,decide_eq_true_eq,decide_eq_false_iff_not,reduceCtorEq]at hb)<;>(try(exfalso;omega)))
     |(with_reducible refine ite_in (fun hb=>?_) (fun hb=>?_)<;>(try simp only[Decidable.not_not]at hb)<;>(try simp only[hb,if_true,if_false,not_false_eq_true,not_true_eq_false, ↓reduceIte])<;>(try simp only[hb0,decide_eq_true_eq,decide_eq_false_iff_not,reduceCtorEq]at hb)<;>(try(exfalso;omega)))
     |(refine hK _ _ ?_;clear hK;try simp only[pst0, ↓reduceIte,Nat.reduceEqDiff])
     |(clear hK;refine hK _ _ ?_;clear hK;try simp only[pst0, ↓reduceIte,Nat.reduceEqDiff])
     |(clear hK;clear hK;refine hK _ _ ?_;clear hK;try simp only[pst0, ↓reduceIte,Nat.reduceEqDiff])
     |(clear hK;clear hK;clear hK;refine hK _ _ ?_;clear hK;try simp only[pst0, ↓reduceIte,Nat.reduceEqDiff])
     |(rw[if_pos];rotate_left 1;omega;simp(maxSteps:=2000000) only[undef,am0,am1,am2,am3,amb0,amb1,amb2,amb3,amb4,lwn,drn,callee,wantedB,isW,eff,pev,pst0,retPost,resAll,resP,resV,intP,mkV,putC,pbin,sbin,strsEq,peq,pint,pshift,pstr,pun,pconv,isShift,isConstB,app,subS,lay,rowsOf,lkV,keyKind,keyEq,mfind,mput,oInt,isZeroInt,forall_const,exists_eq_left',implies_true,IntKind.bits, ↓reduceIte,Nat.reduceEqDiff,Nat.reduceAdd,Nat.reduceSub,Nat.reduceMul,Nat.reduceLT,Nat.reduceLeDiff,Nat.reduceBEq,Int.reduceLE,Int.reduceLT,Int.reduceToNat,reduceCtorEq,Ty.all,g1,g3,l1]))
    all_goals simp only[Bool.false_or]
end Go.Proofs.Ytdekkbdlcblhcaa
namespace Go.AM
def mnO:Option Nat→Option Nat→Option Nat
 |none,b=>b
 |some a,none=>some a
 |some a,some b=>if a≤b then some a else some b
def Tch(q:Option Nat)(h h':Heap):Prop:=match q with
 |none=>h'=h
 |some m=>h.next≤h'.next∧ ∀ id,id<m→h'.obj id=h.obj id
theorem Tch.trans{q q':Option Nat}{h h1 h':Heap}(a:Tch q h h1)(b:Tch q' h1 h'):Tch (mnO q q') h h':=by
 cases q with
 |none=>simp only[Tch]at a;subst a;simpa only[mnO]using b
 |some m=>
  cases q' with
  |none=>simp only[Tch]at b;subst b;simpa only[mnO]using a
  |some m'=>
   simp only[Tch]at a b
   simp only[mnO]
   split<;>simp only[Tch]<;>refine⟨by omega,fun id hid=>?_⟩
   ·rw [b.2 id (by omega),a.2 id hid]
   ·rw [b.2 id hid,a.2 id (by omega)]
def ptrOf:PV→Nat
 | .ptr id _ _=>id
 |_=>0
def mapOf:PV→Nat
 | .mp id=>id
 |_=>0
def ownOf(n:Nat):PV→Nat
 | .own id _ _=>if id≤n then id else n
 |_=>n
def tchO(op:Op)(ρ:Operand→PV)(h:Heap):Nat:=match op with
 | .store _ a _=>ptrOf (ρ a)
 | .mapUpdate _ x _ _=>mapOf (ρ x)
 | .call {callee:= .builtin .append,args:=args,.. }=>(match args.toList with
  |x::_=>ownOf h.next (ρ x)
  |[]=>0)
 | .call {callee:= .builtin .clear,args:=args,.. }=>(match args.toList with
  |x::_=>ownOf h.next (ρ x)
  |[]=>0)
 |_=>h.next
theorem tch_new{h:Heap}{o:AObj}:Tch (some h.next) h (h.new o):=by
 simp only[Tch,new_next]
 exact⟨by omega,fun id hid=>by rw[new_obj,if_neg (by omega)]⟩
theorem tch_set{h:Heap}{i:Nat}{o:AObj}:Tch (some i) h (h.set i o):=by
 simp only[Tch,set_next]
 exact⟨by omega,fun id hid=>by rw[set_obj,if_neg (by omega)]⟩
theorem tch_id{h:Heap}{m:Nat}:Tch (some m) h h:=⟨Nat.le_refl _,fun _ _=>rfl⟩
theorem app_tch{z bytes:Nat}{h h':Heap}{x y v:PV}(ha:app z bytes h x y=some (v,h')):Tch (some (ownOf h.next x)) h h':=by
 unfold app at ha
 split at ha
 case isFalse=>simp at ha
 split at ha
 case h_2=>simp at ha
 rename_i nw h1 old hv ht
 split at ha
 case isFalse=>simp at ha
 simp only[Option.some.injEq,Prod.mk.injEq]at ha
 obtain⟨_,rfl⟩:=ha
 unfold isTail at ht
 split at ht
 ·simp only[Option.some.injEq,Prod.mk.injEq]at ht;obtain⟨rfl,rfl⟩:=ht;exact tch_new
 ·simp only[Option.some.injEq,Prod.mk.injEq]at ht;obtain⟨rfl,rfl⟩:=ht;exact tch_new
 ·split at ht
  case h_2=>simp at ht
  split at ht
  case isFalse=>simp at ht
  simp only[Option.some.injEq,Prod.mk.injEq]at ht;obtain⟨rfl,rfl⟩:=ht
  simp only[Tch,new_next,kill_next,ownOf]
  refine⟨by omega,fun id hid=>?_⟩
  rw[new_obj,kill_next]
  split at hid
  ·rw [if_neg (by omega),kill_obj,if_neg (by omega)]
  ·rw [if_neg (by omega),kill_obj,if_neg (by omega)]
 ·simp at ht
theorem wr_tch{h h':Heap}{vc:List PV}{p:PV}(hw:wr h vc p=some h'):Tch (some (ptrOf p)) h h':=by
 cases p with
 |ptr id i f=>
  simp only[wr]at hw
  split at hw
  ·split at hw
   ·split at hw
    ·simp at hw;subst hw;exact tch_set
    ·simp at hw
   ·simp at hw
  ·simp at hw
 |_=>simp[wr]at hw
theorem clr_tch{z:Nat}{zr:List PV}{h h':Heap}{x:PV}(hc:clr h z zr x=some h'):Tch (some (ownOf h.next x)) h h':=by
 unfold clr at hc
 split at hc
 ·split at hc
  case h_2=>simp at hc
  split at hc
  case isFalse=>simp at hc
  simp only[Option.some.injEq]at hc
  subst hc
  simp only[Tch,set_next,ownOf]
  refine⟨Nat.le_refl _,fun id hid=>?_⟩
  rw[set_obj]
  split at hid
  ·rw [if_neg (by omega)]
  ·rw [if_neg (by omega)]
 ·simp only[Option.some.injEq]at hc;subst hc;exact tch_id
 ·simp only[Option.some.injEq]at hc;subst hc;exact tch_id
 ·simp at hc
theorem eff_tch{P:Program}{ow:Bool}{op:Op}{ρ:Operand→PV}{h h':Heap}{v:PV}(he:eff P ow op ρ h=some (v,h')):Tch (some (tchO op ρ h)) h h':=by
  unfold eff at he
  split at he
  all_goals(repeat'(split at he))
  all_goals first
    |(simp[Option.bind_eq_some_iff,Option.map_eq_some_iff]at he;done)
    |(simp only[Option.some.injEq,Prod.mk.injEq]at he;obtain⟨_,rfl⟩:=he;exact tch_id)
    |(simp only[Option.some.injEq,Prod.mk.injEq]at he;obtain⟨_,rfl⟩:=he;exact tch_new)
    |(simp only[Option.map_eq_some_iff,Prod.mk.injEq]at he;obtain⟨_,_,_,rfl⟩:=he;exact tch_id)
    |(simp[Option.bind_eq_some_iff,Option.map_eq_some_iff]at he;grind [tch_id,tch_new,tch_set])
    | (simp only [Option.bind_eq_some_iff] at he
       obtain⟨_,_,he⟩:=he
       (first
         | (split at he
            · simp only[Option.some.injEq,Prod.mk.injEq]at he;obtain⟨_,rfl⟩:=he;exact tch_new
            · simp at he)
         | (obtain ⟨_, _, he⟩ := he
            split at he
            · simp only [Option.bind_eq_some_iff] at he
              obtain⟨_,_,he⟩:=he
              simp only[Option.some.injEq,Prod.mk.injEq]at he;obtain⟨_,rfl⟩:=he;exact tch_new
            · simp at he)
         | (obtain ⟨_, _, _, _, _, _, he⟩ := he
            split at he
            · simp only[Option.some.injEq,Prod.mk.injEq]at he;obtain⟨_,rfl⟩:=he;exact tch_new
            · simp at he)
         | (split at he
            · simp only [Option.map_eq_some_iff, Prod.mk.injEq] at he
              obtain⟨_,hw,_,rfl⟩:=he
              exact wr_tch hw
            · simp at he)))
    |skip
  · rename_i hid _ _ _ _
    simp only[Option.bind_eq_some_iff]at he
    obtain⟨_,_,he⟩:=he
    split at he
    · simp only [Option.map_eq_some_iff, Prod.mk.injEq] at he
      obtain⟨es',_,_,rfl⟩:=he
      simp only[tchO]
      simp only[*,mapOf]
      exact tch_set
    · simp at he
  · rename_i hl htu
    simp only[Option.bind_eq_some_iff]at he
    obtain⟨_,_,he⟩:=he
    have:=app_tch he
    simp only[tchO]
    simp only[*]
  · simp only [Option.bind_eq_some_iff] at he
    obtain⟨_,_,_,_,he⟩:=he
    split at he
    case isFalse=>simp at he
    simp only[Option.map_eq_some_iff,Prod.mk.injEq]at he
    obtain⟨_,hc,_,rfl⟩:=he
    have:=clr_tch hc
    simp only[tchO]
    simp only[*]
mutual
def inNb(n:Nat):PV→Bool
 | .sc _=>true
 | .ptr id _ _=>decide (id<n)
 | .cptr cs=>inNLb n cs
 | .own id _ _=>decide (id<n)
 | .imm _ rows=>inNRb n rows
 | .emp=>true
 | .mp id=>decide (id<n)
 | .agg cs=>inNLb n cs
 | .tup cs=>inNLb n cs
 | .fn _ a b=>inNLb n a&&inNLb n b
 | .ab _ _ _ _ _=>true
def inNLb(n:Nat):List PV→Bool
 |[]=>true
 |p::ps=>inNb n p&&inNLb n ps
def inNRb(n:Nat):List (List PV)→Bool
 |[]=>true
 |r::rs=>inNLb n r&&inNRb n rs
end
mutual
theorem inNb_ok{n:Nat}:(p:PV)→inNb n p=true→inN n p
 | .sc _,_=>by simp only[inN]
 | .ptr _ _ _,h=>by simp only[inNb,decide_eq_true_eq]at h;simpa only[inN]using h
 | .cptr cs,h=>by simp only[inNb]at h;simp only[inN];exact inNLb_ok cs h
 | .own _ _ _,h=>by simp only[inNb,decide_eq_true_eq]at h;simpa only[inN]using h
 | .imm _ rows,h=>by simp only[inNb]at h;simp only[inN];exact inNRb_ok rows h
 | .emp,_=>by simp only[inN]
 | .mp _,h=>by simp only[inNb,decide_eq_true_eq]at h;simpa only[inN]using h
 | .agg cs,h=>by simp only[inNb]at h;simp only[inN];exact inNLb_ok cs h
 | .tup cs,h=>by simp only[inNb]at h;simp only[inN];exact inNLb_ok cs h
 | .fn _ a b,h=>by simp only[inNb,Bool.and_eq_true]at h;simp only[inN];exact⟨inNLb_ok a h.1,inNLb_ok b h.2⟩
 | .ab _ _ _ _ _,_=>by simp only[inN]
theorem inNLb_ok{n:Nat}:(l:List PV)→inNLb n l=true→inNL n l
 |[],_=>by simp only[inNL]
 |p::ps,h=>by simp only[inNLb,Bool.and_eq_true]at h;simp only[inNL];exact⟨inNb_ok p h.1,inNLb_ok ps h.2⟩
theorem inNRb_ok{n:Nat}:(l:List (List PV))→inNRb n l=true→inNR n l
 |[],_=>by simp only[inNR]
 |p::ps,h=>by simp only[inNRb,Bool.and_eq_true]at h;simp only[inNR];exact⟨inNLb_ok p h.1,inNRb_ok ps h.2⟩
end
mutual
def frzP(h':Heap)(n:Nat):Nat→PV→Option PV
 |0,_=>none
 |k+1,p=>match p with
  | .sc v=>some (.sc v)
  | .ptr id i f=>if id<n then some (.ptr id i f)else match h'.obj id with
   |some (.arr _ rows)=>(match rows[i]? with
    |some q=>(frzL h' n k (q.drop f)).map .cptr
    |none=>none)
   |_=>none
  | .own id off len=>if id<n then some (.own id off len)else match h'.obj id with
   |some (.arr z rows)=>if off+len≤rows.length then(frzR h' n k ((rows.drop off).take len)).map (.imm z)else none
   |_=>none
  | .imm z rows=>if inNRb n rows=true then some (.imm z rows)else none
  | .cptr cs=>if inNLb n cs=true then some (.cptr cs)else none
  | .emp=>some .emp
  | .mp id=>if id<n then some (.mp id)else none
  | .agg cs=>(frzL h' n k cs).map .agg
  | .tup cs=>(frzL h' n k cs).map .tup
  | .fn f a b=>if(inNLb n a&&inNLb n b)=true then some (.fn f a b)else none
  | .ab k lo hi m r=>some (.ab k lo hi m r)
def frzL(h':Heap)(n:Nat):Nat→List PV→Option (List PV)
 |0,_=>none
 |_+1,[]=>some []
 |k+1,p::ps=>match frzP h' n k p with
  |some q=>(frzL h' n k ps).map (q::·)
  |none=>none
def frzR(h':Heap)(n:Nat):Nat→List (List PV)→Option (List (List PV))
 |0,_=>none
 |_+1,[]=>some []
 |k+1,p::ps=>match frzL h' n k p with
  |some q=>(frzR h' n k ps).map (q::·)
  |none=>none
end
mutual
theorem frzP_ok{h':Heap}{n:Nat}: ∀ (k:Nat)(p:PV){r:PV},frzP h' n k p=some r→FrzTo n h' r p
 |0,_,_,h=>by simp[frzP]at h
 |k+1,p,r,h=>by
  unfold frzP at h
  split at h
  ·simp at h;subst h;simp only[FrzTo]
  ·split at h
   ·rename_i hid;simp at h;subst h;simp only[FrzTo];exact⟨trivial,hid⟩
   ·rename_i id i f hid
    split at h
    ·rename_i z rows hob
     split at h
     ·rename_i q hq
      simp only[Option.map_eq_some_iff]at h
      obtain⟨cs,hc,rfl⟩:=h
      simp only[FrzTo]
      exact .inr ⟨id,i,f,z,rows,q,rfl,by omega,hob,hq,frzL_ok k _ hc⟩
     ·simp at h
    ·simp at h
  ·split at h
   ·rename_i hid;simp at h;subst h;simp only[FrzTo];exact⟨trivial,hid⟩
   ·rename_i id off len hid
    split at h
    ·rename_i z rows hob
     split at h
     ·rename_i hle
      simp only[Option.map_eq_some_iff]at h
      obtain⟨rs,hc,rfl⟩:=h
      simp only[FrzTo]
      exact .inr (.inr ⟨id,off,len,rows,rfl,by omega,hob,hle,frzR_ok k _ hc⟩)
     ·simp at h
    ·simp at h
  ·split at h
   ·rename_i hi;simp at h;subst h;simp only[FrzTo];exact .inl ⟨trivial,inNRb_ok _ hi⟩
   ·simp at h
  ·split at h
   ·rename_i hi;simp at h;subst h;simp only[FrzTo];exact .inl ⟨trivial,inNLb_ok _ hi⟩
   ·simp at h
  ·simp at h;subst h;simp only[FrzTo]
  ·split at h
   ·rename_i hid;simp at h;subst h;simp only[FrzTo];exact⟨trivial,hid⟩
   ·simp at h
  ·simp only[Option.map_eq_some_iff]at h
   obtain⟨cs,hc,rfl⟩:=h
   simp only[FrzTo]
   exact⟨_,rfl,frzL_ok k _ hc⟩
  ·simp only[Option.map_eq_some_iff]at h
   obtain⟨cs,hc,rfl⟩:=h
   simp only[FrzTo]
   exact⟨_,rfl,frzL_ok k _ hc⟩
  ·split at h
   ·rename_i hi
    simp only[Bool.and_eq_true]at hi
    simp at h;subst h;simp only[FrzTo];exact⟨trivial,inNLb_ok _ hi.1,inNLb_ok _ hi.2⟩
   ·simp at h
  ·simp at h;subst h;simp only[FrzTo]
theorem frzL_ok{h':Heap}{n:Nat}: ∀ (k:Nat)(l:List PV){r:List PV},frzL h' n k l=some r→FrzL n h' r l
 |0,_,_,h=>by simp[frzL]at h
 |k+1,[],r,h=>by simp[frzL]at h;subst h;simp only[FrzL]
 |k+1,p::ps,r,h=>by
  unfold frzL at h
  split at h
  ·rename_i q hq
   simp only[Option.map_eq_some_iff]at h
   obtain⟨qs,hc,rfl⟩:=h
   simp only[FrzL]
   exact⟨frzP_ok k p hq,frzL_ok k ps hc⟩
  ·simp at h
theorem frzR_ok{h':Heap}{n:Nat}: ∀ (k:Nat)(l:List (List PV)){r:List (List PV)},frzR h' n k l=some r→FrzR n h' r l
 |0,_,_,h=>by simp[frzR]at h
 |k+1,[],r,h=>by simp[frzR]at h;subst h;simp only[FrzR]
 |k+1,p::ps,r,h=>by
  unfold frzR at h
  split at h
  ·rename_i q hq
   simp only[Option.map_eq_some_iff]at h
   obtain⟨qs,hc,rfl⟩:=h
   simp only[FrzR]
   exact⟨frzL_ok k p hq,frzR_ok k ps hc⟩
  ·simp at h
end
def dropB(q:Option Nat)(n:Nat):Bool:=match q with
 |none=>true
 |some t=>decide (n≤t)
def endS:Option (Exit × Slots × Option Nat × Heap)→Option (Slots × Option Nat × Heap)
 |some (.normal,r)=>some r
 |some (.ret,r)=>some r
 |_=>none
theorem endS_some{x:Option (Exit × Slots × Option Nat × Heap)}{r:Slots × Option Nat × Heap}(h:endS x=some r): ∃ e,(e= .normal∨e= .ret)∧x=some (e,r):=by
 unfold endS at h
 split at h
 ·simp at h;subst h;exact⟨_,.inl rfl,rfl⟩
 ·simp at h;subst h;exact⟨_,.inr rfl,rfl⟩
 ·simp at h
abbrev CallR2:=FuncId→List PV→Heap→Option (PV × Option Nat × Heap)
section
variable (P:Program)(wf:FuncId→Bool)(own:FuncId→Nat→Bool)(ext:FuncId→List PV→Heap→Option PV)
def xop2(call:CallR2)(ow:Nat→Bool)(o:Oper)(ρ:Operand→PV)(h:Heap):Option (PV × Option Nat × Heap):=
 match callee ρ o.op with
 |some (f,args)=>call f args h
 |none=>match eff P (o.dst.any ow) o.op ρ h with
  |some (v,h')=>some (v,(if isW ow wf o=true then some (tchO o.op ρ h)else none),h')
  |none=>none
def xagain2(call:CallR2)(ow:Nat→Bool)(o:Oper)(ρ:Operand→PV)(h:Heap)(v:PV):Bool:=
 match xop2 P wf call ow o ρ h with
 |some (v',q,_)=>q.isNone&&pvEq v' v
 |none=>false
def xl2(call:CallR2)(ow:Nat→Bool)(n:Nat)(ops:List Oper):List Oper→Slots→Option Nat→Heap→Option (Slots × Option Nat × Heap)
 |[],s,q,h=>some (s,q,h)
 | o :: rest, s, q, h => if o.dst.all (fun d => decide (d < n)) = true then
   match wantedB ops s o with
   |none=>none
   |some false=>xl2 call ow n ops rest (updO s o.dst (.sc undef)) q h
   |some true=>match xop2 P wf call ow o (pev s) h with
    |some (v,q',h')=>xl2 call ow n ops rest (updO s o.dst v) (mnO q q') h'
    |none=>none
  else none
def xopR(call:CallR2)(ow:Nat→Bool)(id:Nat)(o:Oper)(ρ:Operand→PV)(h:Heap):Option (PV × Option Nat × Heap):=
 match o.op with
 | .alloc t=>match zeroT P t with
  |some zs=>if 0<zs.length then some (.ptr id 0 0,some id,h.set id (.arr zs.length [zs.map .sc]))else none
  |none=>none
 |_=>xop2 P wf call ow o ρ h
def xd2(call:CallR2)(ow:Nat→Bool)(n:Nat)(ops:List Oper):Nat→List Oper→List (Nat × Oper × Slots × PV)→List (Nat × Heap)→Slots→Option Nat→Heap→Option (Slots × Option Nat × Heap)
 |_,[],_,_,s,q,h=>some (s,q,h)
 | k, o :: rest, past, hist, s, q, h => if o.dst.all (fun d => decide (d < n)) = true then
   match wantedB ops s o with
   |none=>none
   |some false=>xd2 call ow n ops (k+1) rest past hist (updO s o.dst (.sc undef)) q h
   |some true=>match xop2 P wf call ow o (pev s) h with
    |none=>none
    |some (v,q',h')=>
     if isW ow wf o=true then
      (if past.all (fun x=>pre ops x.1 k||xagain2 P wf call ow x.2.1 (pev x.2.2.1) h' x.2.2.2)=true then xd2 call ow n ops (k+1) rest past ((k,h)::hist) (updO s o.dst v) (mnO q q') h' else none)
     else if q'.isNone=true then
      (if hist.all (fun x=>pre ops x.1 k||xagain2 P wf call ow o (pev s) x.2 v)=true then xd2 call ow n ops (k+1) rest ((k,o,s,v)::past) hist (updO s o.dst v) q h else none)
     else none
  else none
def xd3(call:CallR2)(ow:Nat→Bool)(n:Nat)(ops:List Oper)(base:Nat):Nat→List Oper→List (Nat × Oper × Slots × PV)→List (Nat × Heap)→Slots→Option Nat→Heap→Option (Slots × Option Nat × Heap)
 |_,[],_,_,s,q,h=>some (s,q,h)
 | k, o :: rest, past, hist, s, q, h => if o.dst.all (fun d => decide (d < n)) = true then
   match wantedB ops s o with
   |none=>none
   |some false=>xd3 call ow n ops base (k+1) rest past hist (updO s o.dst (.sc undef)) q h
   |some true=>match xopR P wf call ow (base+k) o (pev s) h with
    |none=>none
    |some (v,q',h')=>
     if isW ow wf o=true then
      (if(past.all (fun x=>pre ops x.1 k||xagain2 P wf call ow x.2.1 (pev x.2.2.1) h' x.2.2.2)&&((List.range ops.length).all fun f=>!(decide (k<f)&&alB ops f)||(h'.obj (base+f)).isNone))=true then xd3 call ow n ops base (k+1) rest past ((k,h)::hist) (updO s o.dst v) (mnO q q') h' else none)
     else if q'.isNone=true then
      (if hist.all (fun x=>pre ops x.1 k||xagain2 P wf call ow o (pev s) x.2 v)=true then xd3 call ow n ops base (k+1) rest ((k,o,s,v)::past) hist (updO s o.dst v) q h else none)
     else none
  else none
def xc2(call:CallR2)(ow:Nat→Bool)(n:Nat):Nat→Code→Slots→Option Nat→Heap→Option (Exit × Slots × Option Nat × Heap)
 |0,_,_,_,_=>none
 |k+1,c,s,q,h=>match c with
  | .skip=>some (.normal,s,q,h)
  | .region _ ops true => if dOk ow wf ops.toList = true then (xd2 P wf call ow n ops.toList 0 ops.toList [] [] s q h).map (Exit.normal, ·)
    else if dOk2 ow wf ops.toList=true then(xd3 P wf call ow n ops.toList h.next 0 ops.toList [] [] s (mnO q (some h.next)) ⟨h.next+ops.toList.length,h.obj⟩).map (Exit.normal,·)
    else none
  | .region _ ops false=>(xl2 P wf call ow n ops.toList ops.toList s q h).map (Exit.normal,·)
  | .seq a b=>match xc2 call ow n k a s q h with
   |some (.normal,s',q',h')=>xc2 call ow n k b s' q' h'
   |r=>r
  | .cond c x y=>match pev s c with
   | .sc (.bool true)=>xc2 call ow n k x s q h
   | .sc (.bool false)=>xc2 call ow n k y s q h
   |_=>none
  | .block id c=>match xc2 call ow n k c s q h with
   |some (.exit id',s',q',h')=>some (if id'=id then .normal else .exit id',s',q',h')
   |r=>r
  | .loop c=>match xc2 call ow n k c s q h with
   |some (.normal,s',q',h')=>xc2 call ow n k (.loop c) s' q' h'
   |r=>r
  | .exit id=>some (.exit id,s,q,h)
  | .ret=>some (.ret,s,q,h)
  |_=>none
def xf2(keep:FuncId→Bool)(m:Nat):Nat→CallR2
  |0,_,_,_=>none
  |k+1,f,args,h=>match ext f args h with
   |some r=>some (r,none,h)
   |none=>match P.funcs[f]? with
    |none=>none
    |some fn=>if hasBody P f=true∧args.length≤fn.ntmps then match fn.body with
        |none=>none
        |some c=>match endS (xc2 P wf (xf2 keep m k) (own f) fn.ntmps m c (slots0 args) none h)with
          |some (s,q,h')=>match resAll P s h' fn.results.toList with
            |none=>none
            |some vs=>if(!(keep f)&&dropB q h.next)=true then(match frzP h' h.next 1000 (resV vs)with
                |some r=>some (r,none,h)
                |none=>some (resV vs,q,h'))else some (resV vs,q,h')
          |none=>none
      else none
end
section
variable {P:Program}{wf:FuncId→Bool}{own:FuncId→Nat→Bool}
def ExtOk2(P:Program)(ext:FuncId→List PV→Heap→Option PV):Prop:= ∀ f args r h,ext f args h=some r→PCall P f args h (fun r' h'=>r'=r∧h'=h)
def CallOk2(P:Program)(call:CallR2):Prop:= ∀ f args h v q h',call f args h=some (v,q,h')→PCall P f args h (fun r h''=>r=v∧h''=h')∧Tch q h h'
theorem xop_ok2{call:CallR2}(hk:CallOk2 P call){ow:Nat→Bool}{o:Oper}{ρ:Operand→PV}{h h':Heap}{v:PV}{q:Option Nat}(hx:xop2 P wf call ow o ρ h=some (v,q,h')):Does P ow o ρ h v h'∧Tch q h h':=by
 unfold xop2 at hx
 unfold Does
 split at hx
 ·rename_i f args hc
  rw[hc]
  exact hk _ _ _ _ _ _ hx
 ·rename_i hc
  rw[hc]
  split at hx
  ·rename_i v1 h1 he
   simp only[Option.some.injEq,Prod.mk.injEq]at hx
   obtain⟨rfl,rfl,rfl⟩:=hx
   refine⟨he,?_⟩
   split
   ·exact eff_tch he
   ·rename_i hw;exact eff_same (by simpa using hw) hc he
  ·simp at hx
theorem xagain_ok2{call:CallR2}(hk:CallOk2 P call){ow:Nat→Bool}{o:Oper}{ρ:Operand→PV}{h:Heap}{v:PV}(hx:xagain2 P wf call ow o ρ h v=true):Does P ow o ρ h v h:=by
 unfold xagain2 at hx
 split at hx
 ·rename_i v' q h' hp
  simp only[Bool.and_eq_true,Option.isNone_iff_eq_none]at hx
  obtain⟨rfl,hx⟩:=hx
  obtain⟨h1,h2⟩:=xop_ok2 hk hp
  simp only[Tch]at h2
  rw[h2,pvEq_eq _ _ hx]at h1
  exact h1
 ·simp at hx
theorem xl_ok2{call:CallR2}(hk:CallOk2 P call){ow:Nat→Bool}{n:Nat}{ops:List Oper}{K:Slots→Heap→Prop}: ∀ (l:List Oper){s s':Slots}{q q':Option Nat}{h h':Heap},xl2 P wf call ow n ops l s q h=some (s',q',h')→
  (K s' h'→lwp P ow n ops l K s h)∧(∀ h0,Tch q h0 h→Tch q' h0 h')
 |[],s,s',q,q',h,h',hx=>by
  simp only[xl2,Option.some.injEq,Prod.mk.injEq]at hx
  obtain⟨rfl,rfl,rfl⟩:=hx
  exact⟨fun hK=>hK,fun h0 hq=>hq⟩
 |o::rest,s,s',q,q',h,h',hx=>by
  unfold xl2 at hx
  split at hx
  ·rename_i hd
   unfold lwp
   split at hx
   ·simp at hx
   ·rename_i hw
    obtain⟨h1,h2⟩:=xl_ok2 hk rest hx
    rw[hw]
    exact⟨fun hK=>⟨hd,by simpa using h1 hK⟩,h2⟩
   ·rename_i hw
    split at hx
    ·rename_i v q1 h1 hp
     obtain⟨d1,d2⟩:=xop_ok2 hk hp
     obtain⟨g1,g2⟩:=xl_ok2 hk rest hx
     rw[hw]
     exact⟨fun hK=>⟨hd,by simpa using d1.owp (g1 hK)⟩,fun h0 hq=>g2 h0 (hq.trans d2)⟩
    ·simp at hx
  ·simp at hx
theorem xd_ok2{call:CallR2}(hk:CallOk2 P call){ow:Nat→Bool}{n:Nat}{ops:List Oper}{K:Slots→Heap→Prop}: ∀ (l:List Oper)(k:Nat){past:List (Nat × Oper × Slots × PV)}{hist:List (Nat × Heap)}{s s':Slots}{q q':Option Nat}{h h':Heap},xd2 P wf call ow n ops k l past hist s q h=some (s',q',h')→
  (K s' h'→drun P ow wf n ops k l (past.map fun x=>(x.1,fun h2=>Does P ow x.2.1 (pev x.2.2.1) h2 x.2.2.2 h2)) hist K s h)∧(∀ h0,Tch q h0 h→Tch q' h0 h')
 |[],k,past,hist,s,s',q,q',h,h',hx=>by
  simp only[xd2,Option.some.injEq,Prod.mk.injEq]at hx
  obtain⟨rfl,rfl,rfl⟩:=hx
  exact⟨fun hK=>hK,fun h0 hq=>hq⟩
 |o::rest,k,past,hist,s,s',q,q',h,h',hx=>by
  unfold xd2 at hx
  split at hx
  ·rename_i hd
   unfold drun
   split at hx
   ·simp at hx
   ·rename_i hw
    obtain⟨h1,h2⟩:=xd_ok2 hk rest (k+1) hx
    rw[hw]
    exact⟨fun hK=>⟨hd,by simpa using h1 hK⟩,h2⟩
   ·rename_i hw
    split at hx
    ·simp at hx
    ·rename_i v q1 h1 hp
     obtain⟨d1,d2⟩:=xop_ok2 hk hp
     rw[hw]
     split at hx
     ·rename_i hiw
      split at hx
      ·rename_i hpast
       obtain⟨g1,g2⟩:=xd_ok2 hk rest (k+1) hx
       refine⟨fun hK=>⟨hd,?_⟩,fun h0 hq=>g2 h0 (hq.trans d2)⟩
       ·simp only[hiw,if_true]
        refine⟨v,h1,d1,?_,g1 hK⟩
        intro x hx1
        obtain⟨y,hy,rfl⟩:=List.mem_map.1 hx1
        have:=List.all_eq_true.1 hpast y hy
        simp only[Bool.or_eq_true]at this
        exact this.imp id (fun t=>xagain_ok2 hk t)
      ·simp at hx
     ·rename_i hiw
      split at hx
      ·rename_i hq1
       split at hx
       ·rename_i hhist
        obtain⟨g1,g2⟩:=xd_ok2 hk rest (k+1) hx
        refine⟨fun hK=>⟨hd,?_⟩,g2⟩
        simp only[hiw,if_true,Bool.false_eq_true,if_false]
        have e1:h1=h:=by rw[Option.isNone_iff_eq_none]at hq1;subst hq1;exact d2
        subst e1
        refine⟨v,d1,?_,g1 hK⟩
        intro x hx1
        have:=List.all_eq_true.1 hhist x hx1
        simp only[Bool.or_eq_true]at this
        exact this.imp id (fun t=>xagain_ok2 hk t)
       ·simp at hx
      ·simp at hx
  ·simp at hx
theorem xopR_ok{call:CallR2}(hk:CallOk2 P call){ow:Nat→Bool}{id:Nat}{o:Oper}{ρ:Operand→PV}{h h':Heap}{v:PV}{q:Option Nat}(hx:xopR P wf call ow id o ρ h=some (v,q,h')):DoesR P ow id o ρ h v h'∧Tch q h h':=by
 unfold xopR at hx
 unfold DoesR
 split at hx
 ·rename_i t hop
  simp only[hop]
  split at hx
  ·rename_i zs hz
   split at hx
   ·rename_i hpos
    simp only[Option.some.injEq,Prod.mk.injEq]at hx
    obtain⟨rfl,rfl,rfl⟩:=hx
    exact⟨⟨zs,hz,hpos,rfl,rfl⟩,tch_set⟩
   ·simp at hx
  ·simp at hx
 ·rename_i hop
  obtain⟨d1,d2⟩:=xop_ok2 hk hx
  refine⟨?_,d2⟩
  split
  ·rename_i t he;exact(hop t he).elim
  ·exact d1
theorem xd_ok3{call:CallR2}(hk:CallOk2 P call){ow:Nat→Bool}{n base:Nat}{ops:List Oper}{K:Slots→Heap→Prop}: ∀ (l:List Oper)(k:Nat){past:List (Nat × Oper × Slots × PV)}{hist:List (Nat × Heap)}{s s':Slots}{q q':Option Nat}{h h':Heap},xd3 P wf call ow n ops base k l past hist s q h=some (s',q',h')→
  (K s' h'→drun2 P ow wf n ops base k l (past.map fun x=>(x.1,fun h2=>Does P ow x.2.1 (pev x.2.2.1) h2 x.2.2.2 h2)) hist K s h)∧(∀ h0,Tch q h0 h→Tch q' h0 h')
 |[],k,past,hist,s,s',q,q',h,h',hx=>by
  simp only[xd3,Option.some.injEq,Prod.mk.injEq]at hx
  obtain⟨rfl,rfl,rfl⟩:=hx
  exact⟨fun hK=>hK,fun h0 hq=>hq⟩
 |o::rest,k,past,hist,s,s',q,q',h,h',hx=>by
  unfold xd3 at hx
  split at hx
  ·rename_i hd
   unfold drun2
   split at hx
   ·simp at hx
   ·rename_i hw
    obtain⟨h1,h2⟩:=xd_ok3 hk rest (k+1) hx
    rw[hw]
    exact⟨fun hK=>⟨hd,by simpa using h1 hK⟩,h2⟩
   ·rename_i hw
    split at hx
    ·simp at hx
    ·rename_i v q1 h1 hp
     obtain⟨d1,d2⟩:=xopR_ok hk hp
     rw[hw]
     split at hx
     ·rename_i hiw
      split at hx
      ·rename_i hpn
       simp only[Bool.and_eq_true]at hpn
       obtain⟨hpast,hnone⟩:=hpn
       obtain⟨g1,g2⟩:=xd_ok3 hk rest (k+1) hx
       refine⟨fun hK=>⟨hd,?_⟩,fun h0 hq=>g2 h0 (hq.trans d2)⟩
       ·simp only[hiw,if_true]
        refine⟨v,h1,d1,fun f hf ha=>?_,?_,g1 hK⟩
        ·have hfl:f<ops.length:=by
          unfold alB at ha
          split at ha
          ·rename_i hq;exact(List.getElem?_eq_some_iff.1 hq).1
          ·simp at ha
         have:=List.all_eq_true.1 hnone f (List.mem_range.2 hfl)
         simpa[hf,ha]using this
        intro x hx1
        obtain⟨y,hy,rfl⟩:=List.mem_map.1 hx1
        have:=List.all_eq_true.1 hpast y hy
        simp only[Bool.or_eq_true]at this
        exact this.imp id (fun t=>xagain_ok2 hk t)
      ·simp at hx
     ·rename_i hiw
      split at hx
      ·rename_i hq1
       split at hx
       ·rename_i hhist
        obtain⟨g1,g2⟩:=xd_ok3 hk rest (k+1) hx
        refine⟨fun hK=>⟨hd,?_⟩,g2⟩
        simp only[hiw,if_true,Bool.false_eq_true,if_false]
        have e1:h1=h:=by rw[Option.isNone_iff_eq_none]at hq1;subst hq1;exact d2
        subst e1
        refine⟨v,(doesR_of (by simpa using hiw)).1 d1,?_,g1 hK⟩
        intro x hx1
        have:=List.all_eq_true.1 hhist x hx1
        simp only[Bool.or_eq_true]at this
        exact this.imp id (fun t=>xagain_ok2 hk t)
       ·simp at hx
      ·simp at hx
  ·simp at hx
theorem xc_ok2{call:CallR2}(hk:CallOk2 P call){ow:Nat→Bool}{n:Nat}: ∀ (m:Nat)(c:Code){s s':Slots}{q q':Option Nat}{h h':Heap}{e:Exit},xc2 P wf call ow n m c s q h=some (e,s',q',h')→
  (∀ Q:Post,Q e s' h'→awp P ow wf n c Q s h)∧(∀ h0,Tch q h0 h→Tch q' h0 h')
 |0,c,s,s',q,q',h,h',e,hx=>by simp[xc2]at hx
 |m+1,c,s,s',q,q',h,h',e,hx=>by
  unfold xc2 at hx
  split at hx
  ·simp only[Option.some.injEq,Prod.mk.injEq]at hx
   obtain⟨rfl,rfl,rfl,rfl⟩:=hx
   exact⟨fun Q hQ=>by simpa only[awp]using hQ,fun h0 hq=>hq⟩
  ·rename_i id ops
   split at hx
   ·rename_i hdo
    simp only[Option.map_eq_some_iff,Prod.mk.injEq]at hx
    obtain⟨⟨s1,q1,h1⟩,hx,rfl,rfl,rfl,rfl⟩:=hx
    have:=fun(Q:Post)=>xd_ok2 (K:=Q .normal) hk _ _ hx
    exact⟨fun Q hQ=>by simp only[awp,if_true];exact⟨_,_,.refl,.inl ⟨hdo,(this Q).1 hQ⟩⟩,(this (fun _ _ _=>True)).2⟩
   ·split at hx
    ·rename_i hdo
     simp only[Option.map_eq_some_iff,Prod.mk.injEq]at hx
     obtain⟨⟨s1,q1,h1⟩,hx,rfl,rfl,rfl,rfl⟩:=hx
     have:=fun(Q:Post)=>xd_ok3 (K:=Q .normal) hk _ _ hx
     refine⟨fun Q hQ=>by simp only[awp,if_true];exact⟨_,_,.refl,.inr (.inl ⟨hdo,(this Q).1 hQ⟩)⟩,fun h0 hq=>(this (fun _ _ _=>True)).2 h0 (hq.trans ?_)⟩
     exact⟨Nat.le_add_right _ _,fun _ _=>rfl⟩
    ·simp at hx
  ·rename_i id ops
   simp only[Option.map_eq_some_iff,Prod.mk.injEq]at hx
   obtain⟨⟨s1,q1,h1⟩,hx,rfl,rfl,rfl,rfl⟩:=hx
   have:=fun(Q:Post)=>xl_ok2 (K:=Q .normal) hk _ hx
   exact⟨fun Q hQ=>by simp only[awp,Bool.false_eq_true,if_false];exact⟨_,_,.refl,(this Q).1 hQ⟩,(this (fun _ _ _=>True)).2⟩
  ·rename_i a b
   split at hx
   ·rename_i s1 q1 h1 ha
    obtain⟨a1,a2⟩:=xc_ok2 hk m a ha
    obtain⟨b1,b2⟩:=xc_ok2 hk m b hx
    exact⟨fun Q hQ=>by simp only[awp];exact a1 _ (b1 Q hQ),fun h0 hq=>b2 h0 (a2 h0 hq)⟩
   ·rename_i hne
    obtain⟨a1,a2⟩:=xc_ok2 hk m a hx
    refine⟨fun Q hQ=>?_,a2⟩
    simp only[awp]
    refine a1 _ ?_
    cases e<;>simp only[Post.seq]<;>first|exact hQ|exact(hne _ _ _ hx).elim
  ·rename_i c x y
   split at hx
   ·rename_i hc
    obtain⟨a1,a2⟩:=xc_ok2 hk m x hx
    exact⟨fun Q hQ=>by simp only[awp,hc,if_true];exact a1 Q hQ,a2⟩
   ·rename_i hc
    obtain⟨a1,a2⟩:=xc_ok2 hk m y hx
    exact⟨fun Q hQ=>by simp only[awp,hc,Bool.false_eq_true,if_false];exact a1 Q hQ,a2⟩
   ·simp at hx
  ·rename_i id c
   split at hx
   ·rename_i id' s1 q1 h1 ha
    obtain⟨a1,a2⟩:=xc_ok2 hk m c ha
    simp only[Option.some.injEq,Prod.mk.injEq]at hx
    obtain⟨rfl,rfl,rfl,rfl⟩:=hx
    refine⟨fun Q hQ=>?_,a2⟩
    simp only[awp]
    refine a1 _ ?_
    simp only[Post.block]
    split<;>rename_i hid<;>simpa only[hid,if_true,if_false]using hQ
   ·rename_i hne
    obtain⟨a1,a2⟩:=xc_ok2 hk m c hx
    refine⟨fun Q hQ=>?_,a2⟩
    simp only[awp]
    refine a1 _ ?_
    cases e<;>simp only[Post.block]<;>first|exact hQ|exact(hne _ _ _ _ hx).elim
  ·rename_i c
   split at hx
   ·rename_i s1 q1 h1 ha
    obtain⟨a1,a2⟩:=xc_ok2 hk m c ha
    obtain⟨b1,b2⟩:=xc_ok2 hk m (.loop c) hx
    refine⟨fun Q hQ=>?_,fun h0 hq=>b2 h0 (a2 h0 hq)⟩
    have:=b1 Q hQ
    simp only[awp]at this⊢
    obtain⟨j,hj⟩:=this
    exact⟨j+1,a1 _ hj⟩
   ·rename_i hne
    obtain⟨a1,a2⟩:=xc_ok2 hk m c hx
    refine⟨fun Q hQ=>?_,a2⟩
    simp only[awp]
    refine⟨1,a1 _ ?_⟩
    cases e<;>simp only[Post.seq]<;>first|exact hQ|exact(hne _ _ _ hx).elim
  ·simp only[Option.some.injEq,Prod.mk.injEq]at hx
   obtain⟨rfl,rfl,rfl,rfl⟩:=hx
   exact⟨fun Q hQ=>by simpa only[awp]using hQ,fun h0 hq=>hq⟩
  ·simp only[Option.some.injEq,Prod.mk.injEq]at hx
   obtain⟨rfl,rfl,rfl,rfl⟩:=hx
   exact⟨fun Q hQ=>by simpa only[awp]using hQ,fun h0 hq=>hq⟩
  ·simp at hx
theorem xf_ok2(hm:P.follows .mixedOrders=true){ext:FuncId→List PV→Heap→Option PV}(hext:ExtOk2 P ext){keep:FuncId→Bool}{m:Nat}: ∀ k,CallOk2 P (xf2 P wf own ext keep m k)
 |0,f,args,h,v,q,h',hx=>by simp[xf2]at hx
 |k+1,f,args,h,v,q,h',hx=>by
  unfold xf2 at hx
  split at hx
  ·rename_i r hr
   simp only[Option.some.injEq,Prod.mk.injEq]at hx
   obtain⟨rfl,rfl,rfl⟩:=hx
   exact⟨hext _ _ _ _ hr,rfl⟩
  split at hx
  ·simp at hx
  ·rename_i fn hf
   split at hx
   case isFalse=>simp at hx
   rename_i hh
   split at hx
   ·simp at hx
   ·rename_i c hb
    split at hx
    case h_2=>simp at hx
    rename_i s q1 h1 hc
    split at hx
    ·simp at hx
    ·rename_i vs hr
     have main:PCall P f args h (fun r h2=>r=resV vs∧h2=h1)∧Tch q1 h h1:=by
      obtain⟨e,he,hc⟩:=endS_some hc
      obtain⟨a1,a2⟩:=xc_ok2 (xf_ok2 hm hext k) m c hc
      refine⟨pcall_body hm hf hb hh.1 hh.2 (a1 _ ?_),a2 h rfl⟩
      rcases he with rfl|rfl<;>simp only[retPost,hr]<;>exact⟨trivial,trivial⟩
     split at hx
     ·rename_i hkp
      simp only[Bool.and_eq_true]at hkp
      split at hx
      ·rename_i r hfr
       simp only[Option.some.injEq,Prod.mk.injEq]at hx
       obtain⟨rfl,rfl,rfl⟩:=hx
       refine⟨pcall_wf hh.1 fun hwf=>PCall.drop (main.1.mono ?_),rfl⟩
       rintro r' h' ⟨rfl,rfl⟩
       have hold: ∀ id,id<h.next→h'.obj id=h.obj id:=by
        intro id hid
        have ht:=main.2
        cases q1 with
        |none=>simp only[Tch]at ht;rw[ht]
        |some t=>
         simp only[Tch]at ht
         have:=hkp.2
         simp[dropB]at this
         exact ht.2 id (by omega)
       refine⟨r,h,⟨rfl,rfl⟩,frzP_ok _ _ hfr,Nat.le_refl _,fun id o ho=>?_⟩
       have hid:=hwf id (by rw[ho];try rfl)
       exact⟨by rw[hold id hid];exact ho,hid,.inl ho⟩
      ·simp only[Option.some.injEq,Prod.mk.injEq]at hx
       obtain⟨rfl,rfl,rfl⟩:=hx
       exact main
     ·simp only[Option.some.injEq,Prod.mk.injEq]at hx
      obtain⟨rfl,rfl,rfl⟩:=hx
      exact main
def xgives2(r:Option (PV × Option Nat × Heap))(v:PV):Bool:=match r with
 |some (u,_,_)=>pvEq u v
 |none=>false
theorem pcall_run2(hm:P.follows .mixedOrders=true){ext:FuncId→List PV→Heap→Option PV}(hext:ExtOk2 P ext){keep:FuncId→Bool}{m k:Nat}{f:FuncId}{args:List PV}{h:Heap}{v:PV}(hx:xgives2 (xf2 P wf own ext keep m k f args h) v=true):PCall P f args h (fun r _=>r=v):=by
 unfold xgives2 at hx
 split at hx
 ·rename_i u q h' hr
  refine((xf_ok2 hm hext k _ _ _ _ _ _ hr).1).mono (fun r h'' hr=>?_)
  rw[hr.1,pvEq_eq _ _ hx]
 ·simp at hx
end
end Go.AM
namespace Go.Proofs.Ytdekkbdlcblhcaa
open Go.AM
set_option maxHeartbeats 2000000
set_option maxRecDepth 100000
def pbOwn(f t:Nat):Bool:=([(56,5),(77,10),(999999,5),(21,40),(21,49),(21,67),(38,9)]:List (Nat × Nat)).contains (f,t)
def pbWf(f:Nat):Bool:=false
def pbExt(f:FuncId)(args:List PV)(_:Heap):Option PV:=ext f args
theorem pbExt_ok:ExtOk2 Try.prog pbExt:=fun f args r h hr=>ext_ok f args r h hr
theorem pbAwake_c:PCall Try.prog 5 [] Heap.nil fun r h'=>r= .sc (.bool true)∧h'=Heap.nil:=by
 have h1:PCall Try.prog 5 [] Heap.nil fun r _=>r= .sc (.bool true):=pcall_run2 (wf:=pbWf) (own:=pbOwn) (keep:=fun _=>false) Ty.mixed pbExt_ok (m:=2000) (k:=60) (by kernel_rfl)
 refine PCall.drop (h1.mono ?_)
 rintro r h' rfl
 refine⟨.sc (.bool true),Heap.nil,⟨rfl,rfl⟩,?_,Nat.le_refl _,fun id o ho=>by simp[Heap.nil]at ho⟩
 simp only[FrzTo]
end Go.Proofs.Ytdekkbdlcblhcaa
