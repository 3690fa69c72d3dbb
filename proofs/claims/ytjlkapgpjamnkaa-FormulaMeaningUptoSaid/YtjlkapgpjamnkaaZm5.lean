/- What the claim rests on, part 5: the abstract machine, contracts of the functions, plain data. -/
import Derived.Test.YtjlkapgpjamnkaaZm4
set_option linter.unusedVariables false
set_option linter.unusedSimpArgs false
set_option linter.unusedSectionVars false
namespace Go.Proofs.Ytjlkapgpjamnkaa
open Go.AM
set_option maxHeartbeats 16000000
set_option maxRecDepth 20000
theorem ne_of_eq{a x y:List UInt8}(h:(a==x)=true)(h2:(x==y)=false):(a==y)=false:=by rw[eq_of_beq h];exact h2
def headOk(op name:ByteArray)(args:List ByteArray)(np ne nk:Nat):Bool:=
 match shapeOf op nk with
 |none=>false
 |some (e,m,q)=>termsOk op name args&&decide (ne=e)&&decide (nk=m)&&(decide (np=0)||q)
theorem partsOk_head(op name:ByteArray)(args:List ByteArray)(params:List Pm)(ne nk:Nat):partsOk op name args params ne nk=(headOk op name args params.length ne nk&&params.all pmOk):=by
 unfold partsOk headOk
 have e1:params.isEmpty=decide (params.length=0):=by cases params<;>simp
 cases shapeOf op nk with
 |none=>rfl
 |some p=>obtain⟨e,m,q⟩:=p;simp only[e1]
theorem drop_get{α:Type}{l:List α}{k:Nat}{x:α}(h:l[k]? =some x):l.drop k=x::l.drop (k+1):=by
 obtain⟨h1,h2⟩:=List.getElem?_eq_some_iff.1 h
 rw[List.drop_eq_getElem_cons h1,h2]
theorem formedMs_le: ∀ (l:List Ex)(d n:Nat),n≤4096→(formedMs l d n).1=true→(formedMs l d n).2≤4096
 |[],d,n,hn=>by simp[formedMs,hn]
 |e::l,d,n,hn=>by
  unfold formedMs
  have h1:=formedM_le e d n
  split
  ·rename_i c he
   rw[he]at h1
   exact formedMs_le l d c (h1 rfl)
  ·simp
mutual
theorem shapedM_le: ∀ (f:Fm)(d n:Nat),(shapedM f d n).1=true→(shapedM f d n).2≤4096
 | .mk op name args params exprs kids,d,n=>by
  unfold shapedM
  split
  ·rename_i hc
   split
   ·have h1:=formedMs_le exprs (d+1) (n+1) hc.1
    split
    ·rename_i c he
     rw[he]at h1
     exact shapedMs_le kids (d+1) c (h1 rfl)
    ·simp
   ·simp
  ·simp
theorem shapedMs_le: ∀ (l:List Fm)(d n:Nat),n≤4096→(shapedMs l d n).1=true→(shapedMs l d n).2≤4096
 |[],d,n,hn=>by simp[shapedMs,hn]
 |k::l,d,n,hn=>by
  unfold shapedMs
  have h1:=shapedM_le k d n
  split
  ·rename_i c he
   rw[he]at h1
   exact shapedMs_le l d c (h1 rfl)
  ·simp
end
theorem shaped_c: ∀ f:Fm,f.ok→ ∀ (d n:Nat),d≤33→n≤4096→ ∀ (id:Nat)(h:Heap),h.obj id=some (cntO n)→
  PCall Try.prog 63 [.agg f.cells,.sc (.int .i64 d),.ptr id 0 0] h fun r h'=>r= .sc (.bool (shapedM f d n).1)∧h'=h.set id (cntO (shapedM f d n).2):=by
 refine Fm.ind ?_
 intro op name args params exprs kids ih hok d n hd hn id h ho
 simp only[Fm.ok]at hok
 obtain⟨_,hnm,⟨hal,hargs⟩,⟨hpl,hps⟩,⟨hel,hes⟩,hkl,hks⟩:=hok
 rw[Ex.oks_iff]at hes
 rw[Fm.oks_iff]at hks
 have hnm':name.size≤9223372036854775807:=by unfold bigN at hnm;omega
 unfold bigN at hpl hel hkl
 have hlA:=strRows_len args
 have hlP:=pmRows_len params
 have hlE:=Ex.rows_len exprs
 have hlK:=Fm.rows_len kids
 refine pcall_wf Ty.hb_63 fun hwf=>?_
 have hid:id<h.next:=hwf id (by rw[ho];try rfl)
 refine PCall.quietX Ty.hb_63 ho (by simp[cntO,inNO,inNR,inNL,inN]) ?_
 generalize hF:shapedM (.mk op name args params exprs kids) d n=F
 unfold shapedM at hF
 by_cases hc:n+1≤4096∧d≤32
 rotate_left
 ·rw [if_neg hc]at hF
  subst hF
  have hT:=take_c (by omega) hn ho (decide_eq_false hc)
  simp only[Fm.cells]
  refine pcall_body (ow:=fun _=>false) (wf:=fun _=>false) Ty.mixed Try.func63 rfl Ty.hb_63 (by rw[Try.ntmps63];simp) ?_
  rw[Try.ntmps63,Try.results63]
  repeat'(first|refine a_seq fun K hK=>?_|(refine a_regionS ?_;simp(maxSteps:=2000000) only[Ty.w,simprocAttr])|(refine hK _ _ ?_;clear hK;try simp only[pst0,simprocAttr]))
  refine owp_useH (hT) (by(try simp only[Ty.w,simprocAttr,Bool.not_false]);try rfl) ?_;simp(maxSteps:=2000000) only[Ty.w,simprocAttr,Bool.not_false]
  repeat'(first|refine a_seq fun K hK=>?_|((first|refine a_regionS ?_|refine a_ret ?_);simp(maxSteps:=2000000) only[Ty.w,simprocAttr,Bool.not_false])|(refine hK _ _ ?_;clear hK;try simp only[pst0,simprocAttr]))
  exact(GrowX.refl ho).put
 rw[if_pos hc]at hF
 have hT:=take_c (by omega) hn ho (decide_eq_true hc)
 have wd:IntKind.i64.wrap ((d:Int)+1)=(d:Int)+1:=by rw[wrap64 (by omega) (by omega)]
 have G1:GrowX h id (cntO (n+1)) (h.set id (cntO (n+1))):=(GrowX.refl ho).put
 have hO1:(h.set id (cntO (n+1))).obj id=some (cntO (n+1)):=by simp[Heap.set]
 have hN1:(h.set id (cntO (n+1))).next=h.next:=rfl
 have hFf:partsOk op name args params exprs.length kids.length=false→F=(false,n+1):=fun hp=>by rw[← hF,if_neg (by rw[hp];simp)]
 have hFt:partsOk op name args params exprs.length kids.length=true→F=(match formedMs exprs (d+1) (n+1)with
  |(true,c')=>shapedMs kids (d+1) c'
  |(false,c')=>(false,c')):=fun hp=>by rw[← hF,if_pos hp];try rfl
 clear hF
 simp only[Fm.cells]
 refine pcall_body (ow:=fun _=>false) (wf:=fun _=>false) Ty.mixed Try.func63 rfl Ty.hb_63 (by rw[Try.ntmps63];simp) ?_
 rw[Try.ntmps63,Try.results63]
 repeat'(first|refine a_seq fun K hK=>?_|(refine a_regionS ?_;simp(maxSteps:=2000000) only[Ty.w,simprocAttr])|(refine hK _ _ ?_;clear hK;try simp only[pst0,simprocAttr]))
 refine owp_useH (hT) (by(try simp only[Ty.w,simprocAttr,Bool.not_true]);try rfl) ?_;simp(maxSteps:=2000000) only[Ty.w,simprocAttr,Bool.not_true]
 clear hT
 generalize h.set id (cntO (n+1))=H1 at G1 hO1 hN1⊢
 repeat'(first|(with_reducible refine a_hold 4 ?_)|refine a_seq fun K hK=>?_|(refine a_regionS ?_;simp(maxSteps:=2000000) only[Ty.w,simprocAttr,Bool.not_true])|(refine a_skip ?_;try simp only[pst0,simprocAttr])|(refine a_cond _ (by(try simp(maxSteps:=2000000) only[Ty.w,simprocAttr,Bool.not_true]);rfl) (fun hb=>?_) (fun hb=>?_)<;>(try simp only[hb0,decide_eq_true_eq,decide_eq_false_iff_not,simprocAttr]at hb)<;>(try(exfalso;omega)))|(refine hK _ _ ?_;clear hK;try simp only[pst0,simprocAttr]))
 refine⟨?_⟩
 refine a_cut (fun S h'=>h'=H1∧S 1= .sc (.int .i64 d)∧S 2= .ptr id 0 0∧S 3= .cptr (Fm.mk op name args params exprs kids).cells∧ ∃ (e m:Nat)(q:Bool),shapeOf op kids.length=some (e,m,q)∧((bEq op opAtom||bEq op opSame)=true→termsOk op name args=true)∧S 7= .sc (.int .i64 e)∧S 8= .sc (.bool q)∧S 9= .sc (.int .i64 m)) ?_ ?_
 ·have hfc: ∀ s∈args, ∀ h:Heap,PCall Try.prog 105 [sPV s] h fun r h'=>r= .sc (.bool (!termB s))∧h'=h:=fun s hs h=>fclosure2_c (hargs s hs)
  cases k1:(op.data.toList==(#[97,116,111,109]:Array UInt8).toList)with
  |true=>
   have k2:(op.data.toList==(#[115,97,109,101]:Array UInt8).toList)=false:=ne_of_eq k1 rfl
   cases q1:nameB name with
   |false=>
    have hp:=hFf (by simp[partsOk,shapeOf,termsOk,(show bEq op opAtom=true from k1),q1])
    subst hp
    repeat'(first|refine a_seq fun K hK=>?_|(refine a_regionS ?_;simp(maxSteps:=2000000) only[Ty.w,simprocAttr,k1,k2])|(refine a_skip ?_;try simp only[pst0,simprocAttr])|(refine a_cond _ (by(try simp(maxSteps:=2000000) only[Ty.w,simprocAttr,k1,k2]);rfl) (fun hb=>?_) (fun hb=>?_)<;>(try simp only[hb0,decide_eq_true_eq,decide_eq_false_iff_not,simprocAttr]at hb)<;>(try(exfalso;omega)))|(refine hK _ _ ?_;clear hK;try simp only[pst0,simprocAttr]))
    refine owp_useQ (fname_c (s:=name) hnm') (by(try simp only[Ty.w,simprocAttr,k1,k2,q1]);try rfl) ?_;simp(maxSteps:=2000000) only[Ty.w,simprocAttr,k1,k2,q1]
    repeat'(first|refine a_seq fun K hK=>?_|((first|refine a_regionS ?_|refine a_ret ?_);simp(maxSteps:=2000000) only[Ty.w,simprocAttr,k1,k2,q1,Bool.not_false])|(refine hK _ _ ?_;clear hK;try simp only[pst0,simprocAttr]))
    all_goals first|exact G1|exact⟨rfl,G1⟩
   |true=>
    cases q2:args.all termB with
    |false=>
     have hp:=hFf (by simp[partsOk,shapeOf,termsOk,(show bEq op opAtom=true from k1),q1,q2])
     subst hp
     repeat'(first|refine a_seq fun K hK=>?_|(refine a_regionS ?_;simp(maxSteps:=2000000) only[Ty.w,simprocAttr,k1,k2])|(refine a_skip ?_;try simp only[pst0,simprocAttr])|(refine a_cond _ (by(try simp(maxSteps:=2000000) only[Ty.w,simprocAttr,k1,k2]);rfl) (fun hb=>?_) (fun hb=>?_)<;>(try simp only[hb0,decide_eq_true_eq,decide_eq_false_iff_not,simprocAttr]at hb)<;>(try(exfalso;omega)))|(refine hK _ _ ?_;clear hK;try simp only[pst0,simprocAttr]))
     refine owp_useQ (fname_c (s:=name) hnm') (by(try simp only[Ty.w,simprocAttr,k1,k2,q1]);try rfl) ?_;simp(maxSteps:=2000000) only[Ty.w,simprocAttr,k1,k2,q1]
     skip
     refine owp_useQ (containsFunc_c hal hfc) (by(try simp only[Ty.w,simprocAttr,k1,k2,q1,q2]);try rfl) ?_;simp(maxSteps:=2000000) only[Ty.w,simprocAttr,k1,k2,q1,q2]
     repeat'(first|refine a_seq fun K hK=>?_|((first|refine a_regionS ?_|refine a_ret ?_);simp(maxSteps:=2000000) only[Ty.w,simprocAttr,k1,k2,q1,q2,Bool.not_false,Bool.not_true])|(refine hK _ _ ?_;clear hK;try simp only[pst0,simprocAttr]))
     all_goals first|exact G1|exact⟨rfl,G1⟩
    |true=>
     repeat'(first|refine a_seq fun K hK=>?_|(refine a_regionS ?_;simp(maxSteps:=2000000) only[Ty.w,simprocAttr,k1,k2])|(refine a_skip ?_;try simp only[pst0,simprocAttr])|(refine a_cond _ (by(try simp(maxSteps:=2000000) only[Ty.w,simprocAttr,k1,k2]);rfl) (fun hb=>?_) (fun hb=>?_)<;>(try simp only[hb0,decide_eq_true_eq,decide_eq_false_iff_not,simprocAttr]at hb)<;>(try(exfalso;omega)))|(refine hK _ _ ?_;clear hK;try simp only[pst0,simprocAttr]))
     refine owp_useQ (fname_c (s:=name) hnm') (by(try simp only[Ty.w,simprocAttr,k1,k2,q1]);try rfl) ?_;simp(maxSteps:=2000000) only[Ty.w,simprocAttr,k1,k2,q1]
     skip
     refine owp_useQ (containsFunc_c hal hfc) (by(try simp only[Ty.w,simprocAttr,k1,k2,q1,q2]);try rfl) ?_;simp(maxSteps:=2000000) only[Ty.w,simprocAttr,k1,k2,q1,q2]
     repeat'(first|(refine a_block ?_)|(refine a_skip ?_;try simp only[pst0,simprocAttr])|(refine hK _ _ ?_;clear hK;try simp only[pst0,simprocAttr]))
     simp(maxSteps:=2000000) only[Ty.w,simprocAttr,Ty.all,Fm.cells]
     exact⟨0,0,false,by simp[shapeOf,(show bEq op opAtom=true from k1)],fun _=>by simp[termsOk,(show bEq op opAtom=true from k1),q1,q2],rfl,rfl,rfl⟩
  |false=>
   cases k2:(op.data.toList==(#[115,97,109,101]:Array UInt8).toList)with
   |true=>
    cases q1:(name.data.toList==(#[]:Array UInt8).toList)with
    |false=>
     have hp:=hFf (by simp[partsOk,shapeOf,termsOk,(show bEq op opAtom=false from k1),(show bEq op opSame=true from k2),(show emptyB name=false from q1)])
     subst hp
     repeat'(first|refine a_seq fun K hK=>?_|((first|refine a_regionS ?_|refine a_ret ?_);simp(maxSteps:=2000000) only[Ty.w,simprocAttr,k1,k2,q1,Bool.not_false])|(refine a_cond _ (by(try simp(maxSteps:=2000000) only[Ty.w,simprocAttr,k1,k2,q1,Bool.not_false]);rfl) (fun hb=>?_) (fun hb=>?_)<;>(try simp only[hb0,decide_eq_true_eq,decide_eq_false_iff_not,simprocAttr]at hb)<;>(try(exfalso;omega)))|(refine hK _ _ ?_;clear hK;try simp only[pst0,simprocAttr]))
     all_goals first|exact G1|exact⟨rfl,G1⟩
    |true=>
     cases q2:((args.length:Int)==2)with
     |false=>
      have hp:=hFf (by simp[partsOk,shapeOf,termsOk,(show bEq op opAtom=false from k1),(show bEq op opSame=true from k2),(show emptyB name=true from q1),(show ¬ args.length=2 by simp at q2;omega)])
      subst hp
      have q2p:=eq_false (ne_of_beq_false q2)
      have q2i:¬ args.length=2:=by have:=ne_of_beq_false q2;omega
      repeat'(first|refine a_seq fun K hK=>?_|((first|refine a_regionS ?_|refine a_ret ?_);simp(maxSteps:=2000000) only[Ty.w,simprocAttr,k1,k2,q1,q2,q2p,hlA,Bool.not_true,Bool.not_false,not_false_eq_true,not_true_eq_false,if_true,if_false])|(refine a_cond _ (by(try simp(maxSteps:=2000000) only[Ty.w,simprocAttr,k1,k2,q1,q2,q2p,hlA,Bool.not_true,Bool.not_false,not_false_eq_true,not_true_eq_false,if_true,if_false]);rfl) (fun hb=>?_) (fun hb=>?_)<;>(try simp only[hb0,decide_eq_true_eq,decide_eq_false_iff_not,simprocAttr]at hb)<;>(try(exfalso;omega)))|(with_reducible refine ite_in (fun hb=>?_) (fun hb=>?_)<;>(try simp only[Decidable.not_not]at hb)<;>(try simp only[hb,if_true,if_false,not_false_eq_true,not_true_eq_false, ↓reduceIte])<;>(try simp only[hb0,decide_eq_true_eq,decide_eq_false_iff_not,simprocAttr]at hb)<;>(try(exfalso;omega)))|(refine hK _ _ ?_;clear hK;try simp only[pst0,simprocAttr]))
      all_goals first|exact G1|exact⟨rfl,G1⟩
     |true=>
      cases q3:args.all termB with
      |false=>
       have hp:=hFf (by simp[partsOk,shapeOf,termsOk,(show bEq op opAtom=false from k1),(show bEq op opSame=true from k2),(show emptyB name=true from q1),(show args.length=2 by simp at q2;omega),q3])
       subst hp
       have q2p:=eq_true (eq_of_beq q2)
       have q2i:args.length=2:=by have:=eq_of_beq q2;omega
       repeat'(first|refine a_seq fun K hK=>?_|(refine a_regionS ?_;simp(maxSteps:=2000000) only[Ty.w,simprocAttr,k1,k2,q1,q2,q2p,hlA,Bool.not_true,not_false_eq_true,not_true_eq_false,if_true,if_false])|(refine a_cond _ (by(try simp(maxSteps:=2000000) only[Ty.w,simprocAttr,k1,k2,q1,q2,q2p,hlA,Bool.not_true,not_false_eq_true,not_true_eq_false,if_true,if_false]);rfl) (fun hb=>?_) (fun hb=>?_)<;>(try simp only[hb0,decide_eq_true_eq,decide_eq_false_iff_not,simprocAttr]at hb)<;>(try(exfalso;omega)))|(with_reducible refine ite_in (fun hb=>?_) (fun hb=>?_)<;>(try simp only[Decidable.not_not]at hb)<;>(try simp only[hb,if_true,if_false,not_false_eq_true,not_true_eq_false, ↓reduceIte])<;>(try simp only[hb0,decide_eq_true_eq,decide_eq_false_iff_not,simprocAttr]at hb)<;>(try(exfalso;omega)))|(refine hK _ _ ?_;clear hK;try simp only[pst0,simprocAttr]))
       refine owp_useQ (containsFunc_c hal hfc) (by(try simp only[Ty.w,simprocAttr,k1,k2,q1,q2,q3]);try rfl) ?_;simp(maxSteps:=2000000) only[Ty.w,simprocAttr,k1,k2,q1,q2,q3]
       repeat'(first|refine a_seq fun K hK=>?_|((first|refine a_regionS ?_|refine a_ret ?_);simp(maxSteps:=2000000) only[Ty.w,simprocAttr,k1,k2,q1,q2,q2p,q3,Bool.not_false,Bool.not_true,not_false_eq_true,not_true_eq_false,if_true,if_false])|(refine hK _ _ ?_;clear hK;try simp only[pst0,simprocAttr]))
       all_goals first|exact G1|exact⟨rfl,G1⟩
      |true=>
       have q2p:=eq_true (eq_of_beq q2)
       have q2i:args.length=2:=by have:=eq_of_beq q2;omega
       repeat'(first|refine a_seq fun K hK=>?_|(refine a_regionS ?_;simp(maxSteps:=2000000) only[Ty.w,simprocAttr,k1,k2,q1,q2,q2p,hlA,Bool.not_true,not_false_eq_true,not_true_eq_false,if_true,if_false])|(refine a_cond _ (by(try simp(maxSteps:=2000000) only[Ty.w,simprocAttr,k1,k2,q1,q2,q2p,hlA,Bool.not_true,not_false_eq_true,not_true_eq_false,if_true,if_false]);rfl) (fun hb=>?_) (fun hb=>?_)<;>(try simp only[hb0,decide_eq_true_eq,decide_eq_false_iff_not,simprocAttr]at hb)<;>(try(exfalso;omega)))|(with_reducible refine ite_in (fun hb=>?_) (fun hb=>?_)<;>(try simp only[Decidable.not_not]at hb)<;>(try simp only[hb,if_true,if_false,not_false_eq_true,not_true_eq_false, ↓reduceIte])<;>(try simp only[hb0,decide_eq_true_eq,decide_eq_false_iff_not,simprocAttr]at hb)<;>(try(exfalso;omega)))|(refine hK _ _ ?_;clear hK;try simp only[pst0,simprocAttr]))
       refine owp_useQ (containsFunc_c hal hfc) (by(try simp only[Ty.w,simprocAttr,k1,k2,q1,q2,q3]);try rfl) ?_;simp(maxSteps:=2000000) only[Ty.w,simprocAttr,k1,k2,q1,q2,q3]
       repeat'(first|(refine a_block ?_)|(refine a_skip ?_;try simp only[pst0,simprocAttr])|(refine hK _ _ ?_;clear hK;try simp only[pst0,simprocAttr]))
       simp(maxSteps:=2000000) only[Ty.w,simprocAttr,Ty.all,Fm.cells]
       exact⟨0,0,false,by simp[shapeOf,(show bEq op opAtom=false from k1),(show bEq op opSame=true from k2)],fun _=>by simp[termsOk,(show bEq op opAtom=false from k1),(show bEq op opSame=true from k2),(show emptyB name=true from q1),(show args.length=2 by simp at q2;omega),q3],rfl,rfl,rfl⟩
   |false=>
    cases k3:(op.data.toList==(#[60]:Array UInt8).toList)with
    |true=>
     repeat'(first|refine a_seq fun K hK=>?_|(refine a_block ?_)|((first|refine a_regionS ?_|refine a_region (fun K hK=>?_));simp(maxSteps:=2000000) only[Ty.w,simprocAttr,k1,k2,k3,hlK])|(refine a_skip ?_;try simp only[pst0,simprocAttr])|(refine a_cond _ (by(try simp(maxSteps:=2000000) only[Ty.w,simprocAttr,k1,k2,k3,hlK]);rfl) (fun hb=>?_) (fun hb=>?_)<;>(try simp only[hb0,decide_eq_true_eq,decide_eq_false_iff_not,simprocAttr]at hb)<;>(try(exfalso;omega)))|(refine hK _ _ ?_;clear hK;try simp only[pst0,simprocAttr]))
     simp(maxSteps:=2000000) only[Ty.w,simprocAttr,Ty.all,Fm.cells]
     exact⟨2,0,false,by simp[shapeOf,(show bEq op opAtom=false from k1),(show bEq op opSame=false from k2),(show bEq op opLt=true from k3)],fun hh=>by simp[(show bEq op opAtom=false from k1),(show bEq op opSame=false from k2)]at hh,rfl,rfl,rfl⟩
    |false=>
     cases k4:(op.data.toList==(#[60,61]:Array UInt8).toList)with
     |true=>
      repeat'(first|refine a_seq fun K hK=>?_|(refine a_block ?_)|((first|refine a_regionS ?_|refine a_region (fun K hK=>?_));simp(maxSteps:=2000000) only[Ty.w,simprocAttr,k1,k2,k3,k4,hlK])|(refine a_skip ?_;try simp only[pst0,simprocAttr])|(refine a_cond _ (by(try simp(maxSteps:=2000000) only[Ty.w,simprocAttr,k1,k2,k3,k4,hlK]);rfl) (fun hb=>?_) (fun hb=>?_)<;>(try simp only[hb0,decide_eq_true_eq,decide_eq_false_iff_not,simprocAttr]at hb)<;>(try(exfalso;omega)))|(refine hK _ _ ?_;clear hK;try simp only[pst0,simprocAttr]))
      simp(maxSteps:=2000000) only[Ty.w,simprocAttr,Ty.all,Fm.cells]
      exact⟨2,0,false,by simp[shapeOf,(show bEq op opAtom=false from k1),(show bEq op opSame=false from k2),(show bEq op opLt=false from k3),(show bEq op opLe=true from k4)],fun hh=>by simp[(show bEq op opAtom=false from k1),(show bEq op opSame=false from k2)]at hh,rfl,rfl,rfl⟩
     |false=>
      cases k5:(op.data.toList==(#[61]:Array UInt8).toList)with
      |true=>
       repeat'(first|refine a_seq fun K hK=>?_|(refine a_block ?_)|((first|refine a_regionS ?_|refine a_region (fun K hK=>?_));simp(maxSteps:=2000000) only[Ty.w,simprocAttr,k1,k2,k3,k4,k5,hlK])|(refine a_cond _ (by(try simp(maxSteps:=2000000) only[Ty.w,simprocAttr,k1,k2,k3,k4,k5,hlK]);rfl) (fun hb=>?_) (fun hb=>?_)<;>(try simp only[hb0,decide_eq_true_eq,decide_eq_false_iff_not,simprocAttr]at hb)<;>(try(exfalso;omega)))|(refine hK _ _ ?_;clear hK;try simp only[pst0,simprocAttr]))
       simp(maxSteps:=2000000) only[Ty.w,simprocAttr,Ty.all,Fm.cells]
       exact⟨2,0,false,by simp[shapeOf,(show bEq op opAtom=false from k1),(show bEq op opSame=false from k2),(show bEq op opLt=false from k3),(show bEq op opLe=false from k4),(show bEq op opEq=true from k5)],fun hh=>by simp[(show bEq op opAtom=false from k1),(show bEq op opSame=false from k2)]at hh,rfl,rfl,rfl⟩
      |false=>
       cases k6:(op.data.toList==(#[97,110,100]:Array UInt8).toList)with
       |true=>
        repeat'(first|refine a_seq fun K hK=>?_|(refine a_block ?_)|((first|refine a_regionS ?_|refine a_region (fun K hK=>?_));simp(maxSteps:=2000000) only[Ty.w,simprocAttr,k1,k2,k3,k4,k5,k6,hlK])|(refine a_skip ?_;try simp only[pst0,simprocAttr])|(refine a_cond _ (by(try simp(maxSteps:=2000000) only[Ty.w,simprocAttr,k1,k2,k3,k4,k5,k6,hlK]);rfl) (fun hb=>?_) (fun hb=>?_)<;>(try simp only[hb0,decide_eq_true_eq,decide_eq_false_iff_not,simprocAttr]at hb)<;>(try(exfalso;omega)))|(refine hK _ _ ?_;clear hK;try simp only[pst0,simprocAttr]))
        simp(maxSteps:=2000000) only[Ty.w,simprocAttr,Ty.all,Fm.cells]
        exact⟨0,kids.length,false,by simp[shapeOf,(show bEq op opAtom=false from k1),(show bEq op opSame=false from k2),(show bEq op opLt=false from k3),(show bEq op opLe=false from k4),(show bEq op opEq=false from k5),(show bEq op opAnd=true from k6)],fun hh=>by simp[(show bEq op opAtom=false from k1),(show bEq op opSame=false from k2)]at hh,rfl,rfl,rfl⟩
       |false=>
        cases k7:(op.data.toList==(#[111,114]:Array UInt8).toList)with
        |true=>
         repeat'(first|refine a_seq fun K hK=>?_|(refine a_block ?_)|((first|refine a_regionS ?_|refine a_region (fun K hK=>?_));simp(maxSteps:=2000000) only[Ty.w,simprocAttr,k1,k2,k3,k4,k5,k6,k7,hlK])|(refine a_cond _ (by(try simp(maxSteps:=2000000) only[Ty.w,simprocAttr,k1,k2,k3,k4,k5,k6,k7,hlK]);rfl) (fun hb=>?_) (fun hb=>?_)<;>(try simp only[hb0,decide_eq_true_eq,decide_eq_false_iff_not,simprocAttr]at hb)<;>(try(exfalso;omega)))|(refine hK _ _ ?_;clear hK;try simp only[pst0,simprocAttr]))
         simp(maxSteps:=2000000) only[Ty.w,simprocAttr,Ty.all,Fm.cells]
         exact⟨0,kids.length,false,by simp[shapeOf,(show bEq op opAtom=false from k1),(show bEq op opSame=false from k2),(show bEq op opLt=false from k3),(show bEq op opLe=false from k4),(show bEq op opEq=false from k5),(show bEq op opAnd=false from k6),(show bEq op opOr=true from k7)],fun hh=>by simp[(show bEq op opAtom=false from k1),(show bEq op opSame=false from k2)]at hh,rfl,rfl,rfl⟩
        |false=>
         cases k8:(op.data.toList==(#[110,111,116]:Array UInt8).toList)with
         |true=>
          repeat'(first|refine a_seq fun K hK=>?_|(refine a_block ?_)|((first|refine a_regionS ?_|refine a_region (fun K hK=>?_));simp(maxSteps:=2000000) only[Ty.w,simprocAttr,k1,k2,k3,k4,k5,k6,k7,k8,hlK])|(refine a_cond _ (by(try simp(maxSteps:=2000000) only[Ty.w,simprocAttr,k1,k2,k3,k4,k5,k6,k7,k8,hlK]);rfl) (fun hb=>?_) (fun hb=>?_)<;>(try simp only[hb0,decide_eq_true_eq,decide_eq_false_iff_not,simprocAttr]at hb)<;>(try(exfalso;omega)))|(refine hK _ _ ?_;clear hK;try simp only[pst0,simprocAttr]))
          simp(maxSteps:=2000000) only[Ty.w,simprocAttr,Ty.all,Fm.cells]
          exact⟨0,1,false,by simp[shapeOf,(show bEq op opAtom=false from k1),(show bEq op opSame=false from k2),(show bEq op opLt=false from k3),(show bEq op opLe=false from k4),(show bEq op opEq=false from k5),(show bEq op opAnd=false from k6),(show bEq op opOr=false from k7),(show bEq op opNot=true from k8)],fun hh=>by simp[(show bEq op opAtom=false from k1),(show bEq op opSame=false from k2)]at hh,rfl,rfl,rfl⟩
         |false=>
          cases k9:(op.data.toList==(#[105,109,112,108,121]:Array UInt8).toList)with
          |true=>
           repeat'(first|refine a_seq fun K hK=>?_|(refine a_block ?_)|((first|refine a_regionS ?_|refine a_region (fun K hK=>?_));simp(maxSteps:=2000000) only[Ty.w,simprocAttr,k1,k2,k3,k4,k5,k6,k7,k8,k9,hlK])|(refine a_cond _ (by(try simp(maxSteps:=2000000) only[Ty.w,simprocAttr,k1,k2,k3,k4,k5,k6,k7,k8,k9,hlK]);rfl) (fun hb=>?_) (fun hb=>?_)<;>(try simp only[hb0,decide_eq_true_eq,decide_eq_false_iff_not,simprocAttr]at hb)<;>(try(exfalso;omega)))|(refine hK _ _ ?_;clear hK;try simp only[pst0,simprocAttr]))
           simp(maxSteps:=2000000) only[Ty.w,simprocAttr,Ty.all,Fm.cells]
           exact⟨0,2,false,by simp[shapeOf,(show bEq op opAtom=false from k1),(show bEq op opSame=false from k2),(show bEq op opLt=false from k3),(show bEq op opLe=false from k4),(show bEq op opEq=false from k5),(show bEq op opAnd=false from k6),(show bEq op opOr=false from k7),(show bEq op opNot=false from k8),(show bEq op opImp=true from k9)],fun hh=>by simp[(show bEq op opAtom=false from k1),(show bEq op opSame=false from k2)]at hh,rfl,rfl,rfl⟩
          |false=>
           cases k10:(op.data.toList==(#[102,111,114,97,108,108]:Array UInt8).toList)with
           |true=>
            repeat'(first|refine a_seq fun K hK=>?_|(refine a_block ?_)|((first|refine a_regionS ?_|refine a_region (fun K hK=>?_));simp(maxSteps:=2000000) only[Ty.w,simprocAttr,k1,k2,k3,k4,k5,k6,k7,k8,k9,k10,hlK])|(refine a_skip ?_;try simp only[pst0,simprocAttr])|(refine a_cond _ (by(try simp(maxSteps:=2000000) only[Ty.w,simprocAttr,k1,k2,k3,k4,k5,k6,k7,k8,k9,k10,hlK]);rfl) (fun hb=>?_) (fun hb=>?_)<;>(try simp only[hb0,decide_eq_true_eq,decide_eq_false_iff_not,simprocAttr]at hb)<;>(try(exfalso;omega)))|(refine hK _ _ ?_;clear hK;try simp only[pst0,simprocAttr]))
            simp(maxSteps:=2000000) only[Ty.w,simprocAttr,Ty.all,Fm.cells]
            exact⟨0,1,true,by simp[shapeOf,(show bEq op opAtom=false from k1),(show bEq op opSame=false from k2),(show bEq op opLt=false from k3),(show bEq op opLe=false from k4),(show bEq op opEq=false from k5),(show bEq op opAnd=false from k6),(show bEq op opOr=false from k7),(show bEq op opNot=false from k8),(show bEq op opImp=false from k9),(show bEq op opAll=true from k10)],fun hh=>by simp[(show bEq op opAtom=false from k1),(show bEq op opSame=false from k2)]at hh,rfl,rfl,rfl⟩
           |false=>
            cases k11:(op.data.toList==(#[101,120,105,115,116,115]:Array UInt8).toList)with
            |true=>
             repeat'(first|refine a_seq fun K hK=>?_|(refine a_block ?_)|((first|refine a_regionS ?_|refine a_region (fun K hK=>?_));simp(maxSteps:=2000000) only[Ty.w,simprocAttr,k1,k2,k3,k4,k5,k6,k7,k8,k9,k10,k11,hlK])|(refine a_cond _ (by(try simp(maxSteps:=2000000) only[Ty.w,simprocAttr,k1,k2,k3,k4,k5,k6,k7,k8,k9,k10,k11,hlK]);rfl) (fun hb=>?_) (fun hb=>?_)<;>(try simp only[hb0,decide_eq_true_eq,decide_eq_false_iff_not,simprocAttr]at hb)<;>(try(exfalso;omega)))|(refine hK _ _ ?_;clear hK;try simp only[pst0,simprocAttr]))
             simp(maxSteps:=2000000) only[Ty.w,simprocAttr,Ty.all,Fm.cells]
             exact⟨0,1,true,by simp[shapeOf,(show bEq op opAtom=false from k1),(show bEq op opSame=false from k2),(show bEq op opLt=false from k3),(show bEq op opLe=false from k4),(show bEq op opEq=false from k5),(show bEq op opAnd=false from k6),(show bEq op opOr=false from k7),(show bEq op opNot=false from k8),(show bEq op opImp=false from k9),(show bEq op opAll=false from k10),(show bEq op opSome=true from k11)],fun hh=>by simp[(show bEq op opAtom=false from k1),(show bEq op opSame=false from k2)]at hh,rfl,rfl,rfl⟩
            |false=>
             have hp:=hFf (by simp[partsOk,shapeOf,termsOk,(show bEq op opAtom=false from k1),(show bEq op opSame=false from k2),(show bEq op opLt=false from k3),(show bEq op opLe=false from k4),(show bEq op opEq=false from k5),(show bEq op opAnd=false from k6),(show bEq op opOr=false from k7),(show bEq op opNot=false from k8),(show bEq op opImp=false from k9),(show bEq op opAll=false from k10),(show bEq op opSome=false from k11)])
             subst hp
             repeat'(first|refine a_seq fun K hK=>?_|((first|refine a_regionS ?_|refine a_ret ?_);simp(maxSteps:=2000000) only[Ty.w,simprocAttr,k1,k2,k3,k4,k5,k6,k7,k8,k9,k10,k11])|(refine a_cond _ (by(try simp(maxSteps:=2000000) only[Ty.w,simprocAttr,k1,k2,k3,k4,k5,k6,k7,k8,k9,k10,k11]);rfl) (fun hb=>?_) (fun hb=>?_)<;>(try simp only[hb0,decide_eq_true_eq,decide_eq_false_iff_not,simprocAttr]at hb)<;>(try(exfalso;omega)))|(refine hK _ _ ?_;clear hK;try simp only[pst0,simprocAttr]))
             all_goals first|exact G1|exact⟨rfl,G1⟩
 ·rintro S h' ⟨rfl,g1,g2,g3,e,m,q,hs,ht,g7,g8,g9⟩
  simp only[Fm.cells]at g3
  have hO:headOk op name args params.length exprs.length kids.length=(termsOk op name args&&decide (exprs.length=e)&&decide (kids.length=m)&&(decide (params.length=0)||q)):=by unfold headOk;rw[hs]
  repeat'(with_reducible refine a_hold 24 ?_)
  refine⟨?_⟩
  refine a_cut (fun S h2=>h2=h'∧S 1= .sc (.int .i64 d)∧S 2= .ptr id 0 0∧S 3= .cptr (Fm.mk op name args params exprs kids).cells∧headOk op name args params.length exprs.length kids.length=true) ?_ ?_
  ·have hFh:headOk op name args params.length exprs.length kids.length=false→F=(false,n+1):=fun hh=>hFf (by rw[partsOk_head,hh];try rfl)
   have tA:bEq op opAtom=(op.data.toList==(#[97,116,111,109]:Array UInt8).toList):=rfl
   have tS:bEq op opSame=(op.data.toList==(#[115,97,109,101]:Array UInt8).toList):=rfl
   clear hFf hFt ih hs
   refine a_seq (fun K hK=>?_)
   refine a_regionS (lwn_cut 20 (fun S h2=>h2=h'∧S 1= .sc (.int .i64 d)∧S 2= .ptr id 0 0∧S 3= .cptr (Fm.mk op name args params exprs kids).cells∧S 7= .sc (.int .i64 e)∧S 8= .sc (.bool q)∧S 9= .sc (.int .i64 m)∧ ∃ b,S 91= .sc (.bool b)∧(b=true→F=(false,n+1))∧(b=false→termsOk op name args=true)) ?_ ?_)
   ·cases k1:(op.data.toList==(#[97,116,111,109]:Array UInt8).toList)with
    |true=>
     simp(maxSteps:=2000000) only[Ty.w,simprocAttr,Ty.all,g1,g2,g3,g7,g8,g9,hlA,k1,Bool.not_true,Bool.not_false,Fm.cells]
     exact⟨false,rfl,fun hh=>absurd hh (by simp),fun _=>ht (by rw[tA,k1];try rfl)⟩
    |false=>
     cases k2:(op.data.toList==(#[115,97,109,101]:Array UInt8).toList)with
     |true=>
      simp(maxSteps:=2000000) only[Ty.w,simprocAttr,Ty.all,g1,g2,g3,g7,g8,g9,hlA,k1,k2,Bool.not_true,Bool.not_false,Fm.cells]
      exact⟨false,rfl,fun hh=>absurd hh (by simp),fun _=>ht (by rw[tS,k2];simp)⟩
     |false=>
      cases q1:(name.data.toList==(#[]:Array UInt8).toList)with
      |false=>
       simp(maxSteps:=2000000) only[Ty.w,simprocAttr,Ty.all,g1,g2,g3,g7,g8,g9,hlA,k1,k2,q1,Bool.not_true,Bool.not_false,Fm.cells]
       exact⟨true,rfl,fun _=>hFh (by rw[hO];simp[termsOk,tA,tS,k1,k2,(show emptyB name=false from q1)]),fun hh=>absurd hh (by simp)⟩
      |true=>
       cases q2:decide ((args.length:Int)>0)with
       |true=>
        simp(maxSteps:=2000000) only[Ty.w,simprocAttr,Ty.all,g1,g2,g3,g7,g8,g9,hlA,k1,k2,q1,q2,Bool.not_true,Bool.not_false,Fm.cells]
        exact⟨true,rfl,fun _=>hFh (by rw[hO];cases args with|nil=>simp at q2|cons a l=>simp[termsOk,tA,tS,k1,k2]),fun hh=>absurd hh (by simp)⟩
       |false=>
        simp(maxSteps:=2000000) only[Ty.w,simprocAttr,Ty.all,g1,g2,g3,g7,g8,g9,hlA,k1,k2,q1,q2,Bool.not_true,Bool.not_false,Fm.cells]
        exact⟨false,rfl,fun hh=>absurd hh (by simp),fun _=>by cases args with|nil=>simp[termsOk,tA,tS,k1,k2,(show emptyB name=true from q1)]|cons a l=>simp at q2⟩
   ·clear g1 g2 g3 g7 g8 g9
    rintro S h2 ⟨rfl,g1,g2,g3,g7,g8,g9,b,g91,hbt,hbf⟩
    simp only[Fm.cells]at g3
    clear ht tA tS
    cases b with
    |true=>
     have hp:=hbt rfl
     subst hp
     simp(maxSteps:=2000000) only[Ty.w,simprocAttr,Ty.all,g1,g2,g3,g91,Bool.not_true,Bool.not_false]
     repeat'(first|refine a_seq fun K hK=>?_|((first|refine a_regionS ?_|refine a_ret ?_);simp(maxSteps:=2000000) only[Ty.w,simprocAttr,g1,g2,g3,g91])|(refine hK _ _ ?_;clear hK;try simp only[pst0,simprocAttr]))
     all_goals first|exact G1|exact⟨rfl,G1⟩
    |false=>
     have hts:=hbf rfl
     clear hbt hbf
     cases c1:((exprs.length:Int)==(e:Int))with
     |false=>
      have hp:=hFh (by rw[hO];simp[(show ¬ exprs.length=e by simp at c1;omega)])
      subst hp
      have c1p:=eq_false (ne_of_beq_false c1)
      have c1i:¬ exprs.length=e:=by have:=ne_of_beq_false c1;omega
      simp(maxSteps:=2000000) only[Ty.w,simprocAttr,Ty.all,g1,g2,g3,g7,g8,g9,hlA,hlP,hlE,hlK,g91,c1,c1p,Bool.not_true,Bool.not_false,not_false_eq_true,not_true_eq_false,if_true,if_false]
      repeat'(first|refine a_seq fun K hK=>?_|((first|refine a_regionS ?_|refine a_ret ?_);simp(maxSteps:=2000000) only[Ty.w,simprocAttr,g1,g2,g3,g7,g8,g9,hlA,hlP,hlE,hlK,g91,c1,c1p,Bool.not_true,Bool.not_false,not_false_eq_true,not_true_eq_false,if_true,if_false])|(with_reducible refine ite_in (fun hb=>?_) (fun hb=>?_)<;>(try simp only[Decidable.not_not]at hb)<;>(try simp only[hb,if_true,if_false,not_false_eq_true,not_true_eq_false, ↓reduceIte])<;>(try simp only[hb0,decide_eq_true_eq,decide_eq_false_iff_not,simprocAttr]at hb)<;>(try(exfalso;omega)))|(refine hK _ _ ?_;clear hK;try simp only[pst0,simprocAttr]))
      all_goals first|exact G1|exact⟨rfl,G1⟩
     |true=>
      have c1p:=eq_true (eq_of_beq c1)
      have c1i:exprs.length=e:=by have:=eq_of_beq c1;omega
      cases c2:((kids.length:Int)==(m:Int))with
      |false=>
       have c2p:=eq_false (ne_of_beq_false c2)
       have c2i:¬ kids.length=m:=by have:=ne_of_beq_false c2;omega
       have hp:=hFh (by rw[hO];simp[(show ¬ kids.length=m by simp at c2;omega)])
       subst hp
       simp(maxSteps:=2000000) only[Ty.w,simprocAttr,Ty.all,g1,g2,g3,g7,g8,g9,hlA,hlP,hlE,hlK,g91,c1,c2,c1p,c2p,Bool.not_true,Bool.not_false,not_false_eq_true,not_true_eq_false,if_true,if_false]
       repeat'(first|refine a_seq fun K hK=>?_|((first|refine a_regionS ?_|refine a_ret ?_);simp(maxSteps:=2000000) only[Ty.w,simprocAttr,g1,g2,g3,g7,g8,g9,hlA,hlP,hlE,hlK,g91,c1,c2,c1p,c2p,Bool.not_true,Bool.not_false,not_false_eq_true,not_true_eq_false,if_true,if_false])|(with_reducible refine ite_in (fun hb=>?_) (fun hb=>?_)<;>(try simp only[Decidable.not_not]at hb)<;>(try simp only[hb,if_true,if_false,not_false_eq_true,not_true_eq_false, ↓reduceIte])<;>(try simp only[hb0,decide_eq_true_eq,decide_eq_false_iff_not,simprocAttr]at hb)<;>(try(exfalso;omega)))|(refine hK _ _ ?_;clear hK;try simp only[pst0,simprocAttr]))
       all_goals first|exact G1|exact⟨rfl,G1⟩
      |true=>
       have c2p:=eq_true (eq_of_beq c2)
       have c2i:kids.length=m:=by have:=eq_of_beq c2;omega
       cases c3:decide ((params.length:Int)>0)with
       |false=>
        have c3e:params=[]:=List.eq_nil_of_length_eq_zero (by have:=of_decide_eq_false c3;omega)
        simp(maxSteps:=2000000) only[Ty.w,simprocAttr,Ty.all,g1,g2,g3,g7,g8,g9,hlA,hlP,hlE,hlK,g91,c1,c2,c3,c1p,c2p,Bool.not_true,Bool.not_false,not_false_eq_true,not_true_eq_false,if_true,if_false]
        repeat'(first|(refine a_skip ?_;try simp only[pst0,simprocAttr])|(refine a_cond _ (by(try simp(maxSteps:=2000000) only[Ty.w,simprocAttr,g1,g2,g3,g7,g8,g9,hlA,hlP,hlE,hlK,g91,c1,c2,c3,c1p,c2p,Bool.not_true,Bool.not_false,not_false_eq_true,not_true_eq_false,if_true,if_false]);rfl) (fun hb=>?_) (fun hb=>?_)<;>(try simp only[hb0,decide_eq_true_eq,decide_eq_false_iff_not,simprocAttr]at hb)<;>(try(exfalso;omega)))|(with_reducible refine ite_in (fun hb=>?_) (fun hb=>?_)<;>(try simp only[Decidable.not_not]at hb)<;>(try simp only[hb,if_true,if_false,not_false_eq_true,not_true_eq_false, ↓reduceIte])<;>(try simp only[hb0,decide_eq_true_eq,decide_eq_false_iff_not,simprocAttr]at hb)<;>(try(exfalso;omega)))|(refine hK _ _ ?_;clear hK;try simp only[pst0,simprocAttr]))
        simp(maxSteps:=2000000) only[Ty.w,simprocAttr,Ty.all,g1,g2,g3,Fm.cells]
        rw[hO,hts];simp[(show exprs.length=e by simp at c1;omega),(show kids.length=m by simp at c2;omega),c3e]
       |true=>
        cases q with
        |false=>
         have hp:=hFh (by rw[hO];simp[(show ¬ params.length=0 by have:=of_decide_eq_true c3;omega)])
         subst hp
         simp(maxSteps:=2000000) only[Ty.w,simprocAttr,Ty.all,g1,g2,g3,g7,g8,g9,hlA,hlP,hlE,hlK,g91,c1,c2,c3,c1p,c2p,Bool.not_true,Bool.not_false,not_false_eq_true,not_true_eq_false,if_true,if_false]
         repeat'(first|refine a_seq fun K hK=>?_|((first|refine a_regionS ?_|refine a_ret ?_);simp(maxSteps:=2000000) only[Ty.w,simprocAttr,g1,g2,g3,g7,g8,g9,hlA,hlP,hlE,hlK,g91,c1,c2,c3,c1p,c2p,Bool.not_true,Bool.not_false,not_false_eq_true,not_true_eq_false,if_true,if_false])|(with_reducible refine ite_in (fun hb=>?_) (fun hb=>?_)<;>(try simp only[Decidable.not_not]at hb)<;>(try simp only[hb,if_true,if_false,not_false_eq_true,not_true_eq_false, ↓reduceIte])<;>(try simp only[hb0,decide_eq_true_eq,decide_eq_false_iff_not,simprocAttr]at hb)<;>(try(exfalso;omega)))|(refine hK _ _ ?_;clear hK;try simp only[pst0,simprocAttr]))
         all_goals first|exact G1|exact⟨rfl,G1⟩
        |true=>
         simp(maxSteps:=2000000) only[Ty.w,simprocAttr,Ty.all,g1,g2,g3,g7,g8,g9,hlA,hlP,hlE,hlK,g91,c1,c2,c3,c1p,c2p,Bool.not_true,Bool.not_false,not_false_eq_true,not_true_eq_false,if_true,if_false]
         repeat'(first|(refine a_skip ?_;try simp only[pst0,simprocAttr])|(refine a_cond _ (by(try simp(maxSteps:=2000000) only[Ty.w,simprocAttr,g1,g2,g3,g7,g8,g9,hlA,hlP,hlE,hlK,g91,c1,c2,c3,c1p,c2p,Bool.not_true,Bool.not_false,not_false_eq_true,not_true_eq_false,if_true,if_false]);rfl) (fun hb=>?_) (fun hb=>?_)<;>(try simp only[hb0,decide_eq_true_eq,decide_eq_false_iff_not,simprocAttr]at hb)<;>(try(exfalso;omega)))|(with_reducible refine ite_in (fun hb=>?_) (fun hb=>?_)<;>(try simp only[Decidable.not_not]at hb)<;>(try simp only[hb,if_true,if_false,not_false_eq_true,not_true_eq_false, ↓reduceIte])<;>(try simp only[hb0,decide_eq_true_eq,decide_eq_false_iff_not,simprocAttr]at hb)<;>(try(exfalso;omega)))|(refine hK _ _ ?_;clear hK;try simp only[pst0,simprocAttr]))
         simp(maxSteps:=2000000) only[Ty.w,simprocAttr,Ty.all,g1,g2,g3,Fm.cells]
         rw[hO,hts];simp[(show exprs.length=e by simp at c1;omega),(show kids.length=m by simp at c2;omega)]
  ·clear g1 g2 g3 g7 g8 g9 ht hO hs
   rintro S h2 ⟨rfl,g1,g2,g3,hH⟩
   simp only[Fm.cells]at g3
   repeat'(with_reducible refine a_hold 26 ?_)
   refine⟨?_⟩
   refine a_cut (fun S h'=>S 1= .sc (.int .i64 d)∧S 2= .ptr id 0 0∧S 3= .cptr (Fm.mk op name args params exprs kids).cells∧GrowX h id (cntO (n+1)) h'∧params.all pmOk=true) ?_ ?_
   ·have hFp:params.all pmOk=false→F=(false,n+1):=fun hh=>hFf (by rw[partsOk_head,hh];simp)
    clear hFf hFt ih
    repeat'(first|refine a_seq fun K hK=>?_|(refine a_block ?_)|(refine a_regionS ?_;simp(maxSteps:=2000000) only[Ty.w,simprocAttr,g1,g2,g3,hlP])|(refine hK _ _ ?_;clear hK;try simp only[pst0,simprocAttr]))
    refine a_loop (fun c S h'=>S 1= .sc (.int .i64 d)∧S 2= .ptr id 0 0∧S 3= .cptr (Fm.mk op name args params exprs kids).cells∧S 116= .imm 2 (pmRows params)∧S 117= .sc (.int .i64 params.length)∧ ∃ k:Nat,S 118= .sc (.int .i64 k)∧k≤params.length∧c=params.length-k∧GrowX h id (cntO (n+1)) h'∧params.all pmOk=(params.drop k).all pmOk) params.length ?_ ?_
    ·simp only[Ty.w,simprocAttr,g1,g2,g3,Fm.cells]
     exact⟨0,rfl,by omega,rfl,G1,rfl⟩
    ·clear G1 hO1 g1 g2 g3
     rintro c S h' ⟨g1,g2,g3,g116,g117,k,g118,hk,rfl,hG,hall⟩
     simp only[Fm.cells]at g3
     by_cases hlt:k<params.length
     ·have hdk:decide ((k:Int)<(params.length:Int))=true:=by simp;omega
      have w7:IntKind.i64.wrap ((k:Int)+1)=k+1:=by rw[wrap64 (by omega) (by omega)]
      obtain⟨p,hx⟩: ∃ p,params[k]? =some p:=⟨_,List.getElem?_eq_getElem hlt⟩
      have hr:=pmRows_get hx
      have hpk:=hps p (List.mem_of_getElem? hx)
      obtain⟨hp1,hp2⟩:=hpk
      have hp1':p.name.size≤9223372036854775807:=by unfold bigN at hp1;omega
      have hG2:GrowX h id (cntO (n+1)) ((h'.new (.arr 2 [[.sc (.string ⟨#[]⟩),.sc (.string ⟨#[]⟩)]])).set h'.next (.arr 2 [[sPV p.name,sPV p.type]])):=(hG.new hid).set hid hG.le
      rw[drop_get hx]at hall
      simp only[List.all_cons,pmOk]at hall
      cases v1:varB p.name with
      |false=>
       have hp:=hFp (by rw[hall,v1];try rfl)
       subst hp
       have W:=And.intro g1 (And.intro g2 (And.intro g3 (And.intro g116 (And.intro g117 (And.intro g118 v1)))))
       repeat'(first|refine a_seq fun K hK=>?_|(refine a_regionS ?_;simp(maxSteps:=2000000) only[Ty.w,simprocAttr,W,hdk,hr])|(refine a_skip ?_;try simp only[pst0,simprocAttr])|(refine a_cond _ (by(try simp(maxSteps:=2000000) only[Ty.w,simprocAttr,W,hdk,hr]);rfl) (fun hb=>?_) (fun hb=>?_)<;>(try simp only[hb0,decide_eq_true_eq,decide_eq_false_iff_not,simprocAttr]at hb)<;>(try(exfalso;omega)))|(refine hK _ _ ?_;clear hK;try simp only[pst0,simprocAttr]))
       refine owp_useQ (fvariable_c (s:=p.name) hp1') (by(try simp only[Ty.w,simprocAttr,W]);try rfl) ?_;simp(maxSteps:=2000000) only[Ty.w,simprocAttr,W]
       repeat'(first|refine a_seq fun K hK=>?_|((first|refine a_regionS ?_|refine a_ret ?_);simp(maxSteps:=2000000) only[Ty.w,simprocAttr,W,Bool.not_false])|(refine hK _ _ ?_;clear hK;try simp only[pst0,simprocAttr]))
       first|exact hG2|exact⟨rfl,hG2⟩
      |true=>
       cases v2:typedB p.type with
       |false=>
        have hp:=hFp (by rw[hall,v1,v2];try rfl)
        subst hp
        have W:=And.intro g1 (And.intro g2 (And.intro g3 (And.intro g116 (And.intro g117 (And.intro g118 (And.intro v1 v2))))))
        repeat'(first|refine a_seq fun K hK=>?_|(refine a_regionS ?_;simp(maxSteps:=2000000) only[Ty.w,simprocAttr,W,hdk,hr])|(refine a_skip ?_;try simp only[pst0,simprocAttr])|(refine a_cond _ (by(try simp(maxSteps:=2000000) only[Ty.w,simprocAttr,W,hdk,hr]);rfl) (fun hb=>?_) (fun hb=>?_)<;>(try simp only[hb0,decide_eq_true_eq,decide_eq_false_iff_not,simprocAttr]at hb)<;>(try(exfalso;omega)))|(refine hK _ _ ?_;clear hK;try simp only[pst0,simprocAttr]))
        refine owp_useQ (fvariable_c (s:=p.name) hp1') (by(try simp only[Ty.w,simprocAttr,W]);try rfl) ?_;simp(maxSteps:=2000000) only[Ty.w,simprocAttr,W]
        skip
        refine owp_useQ (typed_c (s:=p.type) hp2) (by(try simp only[Ty.w,simprocAttr,W]);try rfl) ?_;simp(maxSteps:=2000000) only[Ty.w,simprocAttr,W]
        repeat'(first|refine a_seq fun K hK=>?_|((first|refine a_regionS ?_|refine a_ret ?_);simp(maxSteps:=2000000) only[Ty.w,simprocAttr,W,Bool.not_false,Bool.not_true])|(refine hK _ _ ?_;clear hK;try simp only[pst0,simprocAttr]))
        first|exact hG2|exact⟨rfl,hG2⟩
       |true=>
        rw[v1,v2]at hall
        have W:=And.intro g1 (And.intro g2 (And.intro g3 (And.intro g116 (And.intro g117 (And.intro g118 (And.intro v1 v2))))))
        repeat'(first|refine a_seq fun K hK=>?_|(refine a_regionS ?_;simp(maxSteps:=2000000) only[Ty.w,simprocAttr,W,hdk,hr])|(refine a_skip ?_;try simp only[pst0,simprocAttr])|(refine a_cond _ (by(try simp(maxSteps:=2000000) only[Ty.w,simprocAttr,W,hdk,hr]);rfl) (fun hb=>?_) (fun hb=>?_)<;>(try simp only[hb0,decide_eq_true_eq,decide_eq_false_iff_not,simprocAttr]at hb)<;>(try(exfalso;omega)))|(refine hK _ _ ?_;clear hK;try simp only[pst0,simprocAttr]))
        refine owp_useQ (fvariable_c (s:=p.name) hp1') (by(try simp only[Ty.w,simprocAttr,W]);try rfl) ?_;simp(maxSteps:=2000000) only[Ty.w,simprocAttr,W]
        skip
        refine owp_useQ (typed_c (s:=p.type) hp2) (by(try simp only[Ty.w,simprocAttr,W]);try rfl) ?_;simp(maxSteps:=2000000) only[Ty.w,simprocAttr,W]
        repeat'(first|(refine a_block ?_)|(refine a_regionS ?_;simp(maxSteps:=2000000) only[Ty.w,simprocAttr,W,w7,Bool.not_true])|(refine a_skip ?_;try simp only[pst0,simprocAttr])|(refine hK _ _ ?_;clear hK;try simp only[pst0,simprocAttr]))
        exact⟨params.length-(k+1),by omega,by simp only[Fm.cells],k+1,by simp,by omega,rfl,hG2,by simpa using hall⟩
     ·have hdk:decide ((k:Int)<(params.length:Int))=false:=by simp;omega
      rw[List.drop_eq_nil_of_le (by omega)]at hall
      repeat'(first|refine a_seq fun K hK=>?_|(refine a_regionS ?_;simp(maxSteps:=2000000) only[Ty.w,simprocAttr,g1,g2,g3,g116,g117,g118,hdk])|(refine a_exit ?_;try simp only[pst0,simprocAttr])|(refine a_cond _ (by(try simp(maxSteps:=2000000) only[Ty.w,simprocAttr,g1,g2,g3,g116,g117,g118,hdk]);rfl) (fun hb=>?_) (fun hb=>?_)<;>(try simp only[hb0,decide_eq_true_eq,decide_eq_false_iff_not,simprocAttr]at hb)<;>(try(exfalso;omega)))|(refine hK _ _ ?_;clear hK;try simp only[pst0,simprocAttr]))
      simp(maxSteps:=2000000) only[Ty.w,simprocAttr,Ty.all,g1,g2,g3,Fm.cells]
      exact⟨hG,hall⟩
   ·clear g1 g2 g3 G1 hO1
    rintro S h' ⟨g1,g2,g3,hG,hall⟩
    simp only[Fm.cells]at g3
    have hFe:=hFt (by rw[partsOk_head,hH,hall];try rfl)
    clear hFt hFf hH hall
    repeat'(with_reducible refine a_hold 32 ?_)
    refine⟨?_⟩
    refine a_cut (fun S h'=>S 1= .sc (.int .i64 d)∧S 2= .ptr id 0 0∧S 3= .cptr (Fm.mk op name args params exprs kids).cells∧ ∃ n':Nat,n'≤4096∧GrowX h id (cntO n') h'∧F=shapedMs kids (d+1) n') ?_ ?_
    ·clear ih
     repeat'(first|refine a_seq fun K hK=>?_|(refine a_block ?_)|(refine a_regionS ?_;simp(maxSteps:=2000000) only[Ty.w,simprocAttr,g1,g2,g3,hlE])|(refine hK _ _ ?_;clear hK;try simp only[pst0,simprocAttr]))
     refine a_loop (fun c S h'=>S 1= .sc (.int .i64 d)∧S 2= .ptr id 0 0∧S 3= .cptr (Fm.mk op name args params exprs kids).cells∧S 134= .imm 5 (Ex.rows exprs)∧S 135= .sc (.int .i64 exprs.length)∧ ∃ k n':Nat,S 136= .sc (.int .i64 k)∧k≤exprs.length∧c=exprs.length-k∧n'≤4096∧GrowX h id (cntO n') h'∧F=(match formedMs (exprs.drop k) (d+1) n' with
      |(true,c')=>shapedMs kids (d+1) c'
      |(false,c')=>(false,c'))) exprs.length ?_ ?_
     ·simp only[Ty.w,simprocAttr,g1,g2,g3,Fm.cells]
      exact⟨0,n+1,rfl,by omega,rfl,by omega,hG,hFe⟩
     ·clear g1 g2 g3 hG hFe
      rintro c S h' ⟨g1,g2,g3,g134,g135,k,n',g136,hk,rfl,hn',hG,hFe⟩
      simp only[Fm.cells]at g3
      by_cases hlt:k<exprs.length
      ·have hdk:decide ((k:Int)<(exprs.length:Int))=true:=by simp;omega
       have w7:IntKind.i64.wrap ((k:Int)+1)=k+1:=by rw[wrap64 (by omega) (by omega)]
       obtain⟨x,hx⟩: ∃ x,exprs[k]? =some x:=⟨_,List.getElem?_eq_getElem hlt⟩
       have hmem:=List.mem_of_getElem? hx
       have hr:=Ex.rows_get hx
       have hne:id≠h'.next:=by have:=hG.le;omega
       have hcx:=formed_c x (hes x hmem) (d+1) n' (by omega) hn' id ((h'.new (.arr 5 [[.sc (.string ⟨#[]⟩),.sc (.string ⟨#[]⟩),.sc (.int .i64 0),.sc (.slice none 0 0),.sc (.slice none 0 0)]])).set h'.next (.arr 5 [x.cells])) (by simp only[Heap.set,Heap.new];rw[if_neg hne,if_neg hne];exact hG.at_)
       have hG2:GrowX h id (cntO n') ((h'.new (.arr 5 [[.sc (.string ⟨#[]⟩),.sc (.string ⟨#[]⟩),.sc (.int .i64 0),.sc (.slice none 0 0),.sc (.slice none 0 0)]])).set h'.next (.arr 5 [x.cells])):=(hG.new hid).set hid hG.le
       have hle:=formedM_le x (d+1) n'
       rw[drop_get hx]at hFe
       simp only[formedMs]at hFe
       generalize formedM x (d+1) n'=V at hcx hle hFe
       obtain⟨b,n''⟩:=V
       simp only[natc]at hcx hle hFe
       obtain⟨xo,xn,xv,xa,xk⟩:=x
       simp only[Ex.cells]at hr hcx hG2
       repeat'(first|refine a_seq fun K hK=>?_|(refine a_regionS ?_;simp(maxSteps:=2000000) only[Ty.w,simprocAttr,g1,g2,g3,g134,g135,g136,hdk,hr,wd])|(refine a_skip ?_;try simp only[pst0,simprocAttr])|(refine a_cond _ (by(try simp(maxSteps:=2000000) only[Ty.w,simprocAttr,g1,g2,g3,g134,g135,g136,hdk,hr,wd]);rfl) (fun hb=>?_) (fun hb=>?_)<;>(try simp only[hb0,decide_eq_true_eq,decide_eq_false_iff_not,simprocAttr]at hb)<;>(try(exfalso;omega)))|(refine hK _ _ ?_;clear hK;try simp only[pst0,simprocAttr]))
       refine owp_useH (hcx) (by(try simp only[Ty.w,simprocAttr,g1,g2,g3,g134,g135,g136,hr,wd]);try rfl) ?_;simp(maxSteps:=2000000) only[Ty.w,simprocAttr,g1,g2,g3,g134,g135,g136,hr,wd]
       cases b with
       |false=>
        simp only at hFe
        subst hFe
        repeat'(first|refine a_seq fun K hK=>?_|((first|refine a_regionS ?_|refine a_ret ?_);simp(maxSteps:=2000000) only[Ty.w,simprocAttr,g1,g2,g3,g134,g135,g136,Bool.not_false])|(refine hK _ _ ?_;clear hK;try simp only[pst0,simprocAttr]))
        first|exact hG2.put|exact⟨rfl,hG2.put⟩
       |true=>
        simp only at hFe
        repeat'(first|(refine a_block ?_)|(refine a_regionS ?_;simp(maxSteps:=2000000) only[Ty.w,simprocAttr,g1,g2,g3,g134,g135,g136,w7,Bool.not_true])|(refine a_skip ?_;try simp only[pst0,simprocAttr])|(refine hK _ _ ?_;clear hK;try simp only[pst0,simprocAttr]))
        exact⟨exprs.length-(k+1),by omega,by simp only[Fm.cells],k+1,n'',by simp,by omega,rfl,hle rfl,hG2.put,hFe⟩
      ·have hdk:decide ((k:Int)<(exprs.length:Int))=false:=by simp;omega
       rw[List.drop_eq_nil_of_le (by omega)]at hFe
       simp only[formedMs]at hFe
       repeat'(first|refine a_seq fun K hK=>?_|(refine a_regionS ?_;simp(maxSteps:=2000000) only[Ty.w,simprocAttr,g1,g2,g3,g134,g135,g136,hdk])|(refine a_exit ?_;try simp only[pst0,simprocAttr])|(refine a_cond _ (by(try simp(maxSteps:=2000000) only[Ty.w,simprocAttr,g1,g2,g3,g134,g135,g136,hdk]);rfl) (fun hb=>?_) (fun hb=>?_)<;>(try simp only[hb0,decide_eq_true_eq,decide_eq_false_iff_not,simprocAttr]at hb)<;>(try(exfalso;omega)))|(refine hK _ _ ?_;clear hK;try simp only[pst0,simprocAttr]))
       simp(maxSteps:=2000000) only[Ty.w,simprocAttr,Ty.all,g1,g2,g3,Fm.cells]
       exact⟨n',hn',hG,hFe⟩
    ·clear g1 g2 g3 hG hFe
     rintro S h' ⟨g1,g2,g3,n0,hn0,hG,hFe⟩
     simp only[Fm.cells]at g3
     repeat'(first|refine a_seq fun K hK=>?_|(refine a_block ?_)|(refine a_regionS ?_;simp(maxSteps:=2000000) only[Ty.w,simprocAttr,g1,g2,g3,hlK])|(refine hK _ _ ?_;clear hK;try simp only[pst0,simprocAttr]))
     refine a_loop (fun c S h'=>S 1= .sc (.int .i64 d)∧S 2= .ptr id 0 0∧S 148= .imm 6 (Fm.rows kids)∧S 149= .sc (.int .i64 kids.length)∧ ∃ k n':Nat,S 150= .sc (.int .i64 k)∧k≤kids.length∧c=kids.length-k∧n'≤4096∧GrowX h id (cntO n') h'∧F=shapedMs (kids.drop k) (d+1) n') kids.length ?_ ?_
     ·simp only[Ty.w,simprocAttr,g1,g2]
      exact⟨0,n0,rfl,by omega,rfl,hn0,hG,hFe⟩
     ·clear g1 g2 g3 hG hFe
      rintro c S h' ⟨g1,g2,g148,g149,k,n',g150,hk,rfl,hn',hG,hFe⟩
      by_cases hlt:k<kids.length
      ·have hdk:decide ((k:Int)<(kids.length:Int))=true:=by simp;omega
       have w7:IntKind.i64.wrap ((k:Int)+1)=k+1:=by rw[wrap64 (by omega) (by omega)]
       obtain⟨x,hx⟩: ∃ x,kids[k]? =some x:=⟨_,List.getElem?_eq_getElem hlt⟩
       have hmem:=List.mem_of_getElem? hx
       have hr:=Fm.rows_get hx
       have hne:id≠h'.next:=by have:=hG.le;omega
       have hcx:=ih x hmem (hks x hmem) (d+1) n' (by omega) hn' id ((h'.new (.arr 6 [[.sc (.string ⟨#[]⟩),.sc (.string ⟨#[]⟩),.sc (.slice none 0 0),.sc (.slice none 0 0),.sc (.slice none 0 0),.sc (.slice none 0 0)]])).set h'.next (.arr 6 [x.cells])) (by simp only[Heap.set,Heap.new];rw[if_neg hne,if_neg hne];exact hG.at_)
       have hG2:GrowX h id (cntO n') ((h'.new (.arr 6 [[.sc (.string ⟨#[]⟩),.sc (.string ⟨#[]⟩),.sc (.slice none 0 0),.sc (.slice none 0 0),.sc (.slice none 0 0),.sc (.slice none 0 0)]])).set h'.next (.arr 6 [x.cells])):=(hG.new hid).set hid hG.le
       have hle:=shapedM_le x (d+1) n'
       rw[drop_get hx]at hFe
       simp only[shapedMs]at hFe
       generalize shapedM x (d+1) n'=V at hcx hle hFe
       obtain⟨b,n''⟩:=V
       simp only[natc]at hcx hle hFe
       obtain⟨xo,xn,xa,xp,xe,xk⟩:=x
       simp only[Fm.cells]at hr hcx hG2
       repeat'(first|refine a_seq fun K hK=>?_|(refine a_regionS ?_;simp(maxSteps:=2000000) only[Ty.w,simprocAttr,g1,g2,g148,g149,g150,hdk,hr,wd])|(refine a_skip ?_;try simp only[pst0,simprocAttr])|(refine a_cond _ (by(try simp(maxSteps:=2000000) only[Ty.w,simprocAttr,g1,g2,g148,g149,g150,hdk,hr,wd]);rfl) (fun hb=>?_) (fun hb=>?_)<;>(try simp only[hb0,decide_eq_true_eq,decide_eq_false_iff_not,simprocAttr]at hb)<;>(try(exfalso;omega)))|(refine hK _ _ ?_;clear hK;try simp only[pst0,simprocAttr]))
       refine owp_useH (hcx) (by(try simp only[Ty.w,simprocAttr,g1,g2,g148,g149,g150,hr,wd]);try rfl) ?_;simp(maxSteps:=2000000) only[Ty.w,simprocAttr,g1,g2,g148,g149,g150,hr,wd]
       cases b with
       |false=>
        simp only at hFe
        subst hFe
        repeat'(first|refine a_seq fun K hK=>?_|((first|refine a_regionS ?_|refine a_ret ?_);simp(maxSteps:=2000000) only[Ty.w,simprocAttr,g1,g2,g148,g149,g150,Bool.not_false])|(refine hK _ _ ?_;clear hK;try simp only[pst0,simprocAttr]))
        first|exact hG2.put|exact⟨rfl,hG2.put⟩
       |true=>
        simp only at hFe
        repeat'(first|(refine a_block ?_)|(refine a_regionS ?_;simp(maxSteps:=2000000) only[Ty.w,simprocAttr,g1,g2,g148,g149,g150,w7,Bool.not_true])|(refine a_skip ?_;try simp only[pst0,simprocAttr])|(refine hK _ _ ?_;clear hK;try simp only[pst0,simprocAttr]))
        exact⟨kids.length-(k+1),by omega,k+1,n'',by simp,by omega,rfl,hle rfl,hG2.put,hFe⟩
      ·have hdk:decide ((k:Int)<(kids.length:Int))=false:=by simp;omega
       rw[List.drop_eq_nil_of_le (by omega)]at hFe
       simp only[shapedMs]at hFe
       subst hFe
       repeat'(first|refine a_seq fun K hK=>?_|((first|refine a_regionS ?_|refine a_ret ?_);simp(maxSteps:=2000000) only[Ty.w,simprocAttr,g1,g2,g148,g149,g150,hdk])|(refine a_exit ?_;try simp only[pst0,simprocAttr])|(refine a_cond _ (by(try simp(maxSteps:=2000000) only[Ty.w,simprocAttr,g1,g2,g148,g149,g150,hdk]);rfl) (fun hb=>?_) (fun hb=>?_)<;>(try simp only[hb0,decide_eq_true_eq,decide_eq_false_iff_not,simprocAttr]at hb)<;>(try(exfalso;omega)))|((first|refine hK _ _ ?_|(clear hK;refine hK _ _ ?_));clear hK;try simp only[pst0,simprocAttr]))
       first|exact hG|exact⟨rfl,hG⟩
end Go.Proofs.Ytjlkapgpjamnkaa
namespace Go.Proofs.Ytjlkapgpjamnkaa
open Go.AM
set_option maxHeartbeats 4000000
set_option maxRecDepth 20000
def mixB:Int→List UInt8→Int
 |n,[]=>n
 |n,b::l=>mixB (IntKind.u32.wrap (xorK .u32 n (IntKind.u32.wrap b.toNat)*16777619)) l
def mixL:Int→List ByteArray→Int
 |n,[]=>n
 |n,s::l=>mixL (IntKind.u32.wrap (xorK .u32 (mixB n s.data.toList) 255*16777619)) l
def mixN(seed:Int)(l:List ByteArray):Int:=xorK .u32 ((mixL (IntKind.u32.wrap (IntKind.u32.wrap (seed*2654435761)+12345)) l).fdiv (2 ^ (min 13 32))) (mixL (IntKind.u32.wrap (IntKind.u32.wrap (seed*2654435761)+12345)) l)
theorem mix_c{l:List ByteArray}{p:PV}{seed:Int}{h:Heap}(hp:Sl h 1 p (strRows l))(hl:l.length≤1099511627776)(hs: ∀ s∈l,s.size≤bigN):
  PCall Try.prog 67 [.sc (.int .u32 seed),p] h fun r h'=>r= .sc (.int .u32 (mixN seed l))∧h'=h:=by
 refine pcall_wf Ty.hb_67 fun hwf=>?_
 have hlL: ∀ H,lenP H p=some l.length:=fun H=>by rw[lenP_sl hp H,strRows_len]
 have hkL:=hp.lk
 unfold mixN
 generalize hM0:IntKind.u32.wrap (IntKind.u32.wrap (seed*2654435761)+12345)=m0
 generalize hR:mixL m0 l=R
 refine pcall_body (ow:=fun _=>false) (wf:=fun _=>false) Ty.mixed Try.func67 rfl Ty.hb_67 (by rw[Try.ntmps67];simp) ?_
 rw[Try.ntmps67,Try.results67]
 repeat'(first|refine a_seq fun K hK=>?_|(refine a_block ?_)|(refine a_regionS ?_;simp(maxSteps:=2000000) only[Ty.w,simprocAttr,hM0])|(refine hK _ _ ?_;clear hK;try simp only[pst0,simprocAttr]))
 refine a_loop (fun c S h'=>S 1=p∧h'=h∧ ∃ (k:Nat)(m:Int),S 6= .sc (.int .i64 k)∧S 5= .sc (.int .u32 m)∧k≤l.length∧c=l.length-k∧R=mixL m (l.drop k)) l.length ?_ ?_
 ·simp only[Ty.w,simprocAttr]
  exact⟨0,m0,rfl,rfl,by omega,rfl,by rw[List.drop_zero];exact hR.symm⟩
 ·rintro c S h' ⟨g1,rfl,k,m,g6,g5,hk,rfl,hinv⟩
  clear hM0 hR
  by_cases hlt:k<l.length
  ·have hd:decide ((k:Int)<(l.length:Int))=true:=by simp;omega
   have w7:IntKind.i64.wrap ((k:Int)+1)=k+1:=by rw[wrap64 (by omega) (by omega)]
   obtain⟨s,hx⟩: ∃ s,l[k]? =some s:=⟨_,List.getElem?_eq_getElem hlt⟩
   have hsz:=hs s (List.mem_of_getElem? hx)
   unfold bigN at hsz
   obtain⟨px,hpx,hrx⟩:=hp.get _ _ (strRows_get hx)
   rw[drop_get hx]at hinv
   simp only[mixL]at hinv
   generalize hB:mixB m s.data.toList=B at hinv
   have htl:s.data.toList.length=s.size:=by rw[Array.length_toList];try rfl
   repeat'(first|refine a_seq fun K hK=>?_|(refine a_block ?_)|(refine a_regionS ?_;simp(maxSteps:=2000000) only[Ty.w,simprocAttr,g1,g5,g6,hlL,hkL,hd])|(refine a_skip ?_;try simp only[pst0,simprocAttr])|(refine a_cond _ (by(try simp(maxSteps:=2000000) only[Ty.w,simprocAttr,g1,g5,g6,hlL,hkL,hd]);rfl) (fun hb=>?_) (fun hb=>?_)<;>(try simp only[hb0,decide_eq_true_eq,decide_eq_false_iff_not,simprocAttr]at hb)<;>(try(exfalso;omega)))|(refine hK _ _ ?_;clear hK;try simp only[pst0,simprocAttr]))
   refine a_loop (fun c S H=>S 1=p∧H=h'∧S 6= .sc (.int .i64 k)∧ ∃ (j:Nat)(q:Int),S 7= .sc (.int .i64 j)∧S 5= .sc (.int .u32 q)∧j≤s.size∧c=s.size-j∧B=mixB q (s.data.toList.drop j)) s.size ?_ ?_
   ·simp only[Ty.w,simprocAttr,g1,g5,g6]
    exact⟨0,m,rfl,rfl,by omega,rfl,by rw[List.drop_zero];exact hB.symm⟩
   ·clear g1 g5 g6 hB
    rintro c S H ⟨g1,rfl,g6,j,q,g7,g5,hj,rfl,hq⟩
    by_cases hjl:j<s.size
    ·have hd2:decide ((j:Int)<(s.size:Int))=true:=by simp;omega
     have w8:IntKind.i64.wrap ((j:Int)+1)=j+1:=by rw[wrap64 (by omega) (by omega)]
     obtain⟨b,hb⟩: ∃ b,s.data.toList[j]? =some b:=⟨_,List.getElem?_eq_getElem (by omega)⟩
     have hr:s[j]? =some b:=by rw[ba_get];exact hb
     rw[drop_get hb]at hq
     simp only[mixB]at hq
     repeat'(first|refine a_seq fun K hK=>?_|(refine a_block ?_)|((first|refine a_regionS ?_|refine a_region (fun K hK=>?_));simp(maxSteps:=2000000) only[Ty.w,simprocAttr,g1,g5,g6,g7,hkL,hpx,hrx,hd2,hr,w8])|(refine a_skip ?_;try simp only[pst0,simprocAttr])|(refine a_cond _ (by(try simp(maxSteps:=2000000) only[Ty.w,simprocAttr,g1,g5,g6,g7,hkL,hpx,hrx,hd2,hr,w8]);rfl) (fun hb=>?_) (fun hb=>?_)<;>(try simp only[hb0,decide_eq_true_eq,decide_eq_false_iff_not,simprocAttr]at hb)<;>(try(exfalso;omega)))|(refine hK _ _ ?_;clear hK;try simp only[pst0,simprocAttr]))
     exact⟨s.size-(j+1),by omega,j+1,_,by simp,rfl,by omega,rfl,hq⟩
    ·have hd2:decide ((j:Int)<(s.size:Int))=false:=by simp;omega
     rw[List.drop_eq_nil_of_le (by omega)]at hq
     simp only[mixB]at hq
     rw[hq]at hinv
     repeat'(first|refine a_seq fun K hK=>?_|((first|refine a_regionS ?_|refine a_region (fun K hK=>?_));simp(maxSteps:=2000000) only[Ty.w,simprocAttr,g1,g5,g6,g7,hkL,hpx,hrx,hd2,w7])|(refine a_exit ?_;try simp only[pst0,simprocAttr])|(refine a_cond _ (by(try simp(maxSteps:=2000000) only[Ty.w,simprocAttr,g1,g5,g6,g7,hkL,hpx,hrx,hd2,w7]);rfl) (fun hb=>?_) (fun hb=>?_)<;>(try simp only[hb0,decide_eq_true_eq,decide_eq_false_iff_not,simprocAttr]at hb)<;>(try(exfalso;omega)))|((first|refine hK _ _ ?_|(clear hK;refine hK _ _ ?_));clear hK;try simp only[pst0,simprocAttr]))
     exact⟨l.length-(k+1),by omega,k+1,_,by simp,rfl,by omega,rfl,hinv⟩
  ·have hd:decide ((k:Int)<(l.length:Int))=false:=by simp;omega
   rw[List.drop_eq_nil_of_le (by omega)]at hinv
   simp only[mixL]at hinv
   subst hinv
   repeat'(first|refine a_seq fun K hK=>?_|((first|refine a_regionS ?_|refine a_ret ?_);simp(maxSteps:=2000000) only[Ty.w,simprocAttr,g1,g5,g6,hlL,hkL,hd])|(refine a_exit ?_;try simp only[pst0,simprocAttr])|(refine a_cond _ (by(try simp(maxSteps:=2000000) only[Ty.w,simprocAttr,g1,g5,g6,hlL,hkL,hd]);rfl) (fun hb=>?_) (fun hb=>?_)<;>(try simp only[hb0,decide_eq_true_eq,decide_eq_false_iff_not,simprocAttr]at hb)<;>(try(exfalso;omega)))|((first|refine hK _ _ ?_|(clear hK;refine hK _ _ ?_));clear hK;try simp only[pst0,simprocAttr]))
mutual
def spreadF:Fm→Nat
 | .mk _ _ _ params _ kids=>spreadFs kids+params.length
def spreadFs:List Fm→Nat
 |[]=>0
 |k::l=>max (spreadF k) (spreadFs l)
end
theorem spreadFs_snoc(k:Fm): ∀ l:List Fm,spreadFs (l++[k])=max (spreadFs l) (spreadF k)
 |[]=>by simp[spreadFs]
 |a::l=>by simp only[List.cons_append,spreadFs,spreadFs_snoc k l];omega
theorem spreadFs_mem{k:Fm}: ∀ {l:List Fm},k∈l→spreadF k≤spreadFs l
 |a::l,h=>by
  simp only[spreadFs]
  rcases List.mem_cons.1 h with rfl|h
  ·omega
  ·have:=spreadFs_mem h;omega
theorem spread_c: ∀ f:Fm,f.ok→spreadF f≤1099511627776→ ∀ h:Heap,PCall Try.prog 25 [.agg f.cells] h fun r h'=>r= .sc (.int .i64 (spreadF f))∧h'=h:=by
 refine Fm.ind ?_
 intro op name args params exprs kids ih hok hsp h
 simp only[Fm.ok]at hok
 obtain⟨_,_,_,_,_,hkl,hks⟩:=hok
 rw[Fm.oks_iff]at hks
 unfold bigN at hkl
 have hlK:=Fm.rows_len kids
 have hlP:(pmRows params).length=params.length:=by simp[pmRows]
 simp only[spreadF]at hsp
 have hmx: ∀ k∈kids,spreadF k≤1099511627776:=fun k hk=>by have:=spreadFs_mem hk;omega
 simp only[spreadF,Fm.cells]
 refine pcall_body (ow:=fun _=>false) (wf:=fun _=>false) Ty.mixed Try.func25 rfl Ty.hb_25 (by rw[Try.ntmps25];simp) ?_
 rw[Try.ntmps25,Try.results25]
 repeat'(first|refine a_seq fun K hK=>?_|(refine a_block ?_)|(refine a_regionS ?_;simp(maxSteps:=2000000) only[Ty.w,simprocAttr])|(refine hK _ _ ?_;clear hK;try simp only[pst0,simprocAttr]))
 refine a_loop (fun c S h'=>S 1= .cptr [sPV op,sPV name,.imm 1 (strRows args),.imm 2 (pmRows params),.imm 5 (Ex.rows exprs),.imm 6 (Fm.rows kids)]∧h'=h∧ ∃ k:Nat,S 4= .sc (.int .i64 k)∧S 3= .sc (.int .i64 (spreadFs (kids.take k)))∧k≤kids.length∧c=kids.length-k) kids.length ?_ ?_
 ·simp only[Ty.w,simprocAttr]
  exact⟨0,rfl,rfl,by omega,rfl⟩
 ·rintro c S h' ⟨g1,rfl,k,g4,g3,hk,rfl⟩
  by_cases hlt:k<kids.length
  ·have hd:decide ((k:Int)<(kids.length:Int))=true:=by simp;omega
   have w7:IntKind.i64.wrap ((k:Int)+1)=k+1:=by rw[wrap64 (by omega) (by omega)]
   obtain⟨x,hx⟩: ∃ x,kids[k]? =some x:=⟨_,List.getElem?_eq_getElem hlt⟩
   have hr:=Fm.rows_get hx
   have hmem:=List.mem_of_getElem? hx
   have hc:=ih x hmem (hks x hmem) (hmx x hmem)
   have hT:spreadFs (kids.take (k+1))=max (spreadFs (kids.take k)) (spreadF x):=by rw[List.take_add_one,hx,Option.toList_some,spreadFs_snoc]
   generalize spreadF x=sx at hc hT
   clear ih hks hmx
   obtain⟨xo,xn,xa,xp,xe,xk⟩:=x
   simp only[Fm.cells]at hr hc
   generalize spreadFs (kids.take k)=T at g3 hT
   have hmax:(if(sx:Int)>(T:Int)then(sx:Int)else(T:Int))=((max T sx:Nat):Int):=by split<;>omega
   repeat'(first|refine a_seq fun K hK=>?_|(refine a_block ?_)|((first|refine a_regionS ?_|refine a_region (fun K hK=>?_));simp(maxSteps:=2000000) only[Ty.w,simprocAttr,g1,g3,g4,hlK,hd,hr])|(refine a_skip ?_;try simp only[pst0,simprocAttr])|(refine a_cond _ (by(try simp(maxSteps:=2000000) only[Ty.w,simprocAttr,g1,g3,g4,hlK,hd,hr]);rfl) (fun hb=>?_) (fun hb=>?_)<;>(try simp only[hb0,decide_eq_true_eq,decide_eq_false_iff_not,simprocAttr]at hb)<;>(try(exfalso;omega)))|(refine hK _ _ ?_;clear hK;try simp only[pst0,simprocAttr]))
   refine owp_useQ (hc _) (by(try simp only[Ty.w,simprocAttr,g1,g3,g4,hr]);try rfl) ?_;simp(maxSteps:=2000000) only[Ty.w,simprocAttr,g1,g3,g4,hr]
   repeat'(first|(refine a_regionS ?_;simp(maxSteps:=2000000) only[Ty.w,simprocAttr,g1,g3,g4,w7,pmax,hmax,if_true])|(refine hK _ _ ?_;clear hK;try simp only[pst0,simprocAttr]))
   exact⟨kids.length-(k+1),by omega,k+1,by simp,by rw[hT],by omega,rfl⟩
  ·have hd:decide ((k:Int)<(kids.length:Int))=false:=by simp;omega
   have hke:k=kids.length:=by omega
   subst hke
   rw[List.take_length]at g3
   have wS:IntKind.i64.wrap ((spreadFs kids:Int)+(params.length:Int))=((spreadFs kids+params.length:Nat):Int):=by rw[wrap64 (by omega) (by omega)];omega
   repeat'(first|refine a_seq fun K hK=>?_|((first|refine a_regionS ?_|refine a_ret ?_);simp(maxSteps:=2000000) only[Ty.w,simprocAttr,g1,g3,g4,hlK,hlP,hd,wS])|(refine a_exit ?_;try simp only[pst0,simprocAttr])|(refine a_cond _ (by(try simp(maxSteps:=2000000) only[Ty.w,simprocAttr,g1,g3,g4,hlK,hlP,hd,wS]);rfl) (fun hb=>?_) (fun hb=>?_)<;>(try simp only[hb0,decide_eq_true_eq,decide_eq_false_iff_not,simprocAttr]at hb)<;>(try(exfalso;omega)))|((first|refine hK _ _ ?_|(clear hK;refine hK _ _ ?_));clear hK;try simp only[pst0,simprocAttr]))
def valOp(op:ByteArray):List Int→Int
 |[a,b]=>if bEq op ⟨#[43]⟩=true then IntKind.i64.wrap (a+b)else if bEq op ⟨#[45]⟩=true then IntKind.i64.wrap (a-b)else IntKind.i64.wrap (a*b)
 |_=>0
mutual
def valM(seed:Int):Ex→Int
 | .mk op name n args kids=>
  if bEq op ⟨#[110,117,109,98,101,114]⟩=true then n
  else if bEq op ⟨#[102,108,117,101,110,116]⟩=true then IntKind.i64.wrap (IntKind.i64.wrap ((mixN seed (name::args)).tmod 5)-2)
  else if kids.length=2 then valOp op (valMs seed kids)else 0
def valMs(seed:Int):List Ex→List Int
 |[]=>[]
 |k::l=>valM seed k::valMs seed l
end
theorem value_c{seed:Int}: ∀ e:Ex,e.ok→e.small→ ∀ h:Heap,PCall Try.prog 68 [.agg e.cells,.sc (.int .u32 seed)] h fun r h'=>r= .sc (.int .i64 (valM seed e))∧h'=h:=by
 refine Ex.ind ?_
 intro op name n args kids ih hok hsm h
 simp only[Ex.ok]at hok
 simp only[Ex.small]at hsm
 obtain⟨hno,hnn,_,⟨hal,has⟩,hkl,hks⟩:=hok
 rw[Ex.oks_iff]at hks
 have hlK:=Ex.rows_len kids
 have hlA:=strRows_len args
 refine PCall.quiet Ty.hb_68 ?_
 simp only[Ex.cells]
 unfold valM
 cases q1:(op.data.toList==(#[110,117,109,98,101,114]:Array UInt8).toList)with
 |true=>
  rw[if_pos (show bEq op ⟨#[110,117,109,98,101,114]⟩=true from q1)]
  refine pcall_body (ow:=fun t=>t==18) (wf:=fun _=>false) Ty.mixed Try.func68 rfl Ty.hb_68 (by rw[Try.ntmps68];simp) ?_
  rw[Try.ntmps68,Try.results68]
  repeat'(first|refine a_seq fun K hK=>?_|((first|refine a_regionS ?_|refine a_ret ?_);simp(maxSteps:=2000000) only[Ty.w,simprocAttr,q1])|(refine hK _ _ ?_;clear hK;try simp only[pst0,simprocAttr]))
  exact Grow.refl _
 |false=>
  rw[if_neg (show ¬ bEq op ⟨#[110,117,109,98,101,114]⟩=true by rw[show bEq op ⟨#[110,117,109,98,101,114]⟩=false from q1];simp)]
  cases q2:(op.data.toList==(#[102,108,117,101,110,116]:Array UInt8).toList)with
  |true=>
   rw[if_pos (show bEq op ⟨#[102,108,117,101,110,116]⟩=true from q2)]
   refine pcall_body (ow:=fun t=>t==18) (wf:=fun _=>false) Ty.mixed Try.func68 rfl Ty.hb_68 (by rw[Try.ntmps68];simp) ?_
   rw[Try.ntmps68,Try.results68]
   have hlN:(name::args).length≤1099511627776:=by simp only[List.length_cons];omega
   have hsN: ∀ s∈name::args,s.size≤bigN:=fun s hs=>by
    rcases List.mem_cons.1 hs with rfl|hs
    ·exact hnn
    ·exact has s hs
   have hbb:(1+args.length)*16≤140737488355328:=by omega
   have e50:((5:Int)=0)=False:=by simp
   repeat'(first|refine a_seq fun K hK=>?_|(refine a_regionS ?_;simp(maxSteps:=2000000) only[Ty.w,simprocAttr,q1,q2,hlA,hbb])|(refine hK _ _ ?_;clear hK;try simp only[pst0,simprocAttr]))
   have hS:Sl (((h.new (.arr 1 [[sPV name]])).kill h.next).new (.arr 1 ([sPV name]::strRows args))) 1 (.own (h.next+1) 0 (1+args.length)) (strRows (name::args)):=by
    have ho:(((h.new (.arr 1 [[sPV name]])).kill h.next).new (.arr 1 ([sPV name]::strRows args))).obj (h.next+1)=some (.arr 1 (strRows (name::args))):=by simp[Heap.new,Heap.kill,strRows]
    have:=Sl.own0 ho
    rw[strRows_len,List.length_cons,Nat.add_comm args.length]at this
    exact this
   refine owp_useQ (mix_c hS hlN hsN) (by(try simp only[Ty.w,simprocAttr,q1,q2]);try rfl) ?_;simp(maxSteps:=2000000) only[Ty.w,simprocAttr,q1,q2]
   repeat'(first|(refine a_ret ?_;simp(maxSteps:=2000000) only[Ty.w,simprocAttr,q1,q2,e50])|(refine hK _ _ ?_;clear hK;try simp only[pst0,simprocAttr]))
   exact(((Grow.refl h).new _).kill (Nat.le_refl _)).new _
  |false=>
   rw[if_neg (show ¬ bEq op ⟨#[102,108,117,101,110,116]⟩=true by rw[show bEq op ⟨#[102,108,117,101,110,116]⟩=false from q2];simp)]
   by_cases hk2:kids.length=2
   rotate_left
   ·rw [if_neg hk2]
    have e2:((kids.length:Int)==2)=false:=by simp;omega
    have e3:((kids.length:Int)=2)=False:=by simp;omega
    refine pcall_body (ow:=fun t=>t==18) (wf:=fun _=>false) Ty.mixed Try.func68 rfl Ty.hb_68 (by rw[Try.ntmps68];simp) ?_
    rw[Try.ntmps68,Try.results68]
    repeat'(first|refine a_seq fun K hK=>?_|(refine a_block ?_)|((first|refine a_regionS ?_|refine a_ret ?_);simp(maxSteps:=2000000) only[Ty.w,simprocAttr,q1,q2,hlK,e2,e3,bne,Bool.not_false])|(refine a_skip ?_;try simp only[pst0,simprocAttr])|(refine hK _ _ ?_;clear hK;try simp only[pst0,simprocAttr]))
    exact Grow.refl _
   ·obtain ⟨a,b,rfl⟩: ∃ a b,kids=[a,b]:=by
     match kids,hk2 with
     |[a,b],_=>exact⟨a,b,rfl⟩
    rw[if_pos (show[a,b].length=2 from rfl)]
    have hsm2:=hsm.2
    rw[Ex.smalls_iff]at hsm2
    have ca:=ih a (by simp) (hks a (by simp)) (hsm2 a (by simp))
    have cb:=ih b (by simp) (hks b (by simp)) (hsm2 b (by simp))
    simp only[valMs,valOp]
    clear ih hks hsm hsm2 hkl hlK hk2
    generalize valM seed a=va at ca
    generalize valM seed b=vb at cb
    obtain⟨ao,an,av,aa,ak⟩:=a
    obtain⟨bo,bn,bv,ba,bk⟩:=b
    simp only[Ex.cells,Ex.rows]at ca cb⊢
    have u2:((2:Nat):Int)=2:=rfl
    have fin: ∀ {r:Prop},r→r:=fun h=>h
    cases q3:(op.data.toList==(#[43]:Array UInt8).toList)with
    |true=>
     rw[if_pos (show bEq op ⟨#[43]⟩=true from q3)]
     refine pcall_body (ow:=fun t=>t==18) (wf:=fun _=>false) Ty.mixed Try.func68 rfl Ty.hb_68 (by rw[Try.ntmps68];simp) ?_
     rw[Try.ntmps68,Try.results68]
     repeat'(first|refine a_seq fun K hK=>?_|(refine a_block ?_)|((first|refine a_regionS ?_|refine a_drawS (by decide+kernel) ?_);simp(maxSteps:=2000000) only[Ty.w,simprocAttr,q1,q2,q3,u2,bne,Bool.not_true,beq_self_eq_true])|(refine a_skip ?_;try simp only[pst0,simprocAttr])|(refine a_cond _ (by(try simp(maxSteps:=2000000) only[Ty.w,simprocAttr,q1,q2,q3,u2,bne,Bool.not_true,beq_self_eq_true]);rfl) (fun hb=>?_) (fun hb=>?_)<;>(try simp only[hb0,decide_eq_true_eq,decide_eq_false_iff_not,simprocAttr]at hb)<;>(try(exfalso;omega)))|(refine hK _ _ ?_;clear hK;try simp only[pst0,simprocAttr]))
     (first|refine a_dcall0 (ca _) (by(try simp only[Ty.w,simprocAttr,q1,q2]);try rfl) ?_|refine a_dcallA (ca _) (by(try simp only[Ty.w,simprocAttr,q1,q2]);try rfl) (by simp only[Ty.w,simprocAttr,q1,q2];try trivial) ?_);simp(maxSteps:=2000000) only[Ty.w,simprocAttr,Option.getD_some,q1,q2]
     (first|refine a_dcall0 (cb _) (by(try simp only[Ty.w,simprocAttr,q1,q2]);try rfl) ?_|refine a_dcallA (cb _) (by(try simp only[Ty.w,simprocAttr,q1,q2]);try rfl) (by simp only[Ty.w,simprocAttr,q1,q2];try trivial) ?_);simp(maxSteps:=2000000) only[Ty.w,simprocAttr,Option.getD_some,q1,q2]
     repeat'(first|refine a_seq fun K hK=>?_|((first|refine a_regionS ?_|refine a_ret ?_);simp(maxSteps:=2000000) only[Ty.w,simprocAttr,q1,q2,q3])|(refine hK _ _ ?_;clear hK;try simp only[pst0,simprocAttr]))
     exact Grow.refl _
    |false=>
     rw[if_neg (show ¬ bEq op ⟨#[43]⟩=true by rw[show bEq op ⟨#[43]⟩=false from q3];simp)]
     cases q4:(op.data.toList==(#[45]:Array UInt8).toList)with
     |true=>
      rw[if_pos (show bEq op ⟨#[45]⟩=true from q4)]
      refine pcall_body (ow:=fun t=>t==18) (wf:=fun _=>false) Ty.mixed Try.func68 rfl Ty.hb_68 (by rw[Try.ntmps68];simp) ?_
      rw[Try.ntmps68,Try.results68]
      repeat'(first|refine a_seq fun K hK=>?_|(refine a_block ?_)|((first|refine a_regionS ?_|refine a_drawS (by decide+kernel) ?_);simp(maxSteps:=2000000) only[Ty.w,simprocAttr,q1,q2,q3,q4,u2,bne,Bool.not_true,beq_self_eq_true])|(refine a_skip ?_;try simp only[pst0,simprocAttr])|(refine a_cond _ (by(try simp(maxSteps:=2000000) only[Ty.w,simprocAttr,q1,q2,q3,q4,u2,bne,Bool.not_true,beq_self_eq_true]);rfl) (fun hb=>?_) (fun hb=>?_)<;>(try simp only[hb0,decide_eq_true_eq,decide_eq_false_iff_not,simprocAttr]at hb)<;>(try(exfalso;omega)))|(refine hK _ _ ?_;clear hK;try simp only[pst0,simprocAttr]))
      (first|refine a_dcall0 (ca _) (by(try simp only[Ty.w,simprocAttr,q1,q2]);try rfl) ?_|refine a_dcallA (ca _) (by(try simp only[Ty.w,simprocAttr,q1,q2]);try rfl) (by simp only[Ty.w,simprocAttr,q1,q2];try trivial) ?_);simp(maxSteps:=2000000) only[Ty.w,simprocAttr,Option.getD_some,q1,q2]
      (first|refine a_dcall0 (cb _) (by(try simp only[Ty.w,simprocAttr,q1,q2]);try rfl) ?_|refine a_dcallA (cb _) (by(try simp only[Ty.w,simprocAttr,q1,q2]);try rfl) (by simp only[Ty.w,simprocAttr,q1,q2];try trivial) ?_);simp(maxSteps:=2000000) only[Ty.w,simprocAttr,Option.getD_some,q1,q2]
      repeat'(first|refine a_seq fun K hK=>?_|((first|refine a_regionS ?_|refine a_ret ?_);simp(maxSteps:=2000000) only[Ty.w,simprocAttr,q1,q2,q3,q4])|(refine hK _ _ ?_;clear hK;try simp only[pst0,simprocAttr]))
      exact Grow.refl _
     |false=>
      rw[if_neg (show ¬ bEq op ⟨#[45]⟩=true by rw[show bEq op ⟨#[45]⟩=false from q4];simp)]
      refine pcall_body (ow:=fun t=>t==18) (wf:=fun _=>false) Ty.mixed Try.func68 rfl Ty.hb_68 (by rw[Try.ntmps68];simp) ?_
      rw[Try.ntmps68,Try.results68]
      repeat'(first|refine a_seq fun K hK=>?_|(refine a_block ?_)|((first|refine a_regionS ?_|refine a_drawS (by decide+kernel) ?_);simp(maxSteps:=2000000) only[Ty.w,simprocAttr,q1,q2,q3,q4,u2,bne,Bool.not_true,beq_self_eq_true])|(refine a_skip ?_;try simp only[pst0,simprocAttr])|(refine a_cond _ (by(try simp(maxSteps:=2000000) only[Ty.w,simprocAttr,q1,q2,q3,q4,u2,bne,Bool.not_true,beq_self_eq_true]);rfl) (fun hb=>?_) (fun hb=>?_)<;>(try simp only[hb0,decide_eq_true_eq,decide_eq_false_iff_not,simprocAttr]at hb)<;>(try(exfalso;omega)))|(refine hK _ _ ?_;clear hK;try simp only[pst0,simprocAttr]))
      (first|refine a_dcall0 (ca _) (by(try simp only[Ty.w,simprocAttr,q1,q2]);try rfl) ?_|refine a_dcallA (ca _) (by(try simp only[Ty.w,simprocAttr,q1,q2]);try rfl) (by simp only[Ty.w,simprocAttr,q1,q2];try trivial) ?_);simp(maxSteps:=2000000) only[Ty.w,simprocAttr,Option.getD_some,q1,q2]
      (first|refine a_dcall0 (cb _) (by(try simp only[Ty.w,simprocAttr,q1,q2]);try rfl) ?_|refine a_dcallA (cb _) (by(try simp only[Ty.w,simprocAttr,q1,q2]);try rfl) (by simp only[Ty.w,simprocAttr,q1,q2];try trivial) ?_);simp(maxSteps:=2000000) only[Ty.w,simprocAttr,Option.getD_some,q1,q2]
      repeat'(first|refine a_seq fun K hK=>?_|(refine a_block ?_)|((first|refine a_regionS ?_|refine a_ret ?_);simp(maxSteps:=2000000) only[Ty.w,simprocAttr,q1,q2,q3,q4])|(refine a_skip ?_;try simp only[pst0,simprocAttr])|(refine hK _ _ ?_;clear hK;try simp only[pst0,simprocAttr]))
      exact Grow.refl _
end Go.Proofs.Ytjlkapgpjamnkaa
namespace Go.AM
section
variable {P:Program}{ow:Nat→Bool}{wf:FuncId→Bool}{n:Nat}
def kxL(ow:Nat→Bool)(ops:List Oper)(L:List (Nat × Nat))(x:Nat):List Nat:=(List.range ops.length).filterMap fun f=>if(!(x==f)&&!(pre ops f x)&&(!(pre ops x f)||(ops[f]?).any (isA ow)))=true then L.lookup f else none
def laB(ow:Nat→Bool)(ops:List Oper)(k:Nat):List Nat:=(List.range ops.length).filter fun f=>decide (k<f)&&(ops[f]?).any (isA ow)
def ww4(ow:Nat→Bool)(ops:List Oper)(L:List (Nat × Nat))(B:List Nat):Bool:=(List.range ops.length).all fun j=>(List.range j).all fun i=>!(B.contains i||(L.lookup i).isSome)||!(B.contains j||(L.lookup j).isSome)||pre ops i j||(match L.lookup i,L.lookup j with|some p,some q=>p !=q|_,_=>false)||(B.contains i&&(L.lookup j).isSome&&(ops[j]?).any (isA ow))||((L.lookup i).isSome&&B.contains j&&(ops[i]?).any (isA ow))
def Loc4(P:Program)(ow:Nat→Bool)(wf:FuncId→Bool)(n:Nat)(ops:List Oper)(L:List (Nat × Nat))(B:List Nat)(base j:Nat)(o:Oper)(s s':Slots)(h h':Heap)(v:PV)(l:Option (Nat × AObj)):Prop:=
 l.map (·.1)=(L.lookup j).map (base+·)∧o.dst.all (fun d=>decide (d<n))=true∧ ∃ b,wantedB ops s o=some b∧
  (b=false→s'=updO s o.dst (.sc undef)∧h'=h∧l=none∧B.contains j=false)∧
  (b = true → s' = updO s o.dst v ∧
   (isW ow wf o=false→h'=h∧l=none∧B.contains j=false∧ ∀ H,Does P ow o (pev s) H v H)∧
   (isW ow wf o = true →
    (B.contains j=true∧l=none∧(∀ q∈kxL ow ops L j,h.obj (base+q)=none∧h'.obj (base+q)=none)∧Does P ow o (pev s) h v h'∧ ∀ f∈laB ow ops j,h'.obj (base+f)=none)∨
    (B.contains j=false∧isA ow o=true∧ ∃ ob,l=some (base+j,ob)∧aop P ow (base+j) o (pev s)=some (v,ob)∧h'=h.set (base+j) ob)∨
    (B.contains j=false∧ ∃ t x y id r f ob,o.op= .store t x y∧pev s x= .ptr id r f∧l=some (id,ob)∧h'=h.set id ob∧(∀ f∈laB ow ops j,base+f≠id)∧eff P (o.dst.any ow) o.op (pev s) h=some (v,h'))))
def dr4(P:Program)(ow:Nat→Bool)(wf:FuncId→Bool)(n:Nat)(ops:List Oper)(L:List (Nat × Nat))(B:List Nat)(base:Nat):Nat→List Oper→(Slots→Heap→Prop)→Slots→Heap→Prop
 |_,[],K,s,h=>K s h
 |k,o::rest,K,s,h=> ∃ s' h' v l,Loc4 P ow wf n ops L B base k o s s' h h' v l∧dr4 P ow wf n ops L B base (k+1) rest K s' h'
theorem dr4_facts{ops:List Oper}{L:List (Nat × Nat)}{B:List Nat}{base:Nat}{K:Slots→Heap→Prop}: ∀ (rest:List Oper)(k:Nat)(s:Slots)(h:Heap),ops.drop k=rest→k≤ops.length→dr4 P ow wf n ops L B base k rest K s h→
  ∃ (sk:Nat→Slots)(hk:Nat→Heap)(vk:Nat→PV)(lt:Nat→Option (Nat × AObj)),sk k=s∧hk k=h∧K (sk ops.length) (hk ops.length)∧
   ∀ j o,k≤j→ops[j]? =some o→Loc4 P ow wf n ops L B base j o (sk j) (sk (j+1)) (hk j) (hk (j+1)) (vk j) (lt j)
 |[],k,s,h,hd,hk,hr=>by
  have hl:ops.length≤k:=by simpa using hd
  have hke:k=ops.length:=by omega
  refine⟨fun _=>s,fun _=>h,fun _=> .emp,fun _=>none,rfl,rfl,hr,fun j o hj ho=>?_⟩
  have:=(List.getElem?_eq_some_iff.1 ho).1
  omega
 |o::rest,k,s,h,hd,hk,hr=>by
  have ho:ops[k]? =some o:=by
   have:(ops.drop k)[0]? =some o:=by rw[hd];try rfl
   simpa using this
  have hkl:k<ops.length:=(List.getElem?_eq_some_iff.1 ho).1
  have hd2:ops.drop (k+1)=rest:=by
   have:=List.drop_eq_getElem_cons hkl
   rw[hd]at this
   simp only[List.cons.injEq]at this
   exact this.2.symm
  obtain⟨s',h',v,l,hloc,hrec⟩:=hr
  obtain⟨sk,hk',vk,lt,e1,e2,e3,e4⟩:=dr4_facts rest (k+1) s' h' hd2 (by omega) hrec
  refine⟨fun j=>if j=k then s else sk j,fun j=>if j=k then h else hk' j,fun j=>if j=k then v else vk j,fun j=>if j=k then l else lt j,by simp,by simp,?_,fun j q hj hq=>?_⟩
  ·simp only
   rw[if_neg (by omega),if_neg (by omega)];exact e3
  ·by_cases hjk:j=k
   ·subst hjk
    rw[ho]at hq
    simp only[Option.some.injEq]at hq
    subst hq
    simp only[if_true]
    rw[if_neg (by omega),if_neg (by omega),e1,e2]
    exact hloc
   ·simp only[hjk,if_false]
    rw[if_neg (by omega),if_neg (by omega)]
    exact e4 j q (by omega) hq
theorem killL_none{H:Heap}{l:List Nat}(h: ∀ id∈l,H.obj id=none):killL H l=H:=by
 unfold killL
 cases H with
 |mk nx ob=>
  congr 1
  funext j
  split
  ·rename_i hc
   exact(h j (by simpa using hc)).symm
  ·rfl
theorem putL_none{H H':Heap}{l:List Nat}(h: ∀ id∈l,H.obj id=none):putL H' H l=H':=by
 unfold putL
 cases H' with
 |mk nx ob=>
  congr 1
  funext j
  split
  ·rename_i hc
   have:=h j (by simpa using hc.1)
   rw[this]at hc
   simp at hc
  ·rfl
theorem kx_kxL{ops:List Oper}{L:List (Nat × Nat)}{base:Nat}{lt:Nat→Option (Nat × AObj)}(h: ∀ f,f<ops.length→(lt f).map (·.1)=(L.lookup f).map (base+·))(x:Nat):kx ow ops lt x=(kxL ow ops L x).map (base+·):=by
 unfold kx kxL
 rw[List.map_filterMap]
 have: ∀ l:List Nat,(∀ f∈l,f<ops.length)→l.filterMap (fun f=>if(!(x==f)&&!(pre ops f x)&&(!(pre ops x f)||(ops[f]?).any (isA ow)))=true then(lt f).map (·.1)else none)=l.filterMap (fun f=>Option.map (base+·) (if(!(x==f)&&!(pre ops f x)&&(!(pre ops x f)||(ops[f]?).any (isA ow)))=true then L.lookup f else none)):=by
  intro l
  induction l with
  |nil=>intro _;rfl
  |cons f l ih=>
   intro hl
   have e:(if(!(x==f)&&!(pre ops f x)&&(!(pre ops x f)||(ops[f]?).any (isA ow)))=true then(lt f).map (·.1)else none)=Option.map (base+·) (if(!(x==f)&&!(pre ops f x)&&(!(pre ops x f)||(ops[f]?).any (isA ow)))=true then L.lookup f else none):=by
    split
    ·exact h f (hl f (by simp))
    ·rfl
   rw[List.filterMap_cons,List.filterMap_cons,e,ih fun y hy=>hl y (by simp[hy])]
 exact this _ fun f hf=>List.mem_range.1 hf
theorem mem_laB{ops:List Oper}{k f:Nat}{q:Oper}(hf:k<f)(hq:ops[f]? =some q)(ha:isA ow q=true):f∈laB ow ops k:=by
 simp only[laB,List.mem_filter,List.mem_range,Bool.and_eq_true,decide_eq_true_eq]
 exact⟨(List.getElem?_eq_some_iff.1 hq).1,hf,by rw[hq];exact ha⟩
theorem dwp3_of4{ops:List Oper}{L:List (Nat × Nat)}{B:List Nat}{K:Slots→Heap→Prop}{s:Slots}{h:Heap}(hd:dOk3 ops=true)(hw:ww4 ow ops L B=true)(hr:dr4 P ow wf n ops L B h.next 0 ops K s ⟨h.next+ops.length,h.obj⟩):dwp3 P ow wf n ops K s h:=by
 obtain⟨sk,hk,vk,lt,e1,e2,e3,e4⟩:=dr4_facts ops 0 s _ rfl (Nat.zero_le _) hr
 have hlt: ∀ f,f<ops.length→(lt f).map (·.1)=(L.lookup f).map (h.next+·):=fun f hf=>(e4 f _ (Nat.zero_le _) (List.getElem?_eq_getElem hf)).1
 have hkx:=fun x=>kx_kxL (ow:=ow) hlt x
 have hsome: ∀ f,f<ops.length→((lt f).isSome=(L.lookup f).isSome):=fun f hf=>by
  have:=congrArg Option.isSome (hlt f hf)
  simpa using this
 refine⟨hd,sk,hk,vk,lt,fun j=>B.contains j,e1,e2,e3,⟨fun j o ho=>?_,fun i j hij hj hi hj2=>?_⟩⟩
 ·obtain ⟨_,g1,b,g2,g3,g4⟩:=e4 j o (Nat.zero_le _) ho
  refine⟨g1,b,g2,fun hb=>g3 hb,fun hb=>?_⟩
  obtain⟨k1,k2,k3⟩:=g4 hb
  refine⟨k1,fun hw=>?_,fun hw=>?_⟩
  ·obtain ⟨m1,m2,m3,m4⟩:=k2 hw
   exact⟨m1,m2,m3,fun M _=>⟨kx ow ops lt j,fun _ hx=>hx,m4 _⟩⟩
  ·rcases k3 hw with⟨m1,m2,m3,m4,m5⟩|⟨m0,m1,ob,m2,m3,m4⟩|⟨m0,t,x,y,id,r,f,ob,m1,m2,m3,m4,m5,m6⟩
   ·have a1: ∀ id∈kx ow ops lt j,(hk j).obj id=none:=fun id hid=>by
     rw[hkx]at hid
     obtain⟨q,hq,rfl⟩:=List.mem_map.1 hid
     exact(m3 q hq).1
    have a2: ∀ id∈kx ow ops lt j,(hk (j+1)).obj id=none:=fun id hid=>by
     rw[hkx]at hid
     obtain⟨q,hq,rfl⟩:=List.mem_map.1 hid
     exact(m3 q hq).2
    refine .inl ⟨m1,m2,⟨hk (j+1),?_,a2,?_⟩,fun f q hf hq ha=>m5 f (mem_laB hf hq ha)⟩
    ·rw [killL_none a1];exact m4
    ·rw [putL_none a1]
   ·exact .inr (.inl ⟨m0,m1,ob,m2,m3,m4⟩)
   ·exact .inr (.inr ⟨m0,t,x,y,id,r,f,ob,m1,m2,m3,m4,fun f q hf hq ha=>m5 f (mem_laB hf hq ha),m6⟩)
 ·have hwij:=List.all_eq_true.1 (List.all_eq_true.1 hw j (List.mem_range.2 hj)) i (List.mem_range.2 hij)
  have si:=hsome i (by omega)
  have sj:=hsome j hj
  have li:=hlt i (by omega)
  have lj:=hlt j hj
  have ei:(B.contains i||(L.lookup i).isSome)=true:=by
   rw[← si];rcases hi with h1|h1
   ·rw [h1];try rfl
   ·rw [h1];simp
  have ej:(B.contains j||(L.lookup j).isSome)=true:=by
   rw[← sj];rcases hj2 with h1|h1
   ·rw [h1];try rfl
   ·rw [h1];simp
  rw[ei,ej]at hwij
  simp only[Bool.not_true,Bool.false_or,Bool.or_eq_true,Bool.and_eq_true]at hwij
  rcases hwij with((h1|h1)|h1)|h1
  ·exact .inl h1
  ·refine .inr (.inl ?_)
   cases h2:L.lookup i with
   |none=>rw[h2]at h1;simp at h1
   |some p=>
    cases h3:L.lookup j with
    |none=>rw[h2,h3]at h1;simp at h1
    |some q=>
     rw[h2,h3]at h1
     rw[h2]at li
     rw[h3]at lj
     obtain⟨x,hx,hx2⟩:=Option.map_eq_some_iff.1 li
     obtain⟨y,hy,hy2⟩:=Option.map_eq_some_iff.1 lj
     refine⟨x,y,hx,hy,?_⟩
     rw[hx2,hy2]
     have hpq:p≠q:=by simpa using h1
     show h.next+p≠h.next+q
     omega
  ·refine .inr (.inr (.inl ⟨h1.1.1,by rw[sj];exact h1.1.2,ops[j],List.getElem?_eq_getElem hj,?_⟩))
   have:=h1.2
   rw[List.getElem?_eq_getElem hj]at this
   exact this
  ·have hil:i<ops.length:=by omega
   refine .inr (.inr (.inr ⟨by rw[si];exact h1.1.1,h1.1.2,ops[i],List.getElem?_eq_getElem hil,?_⟩))
   have:=h1.2
   rw[List.getElem?_eq_getElem hil]at this
   exact this
theorem a_draw4S{Q:Post}{s:Slots}{h:Heap}{id:Nat}{ops:List Oper}{K:Slots→Heap→Prop}(L:List (Nat × Nat))(B:List Nat)(hd:dOk3 ops=true)(hw:ww4 ow ops L B=true)(hk:dr4 P ow wf n ops L B h.next 0 ops K s ⟨h.next+ops.length,h.obj⟩):awp P ow wf n (.region id ops.toArray true) (Post.seq K Q) s h:=by
 simp only[awp,if_true]
 exact⟨_,_,.refl,.inr (.inr (dwp3_of4 hd hw hk))⟩
variable {ops rest:List Oper}{L:List (Nat × Nat)}{B:List Nat}{base k:Nat}{o:Oper}{K:Slots→Heap→Prop}{s:Slots}{h:Heap}
theorem d4_end(hK:K s h):dr4 P ow wf n ops L B base k [] K s h:=hK
theorem d4_quiet(v:PV)(hl:L.lookup k=none)(hB:B.contains k=false)(hd:o.dst.all (fun d=>decide (d<n))=true)(hw:wantedB ops s o=some true)(hW:isW ow wf o=false)(he: ∀ H,Does P ow o (pev s) H v H)(hk:dr4 P ow wf n ops L B base (k+1) rest K (updO s o.dst v) h):dr4 P ow wf n ops L B base k (o::rest) K s h:=
 ⟨_,_,v,none,⟨by rw[hl];try rfl,hd,true,hw,fun hb=>(by cases hb),fun _=>⟨rfl,fun _=>⟨rfl,rfl,hB,he⟩,fun hw2=>(by rw[hW]at hw2;cases hw2)⟩⟩,hk⟩
theorem d4_new{v:PV}{ob:AObj}(hl:L.lookup k=some k)(hB:B.contains k=false)(hd:o.dst.all (fun d=>decide (d<n))=true)(hw:wantedB ops s o=some true)(hW:isW ow wf o=true)(hA:isA ow o=true)(he:aop P ow (base+k) o (pev s)=some (v,ob))(hk:dr4 P ow wf n ops L B base (k+1) rest K (updO s o.dst v) (h.set (base+k) ob)):dr4 P ow wf n ops L B base k (o::rest) K s h:=
 ⟨_,_,v,some (base+k,ob),⟨by rw[hl];try rfl,hd,true,hw,fun hb=>(by cases hb),fun _=>⟨rfl,fun hw2=>(by rw[hW]at hw2;cases hw2),fun _=> .inr (.inl ⟨hB,hA,ob,rfl,he,rfl⟩)⟩⟩,hk⟩
theorem d4_store{t:TypeId}{x y:Operand}{q r f:Nat}{ob:AObj}{v:PV}(hop:o.op= .store t x y)(hl:L.lookup k=some q)(hB:B.contains k=false)(hd:o.dst.all (fun d=>decide (d<n))=true)(hw:wantedB ops s o=some true)(hx:pev s x= .ptr (base+q) r f)(he:eff P (o.dst.any ow) (.store t x y) (pev s) h=some (v,h.set (base+q) ob))
  (hlate:(laB ow ops k).contains q=false)(hk:dr4 P ow wf n ops L B base (k+1) rest K (updO s o.dst v) (h.set (base+q) ob)):dr4 P ow wf n ops L B base k (o::rest) K s h:=by
 refine⟨_,_,v,some (base+q,ob),⟨by rw[hl];try rfl,hd,true,hw,fun hb=>(by cases hb),fun _=>⟨rfl,fun hw2=>?_,fun _=> .inr (.inr ⟨hB,t,x,y,base+q,r,f,ob,hop,hx,rfl,rfl,fun f hf e=>?_,by rw[hop];exact he⟩)⟩⟩,hk⟩
 ·unfold isW at hw2;rw[hop]at hw2;simp at hw2
 ·have:f=q:=by omega
  subst this
  have:(laB ow ops k).contains f=true:=by simpa using hf
  rw[hlate]at this
  cases this
theorem d4_br{v:PV}{h':Heap}{kl la:List Nat}(hl:L.lookup k=none)(hB:B.contains k=true)(hd:o.dst.all (fun d=>decide (d<n))=true)(hw:wantedB ops s o=some true)(hW:isW ow wf o=true)(hkl:kxL ow ops L k=kl)(hla:laB ow ops k=la)(he:Does P ow o (pev s) h v h')(h1: ∀ q∈kl,h.obj (base+q)=none∧h'.obj (base+q)=none)(h2: ∀ q∈la,h'.obj (base+q)=none)
  (hk:dr4 P ow wf n ops L B base (k+1) rest K (updO s o.dst v) h'):dr4 P ow wf n ops L B base k (o::rest) K s h:=
 ⟨_,_,v,none,⟨by rw[hl];try rfl,hd,true,hw,fun hb=>(by cases hb),fun _=>⟨rfl,fun hw2=>(by rw[hW]at hw2;cases hw2),fun _=> .inl ⟨hB,rfl,by rw[hkl];exact h1,he,by rw[hla];exact h2⟩⟩⟩,hk⟩
end
end Go.AM
namespace Go.Proofs.Ytjlkapgpjamnkaa
open Go.AM
set_option maxHeartbeats 2000000
set_option maxRecDepth 20000
def kindOf:Sx→Int
 | .mk k _ _ _ _ _=>k
def textOf:Sx→ByteArray
 | .mk _ _ _ _ t _=>t
def termsM:List Sx→List ByteArray × Int
 |[]=>([],0)
 |x::l=>bif kindOf x==1 then(bif termB (textOf x)then(match termsM l with
  |(t,c)=>bif c==0 then(textOf x::t,0)else([],c))else([],8))else([],2)
theorem tl_frzS{h:Heap}{id0:Nat}{p:PV}{l:List ByteArray}(t:Tl h id0 1 p (strRows l)):FrzTo id0 h (.imm 1 (strRows l)) p:=t.frz fun r hr p hp=>by
 simp only[strRows,List.mem_map]at hr
 obtain⟨s,_,rfl⟩:=hr
 simp only[List.mem_singleton]at hp
 exact⟨_,hp⟩
end Go.Proofs.Ytjlkapgpjamnkaa
namespace Go.Proofs.Ytjlkapgpjamnkaa
open Go.AM
def isPm(w:ByteArray):Bool:=bEq w opPls||bEq w opMin||bEq w opTim
def zeroEx:Ex:= .mk ⟨#[]⟩ ⟨#[]⟩ 0 [] []
def exprP:Sx→Ex × Int
 | .mk kind value _ _ _ kids=>
  if kind=2 then(.mk opNum ⟨#[]⟩ value [] [],0)
  else if kind=3 then(match kids with
   | x :: rest => bif kindOf x == 1 then
     (bif isPm (textOf x) then (match rest with
      |[a,b]=>(match exprP a with
       | (ea, ca) => bif ca == 0 then (match exprP b with
        |(eb,cb)=>bif cb==0 then(.mk (textOf x) ⟨#[]⟩ 0 [] [ea,eb],0)else(zeroEx,cb))else(zeroEx,ca))
      |_=>(zeroEx,2))
     else bif nameB (textOf x)then(match termsM rest with
      |(t,c)=>bif c==0 then(.mk opFlu (textOf x) 0 t [],0)else(zeroEx,c))else(zeroEx,8))
    else(zeroEx,2)
   |[]=>(zeroEx,2))else(zeroEx,2)
termination_by x=>SizeOf.sizeOf x
decreasing_by all_goals(simp_wf;omega)
theorem bEq_eq{a b:ByteArray}(h:bEq a b=true):a=b:=ba_ext (by simpa[bEq]using h)
end Go.Proofs.Ytjlkapgpjamnkaa
namespace Go.Proofs.Ytjlkapgpjamnkaa
open Go.AM
set_option maxHeartbeats 4000000
set_option maxRecDepth 20000
theorem ex_in(n:Nat): ∀ e:Ex,inNL n e.cells:=by
 have hs: ∀ l:List ByteArray,inNR n (strRows l):=by
  intro l
  induction l with
  |nil=>simp only[strRows,List.map_nil,inNR]
  |cons a l ih=>simp only[strRows,List.map_cons,inNR,inNL,inN,and_true,true_and]at ih⊢;exact ih
 refine Ex.ind ?_
 intro op name v args kids ih
 have:inNR n (Ex.rows kids):=by
  clear op name v args
  induction kids with
  |nil=>simp only[Ex.rows,inNR]
  |cons k ks ih2=>
   simp only[Ex.rows,inNR]
   exact⟨ih k (by simp),ih2 fun q hq=>ih q (by simp[hq])⟩
 simp only[Ex.cells,inNL,inN,and_true,true_and]
 exact⟨hs args,this⟩
theorem strs_in(n:Nat)(l:List ByteArray):inNR n (strRows l):=by
 induction l with
 |nil=>simp only[strRows,List.map_nil,inNR]
 |cons a l ih=>simp only[strRows,List.map_cons,inNR,inNL,inN,and_true,true_and]at ih⊢;exact ih
end Go.Proofs.Ytjlkapgpjamnkaa
namespace Go.Proofs.Ytjlkapgpjamnkaa
open Go.AM
set_option maxHeartbeats 4000000
set_option maxRecDepth 20000
theorem nsucc(n:Nat):(n=n+1)=False:=by simp
end Go.Proofs.Ytjlkapgpjamnkaa
namespace Go.AM
end Go.AM
namespace Go.Proofs.Ytjlkapgpjamnkaa
open Go.AM
set_option maxHeartbeats 4000000
set_option maxRecDepth 20000
theorem ex_frz(n:Nat)(h:Heap)(e:Ex):FrzL n h e.cells e.cells:=by
 have hi:=ex_in n e
 obtain⟨op,name,v,args,kids⟩:=e
 simp only[Ex.cells,inNL,inN,and_true,true_and]at hi
 simp only[Ex.cells,FrzL,FrzTo,and_true,true_and]
 exact⟨.inl hi.1,.inl hi.2⟩
theorem exs_frz(n:Nat)(h:Heap): ∀ l:List Ex,FrzR n h (Ex.rows l) (Ex.rows l)
 |[]=>by simp only[Ex.rows,FrzR]
 |k::ks=>by simp only[Ex.rows,FrzR];exact⟨ex_frz n h k,exs_frz n h ks⟩
theorem tl_frzE{h:Heap}{id0 n:Nat}{p:PV}{l:List Ex}(hn:n≤id0)(t:Tl h id0 5 p (Ex.rows l)):FrzTo n h (.imm 5 (Ex.rows l)) p:=by
 simp only[FrzTo]
 rcases t with⟨h1,h2⟩|⟨id,h1,h2,rfl,ho⟩
 ·exact .inr (.inl ⟨h1,h2.symm⟩)
 ·refine .inr (.inr ⟨id,0,_,_,rfl,by omega,ho,by omega,?_⟩)
  rw[List.drop_zero,List.take_of_length_le (by omega)]
  exact exs_frz _ _ _
end Go.Proofs.Ytjlkapgpjamnkaa
namespace Go.Proofs.Ytjlkapgpjamnkaa
open Go.AM
set_option maxHeartbeats 2000000
set_option maxRecDepth 20000
theorem signs_c(c:UInt8):signs.contains c=(((c.toNat:Int)==45)||((c.toNat:Int)==95)||((c.toNat:Int)==63)||((c.toNat:Int)==58)||((c.toNat:Int)==60)||((c.toNat:Int)==62)||((c.toNat:Int)==61)||((c.toNat:Int)==43)||((c.toNat:Int)==42)):=by
 have hh: ∀ d:UInt8,(c==d)=((c.toNat:Int)==(d.toNat:Int)):=by
  intro d
  by_cases h:c=d
  ·subst h;simp
  ·have:¬ c.toNat=d.toNat:=fun e=>h (UInt8.toNat_inj.1 e)
   have:¬ (c.toNat:Int)=(d.toNat:Int):=by omega
   rw[beq_eq_false_iff_ne.2 h,beq_eq_false_iff_ne.2 this]
 have e:signs.contains c=(c==45||(c==95||(c==63||(c==58||(c==60||(c==62||(c==61||(c==43||(c==42||false))))))))):=rfl
 rw[e,hh,hh,hh,hh,hh,hh,hh,hh,hh]
 simp only[Bool.or_false,Bool.or_assoc]
 rfl
def wordR(s:ByteArray):Bool:=s.data.toList.all wB&&decide (1≤s.size)&&decide (s.size≤32)&&!(numB s)
end Go.Proofs.Ytjlkapgpjamnkaa
namespace Go.AM
mutual
def Sx.count:Sx→Int
 | .mk _ _ _ _ _ kids=>Sx.counts 1 kids
def Sx.counts(n:Int):List Sx→Int
 |[]=>n
 |k::ks=>Sx.counts (IntKind.i64.wrap (n+k.count)) ks
end
mutual
def Sx.depth:Sx→Nat
 | .mk kind _ _ _ _ kids=>if kind=3 then Sx.depths 0 kids+1 else Sx.depths 0 kids
def Sx.depths(n:Nat):List Sx→Nat
 |[]=>n
 |k::ks=>Sx.depths (max n k.depth) ks
end
theorem Sx.depths_le: ∀ (l:List Sx)(n:Nat),n≤Sx.depths n l
 |[],n=>Nat.le_refl _
 |k::l,n=>by simp only[Sx.depths];exact Nat.le_trans (Nat.le_max_left _ _) (Sx.depths_le l _)
theorem Sx.depths_mem: ∀ {l:List Sx}{k:Sx}(n:Nat),k∈l→k.depth≤Sx.depths n l
 |k'::l,k,n,h=>by
  simp only[Sx.depths]
  rcases List.mem_cons.1 h with rfl|h
  ·exact Nat.le_trans (Nat.le_max_right _ _) (Sx.depths_le l _)
  ·exact Sx.depths_mem _ h
end Go.AM
namespace Go.Proofs.Ytjlkapgpjamnkaa
open Go.AM
set_option maxHeartbeats 2000000
set_option maxRecDepth 20000
mutual
def shapedS:Sx→Bool
 | .mk kind value _ _ text kids=>
  if kind=1 then(value==0)&&kids.isEmpty&&wordR text
  else if kind=2 then(text.data.toList==(#[]:Array UInt8).toList)&&kids.isEmpty&&decide (value≥ -1099511627776)&&decide (value≤1099511627776)
  else if kind=3 then shapedSs kids&&((text.data.toList==(#[]:Array UInt8).toList)&&(value==0))
  else false
def shapedSs:List Sx→Bool
 |[]=>true
 |k::ks=>shapedS k&&shapedSs ks
end
end Go.Proofs.Ytjlkapgpjamnkaa
namespace Go.AM
mutual
def Sx.nodes:Sx→Nat
 | .mk _ _ _ _ _ kids=>Sx.nodess kids+1
def Sx.nodess:List Sx→Nat
 |[]=>0
 |k::ks=>k.nodes+Sx.nodess ks
end
end Go.AM
namespace Go.Proofs.Ytjlkapgpjamnkaa
open Go.AM
theorem lowB_self(c:UInt8):lowB c=some c↔wB c=true:=by
 unfold lowB
 cases hu:upB c with
 |true=>
  have h1:65≤c.toNat∧c.toNat≤90:=by simpa[upB]using hu
  have hw:wB c=false:=by
   have h2:letB c=false:=by simp[letB];omega
   have h3:digB c=false:=by simp[digB];omega
   have h4:signs.contains c=false:=by
    rw[signs_c]
    have: ∀ v:Int,v=45∨v=95∨v=63∨v=58∨v=60∨v=62∨v=61∨v=43∨v=42→((c.toNat:Int)==v)=false:=by
     intro v hv
     rw[beq_eq_false_iff_ne]
     omega
    simp[this]
   simp only[wB,h2,h3,h4,Bool.or_false]
  rw[hw]
  simp only[if_true,Option.some.injEq,Bool.false_eq_true,iff_false]
  intro e
  have:=congrArg UInt8.toNat e
  rw[UInt8.toNat_add]at this
  simp at this
  omega
 |false=>
  simp only[Bool.false_eq_true,if_false]
  cases wB c<;>simp
theorem lowL_self: ∀ l:List UInt8,lowL l=some l↔l.all wB=true
 |[]=>by simp[lowL]
 |c::l=>by
  have h1:=lowB_self c
  have h2:=lowL_self l
  simp only[lowL,List.all_cons,Bool.and_eq_true]
  cases hc:lowB c with
  |none=>rw[hc]at h1;simp at h1⊢;intro hw;rw[h1]at hw;simp at hw
  |some d=>
   rw[hc]at h1
   cases hl:lowL l with
   |none=>rw[hl]at h2;simp at h2⊢;intro _;simpa using h2
   |some p=>
    rw[hl]at h2
    simp only[Option.map_some,Option.some.injEq,List.cons.injEq]
    rw[← h1, ← h2]
    simp
theorem word_same(s:ByteArray):wordB s=wordR s:=by
 have hsl:s.data.toList.length=s.size:=by rw[Array.length_toList];try rfl
 have hself:=lowL_self s.data.toList
 unfold wordB wordR lowS
 by_cases hc:0<s.size∧s.size≤32
 ·rw [if_pos hc]
  have d1:decide (1≤s.size)=true:=by simp;omega
  have d2:decide (s.size≤32)=true:=by simp;omega
  rw[d1,d2]
  cases hl:lowL s.data.toList with
  |none=>
   rw[hl]at hself
   have:s.data.toList.all wB=false:=by
    cases h:s.data.toList.all wB with
    |false=>rfl
    |true=>rw[h]at hself;simp at hself
   simp only[this,Bool.false_and]
  |some p=>
   rw[hl]at hself
   cases h:s.data.toList.all wB with
   |true=>
    rw[h]at hself
    have hp:p=s.data.toList:=by simpa using hself
    subst hp
    have:(⟨s.data.toList.toArray⟩:ByteArray)=s:=ba_ext rfl
    simp only[this,bEq,beq_self_eq_true,Bool.true_and]
   |false=>
    rw[h]at hself
    have hp:¬ p=s.data.toList:=by simpa using hself
    have:bEq (⟨p.toArray⟩:ByteArray) s=false:=by simp only[bEq,beq_eq_false_iff_ne];exact hp
    simp only[this,Bool.and_false,Bool.false_and]
 ·rw [if_neg hc]
  have:(decide (1≤s.size)&&decide (s.size≤32))=false:=by
   cases h:(decide (1≤s.size)&&decide (s.size≤32))with
   |false=>rfl
   |true=>
    simp only[Bool.and_eq_true,decide_eq_true_eq]at h
    exact absurd ⟨by omega,h.2⟩ hc
  simp only[Bool.false_and]
  rw[Bool.and_assoc (s.data.toList.all wB),this];simp
mutual
theorem svalid_iff: ∀ (x:Sx)(d n:Nat),d≤32→n≤4096→((svalid x d n).1=true↔shapedS x=true∧d+x.depth≤32∧n+x.nodes≤4096)∧((svalid x d n).1=true→(svalid x d n).2=n+x.nodes)
 | .mk kind value line col text kids,d,n,hd,hn=>by
  have e1:(kids.isEmpty=true)↔kids=[]:=List.isEmpty_iff
  unfold svalid shapedS
  simp only[Sx.depth,Sx.nodes]
  by_cases h0:n+1>4096
  ·rw [if_pos h0]
   refine⟨⟨by simp,fun⟨_,_,h⟩=>by omega⟩,by simp⟩
  ·rw [if_neg h0]
   by_cases k1:kind=1
   ·rw [if_pos k1,if_pos k1,word_same]
    have k3:¬ kind=3:=by omega
    rw[if_neg k3]
    simp only[Bool.and_eq_true,e1,decide_eq_true_eq,beq_iff_eq]
    constructor
    ·constructor
     ·rintro ⟨⟨h1,h2⟩,rfl⟩
      exact⟨⟨⟨h2,rfl⟩,h1⟩,by simp only[Sx.depths];omega,by simp only[Sx.nodess];omega⟩
     ·rintro ⟨⟨⟨h1,h2⟩,h3⟩,_⟩
      exact⟨⟨h3,h1⟩,h2⟩
    ·rintro ⟨_,rfl⟩;simp[Sx.nodess]
   ·rw [if_neg k1,if_neg k1]
    by_cases k2:kind=2
    ·rw [if_pos k2,if_pos k2]
     have k3:¬ kind=3:=by omega
     rw[if_neg k3]
     simp only[Bool.and_eq_true,e1,decide_eq_true_eq,bEq,ge_iff_le]
     constructor
     ·constructor
      ·rintro ⟨⟨⟨h1,rfl⟩,h3⟩,h4⟩
       exact⟨⟨⟨⟨h1,rfl⟩,h3⟩,h4⟩,by simp only[Sx.depths];omega,by simp only[Sx.nodess];omega⟩
      ·rintro ⟨⟨⟨⟨h1,h2⟩,h3⟩,h4⟩,_⟩
       exact⟨⟨⟨h1,h2⟩,h3⟩,h4⟩
     ·rintro ⟨⟨⟨_,rfl⟩,_⟩,_⟩;simp[Sx.nodess]
    ·rw [if_neg k2,if_neg k2]
     by_cases k3:kind=3
     ·rw [if_pos k3,if_pos k3,if_pos k3]
      simp only[Bool.and_eq_true,beq_iff_eq]
      by_cases hc:bEq text ⟨#[]⟩=true∧value=0∧d≠32
      ·rw [if_pos hc]
       obtain⟨g1,g2⟩:=svalids_iff kids (d+1) (n+1) (by omega) (by omega)
       rw[g1]
       refine⟨⟨fun⟨h1,h2,h3⟩=>⟨⟨h1,by simpa[bEq]using hc.1,hc.2.1⟩,by omega,by omega⟩,fun⟨⟨h1,_,_⟩,h2,h3⟩=>⟨h1,by omega,by omega⟩⟩,fun h=>?_⟩
       rw[g2 (g1.2 h)];omega
      ·rw [if_neg hc]
       refine⟨⟨by simp,fun⟨⟨h1,h4,h5⟩,h2,h3⟩=>?_⟩,by simp⟩
       exact absurd ⟨by simp only[bEq,beq_iff_eq];exact h4,h5,by omega⟩ hc
     ·rw [if_neg k3,if_neg k3]
      simp
theorem svalids_iff: ∀ (l:List Sx)(d n:Nat),d≤32→n≤4096→((svalids l d n).1=true↔shapedSs l=true∧d+Sx.depths 0 l≤32∧n+Sx.nodess l≤4096)∧((svalids l d n).1=true→(svalids l d n).2=n+Sx.nodess l)
 |[],d,n,hd,hn=>by simp[svalids,shapedSs,Sx.depths,Sx.nodess,hd,hn]
 |k::ks,d,n,hd,hn=>by
  obtain⟨g1,g2⟩:=svalid_iff k d n hd hn
  have hdm: ∀ (m:Nat)(l:List Sx),Sx.depths m l=max m (Sx.depths 0 l):=by
   intro m l
   induction l generalizing m with
   |nil=>simp[Sx.depths]
   |cons k l ih=>simp only[Sx.depths];rw[ih (max m k.depth),ih (max 0 k.depth)];omega
  simp only[svalids,shapedSs,Sx.depths,Sx.nodess,Bool.and_eq_true]
  rw[hdm]
  cases hb:svalid k d n with
  |mk b n'=>
   rw[hb]at g1 g2
   cases b with
   |false=>
    simp only at g1⊢
    refine⟨⟨by simp,fun⟨⟨h1,_⟩,h2,h3⟩=>?_⟩,by simp⟩
    exact absurd (g1.2 ⟨h1,by omega,by omega⟩) (by simp)
   |true=>
    simp only at g1 g2⊢
    obtain⟨a1,a2,a3⟩:=g1.1 trivial
    have e:=g2 trivial
    obtain⟨f1,f2⟩:=svalids_iff ks d n' hd (by omega)
    rw[f1]
    refine⟨⟨fun⟨h1,h2,h3⟩=>⟨⟨a1,h1⟩,by omega,by omega⟩,fun⟨⟨_,h1⟩,h2,h3⟩=>⟨h1,by omega,by omega⟩⟩,fun h=>?_⟩
    rw[f2 (f1.2 h)];omega
end
end Go.Proofs.Ytjlkapgpjamnkaa
namespace Go.Proofs.Ytjlkapgpjamnkaa
open Go.AM
def fin(r:Fm × Int):Fm × Int:=bif r.2==0 then r else(zeroFm,r.2)
end Go.Proofs.Ytjlkapgpjamnkaa
namespace Go.Proofs.Ytjlkapgpjamnkaa
open Go.AM
theorem partsOk_cases{op name:ByteArray}{args:List ByteArray}{params:List Pm}{ne nk:Nat}(h:partsOk op name args params ne nk=true):
  (op=opAtom∧nameB name=true∧args.all termB=true∧params=[]∧ne=0∧nk=0)∨
  (op=opSame∧name=⟨#[]⟩∧args.length=2∧args.all termB=true∧params=[]∧ne=0∧nk=0)∨
  ((op=opLt∨op=opLe∨op=opEq)∧name=⟨#[]⟩∧args=[]∧params=[]∧ne=2∧nk=0)∨
  ((op=opAnd∨op=opOr∨(op=opNot∧nk=1)∨(op=opImp∧nk=2))∧name=⟨#[]⟩∧args=[]∧params=[]∧ne=0)∨
  ((op=opAll∨op=opSome)∧name=⟨#[]⟩∧args=[]∧ne=0∧nk=1∧params.all pmOk=true):=by
 unfold partsOk shapeOf at h
 have t1: ∀ o:ByteArray,bEq o opAtom=false→bEq o opSame=false→termsOk o name args=true→name=⟨#[]⟩∧args=[]:=by
  intro o h1 h2 h3
  unfold termsOk at h3
  rw[h1,h2]at h3
  simp only[Bool.false_eq_true,if_false,Bool.and_eq_true,List.isEmpty_iff]at h3
  exact⟨bEq_eq h3.1,h3.2⟩
 cases c1:bEq op opAtom with
 |true=>
  have:=bEq_eq c1
  subst this
  left
  simp[c1,termsOk,and_assoc]at h
  exact⟨rfl,h.1,by simpa using h.2.1,h.2.2.2.2.1,h.2.2.1,h.2.2.2.1⟩
 |false=>
 cases c2:bEq op opSame with
 |true=>
  have:=bEq_eq c2
  subst this
  right;left
  simp[c1,c2,termsOk,and_assoc]at h
  obtain⟨h1,h2,h3,h4,h5,h6,_⟩:=h
  exact⟨rfl,bEq_eq h1,h2,by simpa using h3,h6,h4,h5⟩
 |false=>
  have t2:=t1 op c1 c2
  rw[c1,c2]at h
  simp only[Bool.false_eq_true,if_false]at h
  right;right
  by_cases c3:bEq op opLt=true∨bEq op opLe=true∨bEq op opEq=true
  ·left
   have h':termsOk op name args=true∧ne=2∧nk=0∧params=[]:=by
    split at h
    ·simp at h
    ·rename_i e m q he
     have:(e,m,q)=(2,0,false):=by
      rcases c3 with c|c|c
      ·simp [c]at he;simp[he]
      ·by_cases c0:bEq op opLt=true
       ·simp [c0]at he;simp[he]
       ·simp [c0,c]at he;simp[he]
      ·by_cases c0:bEq op opLt=true
       ·simp [c0]at he;simp[he]
       ·by_cases c00:bEq op opLe=true
        ·simp [c0,c00]at he;simp[he]
        ·simp [c0,c00,c]at he;simp[he]
     simp at this
     obtain⟨rfl,rfl,rfl⟩:=this
     simp[and_assoc]at h
     exact⟨h.1,h.2.1,h.2.2.1,h.2.2.2.1⟩
   obtain⟨g1,g2,g3,g4⟩:=h'
   obtain⟨g5,g6⟩:=t2 g1
   exact⟨c3.imp bEq_eq (fun c=>c.imp bEq_eq bEq_eq),g5,g6,g4,g2,g3⟩
  ·simp only[not_or,Bool.not_eq_true]at c3
   rw[c3.1,c3.2.1,c3.2.2]at h
   simp only[Bool.false_eq_true,if_false]at h
   right
   cases c4:bEq op opAnd with
   |true=>
    left
    simp[c4,and_assoc]at h
    exact⟨.inl (bEq_eq c4),(t2 h.1).1,(t2 h.1).2,h.2.2.1,h.2.1⟩
   |false=>
   cases c5:bEq op opOr with
   |true=>
    left
    simp[c4,c5,and_assoc]at h
    exact⟨.inr (.inl (bEq_eq c5)),(t2 h.1).1,(t2 h.1).2,h.2.2.1,h.2.1⟩
   |false=>
   cases c6:bEq op opNot with
   |true=>
    left
    simp[c4,c5,c6,and_assoc]at h
    exact⟨.inr (.inr (.inl ⟨bEq_eq c6,h.2.2.1⟩)),(t2 h.1).1,(t2 h.1).2,h.2.2.2.1,h.2.1⟩
   |false=>
   cases c7:bEq op opImp with
   |true=>
    left
    simp[c4,c5,c6,c7,and_assoc]at h
    exact⟨.inr (.inr (.inr ⟨bEq_eq c7,h.2.2.1⟩)),(t2 h.1).1,(t2 h.1).2,h.2.2.2.1,h.2.1⟩
   |false=>
   cases c8:bEq op opAll with
   |true=>
    right
    simp[c4,c5,c6,c7,c8,and_assoc]at h
    exact⟨.inl (bEq_eq c8),(t2 h.1).1,(t2 h.1).2,h.2.1,h.2.2.1,by simpa using h.2.2.2⟩
   |false=>
   cases c9:bEq op opSome with
   |true=>
    right
    simp[c4,c5,c6,c7,c8,c9,and_assoc]at h
    exact⟨.inr (bEq_eq c9),(t2 h.1).1,(t2 h.1).2,h.2.1,h.2.2.1,by simpa using h.2.2.2⟩
   |false=>simp[c4,c5,c6,c7,c8,c9]at h
theorem midB_low{c:UInt8}(h:midB c=true):lowB c=some c:=by
 have h45:c.toNat=45→c=45:=fun e=>UInt8.toNat_inj.1 (by rw[e];try rfl)
 have h95:c.toNat=95→c=95:=fun e=>UInt8.toNat_inj.1 (by rw[e];try rfl)
 have hu:upB c=false:=by
  unfold midB letB at h
  unfold upB
  simp at h⊢
  omega
 have hw:wB c=true:=by
  unfold wB digB
  unfold midB at h
  simp only[Bool.or_eq_true]at h⊢
  rcases h with((h|h)|h)|h
  ·exact .inl (.inl h)
  ·exact .inl (.inr h)
  ·rw [h45 (by simpa using h)];exact .inr (by decide)
  ·rw [h95 (by simpa using h)];exact .inr (by decide)
 unfold lowB
 rw[hu,hw];try rfl
theorem lowL_mid: ∀ {l:List UInt8},l.all midB=true→lowL l=some l
 |[],_=>rfl
 |c::l,h=>by
  simp only[List.all_cons,Bool.and_eq_true]at h
  simp only[lowL,midB_low h.1,lowL_mid h.2,Option.map_some]
theorem bytesOk_mid{l:List UInt8}(h:bytesOkB l=true):l.all midB=true:=by
 cases l with
 |nil=>rfl
 |cons c l=>
  simp only[bytesOkB,Bool.and_eq_true]at h
  simp only[List.all_cons,Bool.and_eq_true]
  exact⟨letB_mid h.1,h.2⟩
theorem word_of{s:ByteArray}(h1:0<s.size)(h2:s.size≤32)(h3:lowL s.data.toList=some s.data.toList)(h4: ∀ c l,s.data.toList=c::l→digB c=false∧c≠45):wordB s=true:=by
 have hl:lowS s=(s,true):=by
  unfold lowS
  rw[if_pos ⟨h1,h2⟩,h3]
 unfold wordB
 rw[hl]
 have hn:numB s=false:=by
  have hsz:s.data.toList≠[]:=by
   intro e
   have:s.data.toList.length=0:=by rw[e];try rfl
   rw[Array.length_toList]at this
   have:s.size=0:=this
   omega
  unfold numB trimB
  cases he:s.data.toList with
  |nil=>exact(hsz he).elim
  |cons c l=>
   obtain⟨g1,g2⟩:=h4 c l he
   split
   ·rename_i e;simp at e;exact(g2 e.1).elim
   ·rw [he,List.all_cons,g1];try rfl
 simp[hn,bEq]
theorem name_word{s:ByteArray}(h:nameB s=true):wordB s=true:=by
 unfold nameB at h
 simp only[Bool.and_eq_true,decide_eq_true_eq]at h
 obtain⟨⟨⟨h1,h2⟩,h3⟩,_⟩:=h
 refine word_of h2 h3 (lowL_mid (bytesOk_mid h1)) ?_
 intro c l he
 rw[he]at h1
 simp only[bytesOkB,Bool.and_eq_true]at h1
 have h4:=h1.1
 unfold letB at h4
 simp at h4
 refine⟨by unfold digB;simp;omega,fun e=>?_⟩
 subst e
 simp at h4
theorem var_word{s:ByteArray}(h:varB s=true):wordB s=true∧bEq s opMin=false:=by
 unfold varB at h
 simp only[Bool.and_eq_true,decide_eq_true_eq]at h
 obtain⟨⟨⟨h1,h2⟩,h3⟩,h4⟩:=h
 cases he:s.data.toList with
 |nil=>rw[he]at h3;simp at h3
 |cons c l=>
  rw[he]at h3
  simp at h3
  have hc:c=63:=UInt8.toNat_inj.1 (by rw[h3];try rfl)
  subst hc
  have hx:(s.extract 1 s.size).data.toList=l:=by
   have:(s.extract 1 s.size).data.toList=(s.data.toList.take s.size).drop 1:=by
    simp[ByteArray.data_extract,List.drop_take]
   rw[this,List.take_of_length_le (by rw[Array.length_toList];exact Nat.le_refl _),he];rfl
  unfold nameB at h4
  simp only[Bool.and_eq_true]at h4
  have h5:=bytesOk_mid h4.1.1.1
  rw[hx]at h5
  refine⟨word_of (by omega) h2 ?_ ?_,?_⟩
  ·rw [he]
   simp only[lowL,lowL_mid h5]
   rfl
  ·intro d m hd
   rw[he]at hd
   simp at hd
   rw[← hd.1]
   exact⟨by decide,by decide⟩
  ·unfold bEq
   rw[he]
   simp[opMin]
end Go.Proofs.Ytjlkapgpjamnkaa
namespace Go.Proofs.Ytjlkapgpjamnkaa
open Go.AM
def opOf:Fm→ByteArray
 | .mk op _ _ _ _ _=>op
def fkids:Fm→List Fm
 | .mk _ _ _ _ _ kids=>kids
def flatM(op:ByteArray)(l:List Fm):List Fm:=l.flatMap fun n=>if bEq (opOf n) op=true then fkids n else[n]
def combM(op:ByteArray)(l:List Fm):Fm:= .mk op ⟨#[]⟩ [] [] [] (flatM op l)
def cmpM(op:ByteArray)(a b:Ex):Fm:= .mk op ⟨#[]⟩ [] [] [a,b] []
def dualM(a b:ByteArray)(s:Bool):ByteArray:=if s=true then a else b
def cmpN(o1 o2:ByteArray)(s:Bool):List Ex→Fm
 |[a,b]=>if s=true then cmpM o1 a b else cmpM o2 b a
 |_=>zeroFm
def eqN(s:Bool):List Ex→Fm
 |[a,b]=>if s=true then cmpM opEq a b else .mk opOr ⟨#[]⟩ [] [] [] [cmpM opLt a b,cmpM opLt b a]
 |_=>zeroFm
def normTop(op name:ByteArray)(args:List ByteArray)(params:List Pm)(exprs:List Ex)(kids p q:List Fm)(s:Bool):Fm:=
 if bEq op opNot=true then q.headD zeroFm
 else if bEq op opImp=true then combM (dualM opOr opAnd s) [q.headD zeroFm,(p.drop 1).headD zeroFm]
 else if bEq op opAnd=true then combM (dualM opAnd opOr s) p
 else if bEq op opOr=true then combM (dualM opOr opAnd s) p
 else if bEq op opAll=true then .mk (dualM opAll opSome s) ⟨#[]⟩ [] params [] [p.headD zeroFm]
 else if bEq op opSome=true then .mk (dualM opSome opAll s) ⟨#[]⟩ [] params [] [p.headD zeroFm]
 else if bEq op opLt=true then cmpN opLt opLe s exprs
 else if bEq op opLe=true then cmpN opLe opLt s exprs
 else if bEq op opEq=true then eqN s exprs
 else if s=true then .mk op name args params exprs kids else .mk opNot ⟨#[]⟩ [] [] [] [.mk op name args params exprs kids]
mutual
def normalM:Fm→Bool→Fm
 | .mk op name args params exprs kids,s=>normTop op name args params exprs kids (normalMs kids s) (normalMs kids (!s)) s
def normalMs:List Fm→Bool→List Fm
 |[],_=>[]
 |k::l,s=>normalM k s::normalMs l s
end
theorem normalMs_map(s:Bool): ∀ l:List Fm,normalMs l s=l.map (normalM · s)
 |[]=>rfl
 |k::l=>by simp[normalMs,normalMs_map s l]
section
variable {name:ByteArray}{args:List ByteArray}{params:List Pm}{exprs:List Ex}{kids p q:List Fm}{s:Bool}
theorem nt_atom:normTop opAtom name args params exprs kids p q s=if s=true then .mk opAtom name args params exprs kids else .mk opNot ⟨#[]⟩ [] [] [] [.mk opAtom name args params exprs kids]:=rfl
theorem nt_same:normTop opSame name args params exprs kids p q s=if s=true then .mk opSame name args params exprs kids else .mk opNot ⟨#[]⟩ [] [] [] [.mk opSame name args params exprs kids]:=rfl
theorem nt_lt:normTop opLt name args params exprs kids p q s=cmpN opLt opLe s exprs:=rfl
theorem nt_le:normTop opLe name args params exprs kids p q s=cmpN opLe opLt s exprs:=rfl
theorem nt_eq:normTop opEq name args params exprs kids p q s=eqN s exprs:=rfl
theorem nt_and:normTop opAnd name args params exprs kids p q s=combM (dualM opAnd opOr s) p:=rfl
theorem nt_or:normTop opOr name args params exprs kids p q s=combM (dualM opOr opAnd s) p:=rfl
theorem nt_not:normTop opNot name args params exprs kids p q s=q.headD zeroFm:=rfl
theorem nt_imp:normTop opImp name args params exprs kids p q s=combM (dualM opOr opAnd s) [q.headD zeroFm,(p.drop 1).headD zeroFm]:=rfl
theorem nt_all:normTop opAll name args params exprs kids p q s= .mk (dualM opAll opSome s) ⟨#[]⟩ [] params [] [p.headD zeroFm]:=rfl
theorem nt_some:normTop opSome name args params exprs kids p q s= .mk (dualM opSome opAll s) ⟨#[]⟩ [] params [] [p.headD zeroFm]:=rfl
end
theorem po_and(n:Nat):partsOk opAnd ⟨#[]⟩ [] [] 0 n=true:=by simp[partsOk,show shapeOf opAnd n=some (0,n,false)from rfl,show termsOk opAnd ⟨#[]⟩ []=true from rfl]
theorem po_or(n:Nat):partsOk opOr ⟨#[]⟩ [] [] 0 n=true:=by simp[partsOk,show shapeOf opOr n=some (0,n,false)from rfl,show termsOk opOr ⟨#[]⟩ []=true from rfl]
theorem po_not:partsOk opNot ⟨#[]⟩ [] [] 0 1=true:=rfl
theorem po_lt:partsOk opLt ⟨#[]⟩ [] [] 2 0=true:=rfl
theorem po_le:partsOk opLe ⟨#[]⟩ [] [] 2 0=true:=rfl
theorem po_eq:partsOk opEq ⟨#[]⟩ [] [] 2 0=true:=rfl
theorem po_all{params:List Pm}(h:params.all pmOk=true):partsOk opAll ⟨#[]⟩ [] params 0 1=true:=by simp[partsOk,show shapeOf opAll 1=some (0,1,true)from rfl,show termsOk opAll ⟨#[]⟩ []=true from rfl,h]
theorem po_some{params:List Pm}(h:params.all pmOk=true):partsOk opSome ⟨#[]⟩ [] params 0 1=true:=by simp[partsOk,show shapeOf opSome 1=some (0,1,true)from rfl,show termsOk opSome ⟨#[]⟩ []=true from rfl,h]
theorem sf_mk{op name:ByteArray}{args:List ByteArray}{params:List Pm}{exprs:List Ex}{kids:List Fm}(h1:partsOk op name args params exprs.length kids.length=true)(h2: ∀ e∈exprs,shapedE e=true)(h3: ∀ k∈kids,shapedF k=true):shapedF (.mk op name args params exprs kids)=true:=by
 simp only[shapedF,Bool.and_eq_true,List.all_eq_true]
 exact⟨⟨h1,h2⟩,shapedFs_iff.2 h3⟩
theorem sf_kids{f:Fm}(h:shapedF f=true): ∀ k∈fkids f,shapedF k=true:=by
 obtain⟨op,name,args,params,exprs,kids⟩:=f
 simp only[shapedF,Bool.and_eq_true]at h
 exact shapedFs_iff.1 h.2
theorem flatM_mem{op:ByteArray}{l:List Fm}{k:Fm}(h:k∈flatM op l):(∃ n∈l,bEq (opOf n) op=true∧k∈fkids n)∨(k∈l∧¬ bEq (opOf k) op=true):=by
 simp only[flatM,List.mem_flatMap]at h
 obtain⟨n,hn,hk⟩:=h
 split at hk
 ·rename_i he;exact .inl ⟨n,hn,he,hk⟩
 ·rename_i he;simp only[List.mem_singleton]at hk;subst hk;exact .inr ⟨hn,he⟩
theorem sf_comb{a b:ByteArray}{s:Bool}{l:List Fm}(hab:(a=opAnd∧b=opOr)∨(a=opOr∧b=opAnd))(h: ∀ k∈l,shapedF k=true):shapedF (combM (dualM a b s) l)=true:=by
 have hk: ∀ o, ∀ k∈flatM o l,shapedF k=true:=fun o k hk=>by
  rcases flatM_mem hk with⟨n,hn,_,hkn⟩|⟨hkl,_⟩
  ·exact sf_kids (h n hn) k hkn
  ·exact h k hkl
 have h1: ∀ o,(o=opAnd∨o=opOr)→shapedF (combM o l)=true:=fun o ho=>by
  refine sf_mk ?_ (by simp) (hk o)
  rcases ho with rfl|rfl
  ·exact po_and _
  ·exact po_or _
 cases s<;>simp only[dualM,if_true,Bool.false_eq_true,if_false]
 ·exact h1 b (hab.elim (fun h=> .inr h.2) fun h=> .inl h.2)
 ·exact h1 a (hab.elim (fun h=> .inl h.1) fun h=> .inr h.1)
theorem sf_cases{C:Fm→Prop}(f:Fm)(hf:shapedF f=true)
  (h1: ∀ name args,nameB name=true→args.all termB=true→C (.mk opAtom name args [] [] []))
  (h2: ∀ args,args.length=2→args.all termB=true→C (.mk opSame ⟨#[]⟩ args [] [] []))
  (h3: ∀ op a b,(op=opLt∨op=opLe∨op=opEq)→shapedE a=true→shapedE b=true→C (.mk op ⟨#[]⟩ [] [] [a,b] []))
  (h4: ∀ op kids,(op=opAnd∨op=opOr)→(∀ k∈kids,shapedF k=true)→C (.mk op ⟨#[]⟩ [] [] [] kids))
  (h5: ∀ k,shapedF k=true→C (.mk opNot ⟨#[]⟩ [] [] [] [k]))
  (h6: ∀ a b,shapedF a=true→shapedF b=true→C (.mk opImp ⟨#[]⟩ [] [] [] [a,b]))
  (h7: ∀ op params k,(op=opAll∨op=opSome)→params.all pmOk=true→shapedF k=true→C (.mk op ⟨#[]⟩ [] params [] [k])):C f:=by
 obtain⟨op,name,args,params,exprs,kids⟩:=f
 simp only[shapedF,Bool.and_eq_true,List.all_eq_true]at hf
 obtain⟨⟨hp,he⟩,hk⟩:=hf
 rw[shapedFs_iff]at hk
 rcases partsOk_cases hp with⟨rfl,a1,a2,rfl,a3,a4⟩|⟨rfl,rfl,a1,a2,rfl,a3,a4⟩|⟨a1,rfl,rfl,rfl,a3,a4⟩|⟨a1,rfl,rfl,rfl,a3⟩|⟨a1,rfl,rfl,a3,a4,a5⟩
 ·obtain rfl:=List.eq_nil_of_length_eq_zero a3
  obtain rfl:=List.eq_nil_of_length_eq_zero a4
  exact h1 _ _ a1 a2
 ·obtain rfl:=List.eq_nil_of_length_eq_zero a3
  obtain rfl:=List.eq_nil_of_length_eq_zero a4
  exact h2 _ a1 a2
 ·obtain rfl:=List.eq_nil_of_length_eq_zero a4
  match exprs,a3,he with
  |[a,b],_,he=>exact h3 _ _ _ a1 (he a (by simp)) (he b (by simp))
 ·obtain rfl:=List.eq_nil_of_length_eq_zero a3
  rcases a1 with rfl|rfl|⟨rfl,a4⟩|⟨rfl,a4⟩
  ·exact h4 _ _ (.inl rfl) hk
  ·exact h4 _ _ (.inr rfl) hk
  ·match kids,a4,hk with
   |[k],_,hk=>exact h5 _ (hk k (by simp))
  ·match kids,a4,hk with
   |[a,b],_,hk=>exact h6 _ _ (hk a (by simp)) (hk b (by simp))
 ·obtain rfl:=List.eq_nil_of_length_eq_zero a3
  match kids,a4,hk with
  |[k],_,hk=>exact h7 _ _ _ a1 a5 (hk k (by simp))
theorem sf_ind{C:Fm→Prop}
  (h1: ∀ name args,nameB name=true→args.all termB=true→C (.mk opAtom name args [] [] []))
  (h2: ∀ args,args.length=2→args.all termB=true→C (.mk opSame ⟨#[]⟩ args [] [] []))
  (h3: ∀ op a b,(op=opLt∨op=opLe∨op=opEq)→shapedE a=true→shapedE b=true→C (.mk op ⟨#[]⟩ [] [] [a,b] []))
  (h4: ∀ op kids,(op=opAnd∨op=opOr)→(∀ k∈kids,shapedF k=true)→(∀ k∈kids,C k)→C (.mk op ⟨#[]⟩ [] [] [] kids))
  (h5: ∀ k,shapedF k=true→C k→C (.mk opNot ⟨#[]⟩ [] [] [] [k]))
  (h6: ∀ a b,shapedF a=true→shapedF b=true→C a→C b→C (.mk opImp ⟨#[]⟩ [] [] [] [a,b]))
  (h7: ∀ op params k,(op=opAll∨op=opSome)→params.all pmOk=true→shapedF k=true→C k→C (.mk op ⟨#[]⟩ [] params [] [k])): ∀ f,shapedF f=true→C f:=by
 refine Fm.ind (C:=fun f=>shapedF f=true→C f) ?_
 intro op name args params exprs kids ih hf
 refine sf_cases (C:=fun f=>(∀ k∈fkids f,shapedF k=true→C k)→C f) _ hf (fun a b c d _=>h1 a b c d) (fun a b c _=>h2 a b c) (fun a b c d e f _=>h3 a b c d e f) (fun a b c d ih=>h4 a b c d fun k hk=>ih k hk (d k hk)) (fun k hk ih=>h5 k hk (ih k (by simp[fkids]) hk)) (fun a b ha hb ih=>h6 a b ha hb (ih a (by simp[fkids]) ha) (ih b (by simp[fkids]) hb)) (fun op ps k a b c ih=>h7 op ps k a b c (ih k (by simp[fkids]) c)) ?_
 exact ih
theorem normalM_shaped: ∀ f,shapedF f=true→ ∀ s,shapedF (normalM f s)=true:=by
 refine sf_ind ?_ ?_ ?_ ?_ ?_ ?_ ?_
 ·intro name args h1 h2 s
  have hb:shapedF (.mk opAtom name args [] [] [])=true:=sf_mk (by simp[partsOk,show shapeOf opAtom 0=some (0,0,false)from rfl,show termsOk opAtom name args=(nameB name&&args.all termB)from rfl,h1,h2]) (by simp) (by simp)
  simp only[normalM,nt_atom]
  split
  ·exact hb
  ·exact sf_mk po_not (by simp) (by simpa using hb)
 ·intro args h1 h2 s
  have hb:shapedF (.mk opSame ⟨#[]⟩ args [] [] [])=true:=sf_mk (by simp[partsOk,show shapeOf opSame 0=some (0,0,false)from rfl,show termsOk opSame ⟨#[]⟩ args=(emptyB ⟨#[]⟩&&decide (args.length=2)&&args.all termB)from rfl,h1,h2,show emptyB ⟨#[]⟩=true from rfl]) (by simp) (by simp)
  simp only[normalM,nt_same]
  split
  ·exact hb
  ·exact sf_mk po_not (by simp) (by simpa using hb)
 ·intro op a b ho ha hb s
  have hc: ∀ o,partsOk o ⟨#[]⟩ [] [] 2 0=true→ ∀ x y,shapedE x=true→shapedE y=true→shapedF (cmpM o x y)=true:=fun o h x y hx hy=>sf_mk h (by simp[hx,hy]) (by simp)
  rcases ho with rfl|rfl|rfl
  ·simp only[normalM,nt_lt,cmpN]
   split
   ·exact hc _ po_lt _ _ ha hb
   ·exact hc _ po_le _ _ hb ha
  ·simp only[normalM,nt_le,cmpN]
   split
   ·exact hc _ po_le _ _ ha hb
   ·exact hc _ po_lt _ _ hb ha
  ·simp only[normalM,nt_eq,eqN]
   split
   ·exact hc _ po_eq _ _ ha hb
   ·exact sf_mk (po_or 2) (by simp) (by simp[hc _ po_lt _ _ ha hb,hc _ po_lt _ _ hb ha])
 ·intro op kids ho hk ih s
  have hl: ∀ k∈normalMs kids s,shapedF k=true:=by rw[normalMs_map];intro k h;obtain⟨x,hx,rfl⟩:=List.mem_map.1 h;exact ih x hx s
  rcases ho with rfl|rfl
  ·simp only[normalM,nt_and];exact sf_comb (.inl ⟨rfl,rfl⟩) hl
  ·simp only[normalM,nt_or];exact sf_comb (.inr ⟨rfl,rfl⟩) hl
 ·intro k hk ih s
  simp only[normalM,nt_not,normalMs,List.headD_cons]
  exact ih _
 ·intro a b ha hb iha ihb s
  simp only[normalM,nt_imp,normalMs,List.headD_cons,List.drop_succ_cons,List.drop_zero]
  exact sf_comb (.inr ⟨rfl,rfl⟩) (by simp[iha,ihb])
 ·intro op params k ho hp hk ih s
  rcases ho with rfl|rfl
  ·simp only[normalM,nt_all,normalMs,List.headD_cons]
   cases s<;>simp only[dualM,if_true,Bool.false_eq_true,if_false]
   ·exact sf_mk (po_some hp) (by simp) (by simp[ih])
   ·exact sf_mk (po_all hp) (by simp) (by simp[ih])
  ·simp only[normalM,nt_some,normalMs,List.headD_cons]
   cases s<;>simp only[dualM,if_true,Bool.false_eq_true,if_false]
   ·exact sf_mk (po_all hp) (by simp) (by simp[ih])
   ·exact sf_mk (po_some hp) (by simp) (by simp[ih])
end Go.Proofs.Ytjlkapgpjamnkaa
namespace Go.AM
end Go.AM
namespace Go.Proofs.Ytjlkapgpjamnkaa
open Go.AM
section
variable {v:ByteArray→Bool}{x:ByteArray}
end
structure Intp(B:Type) where
 A:ByteArray→List ByteArray→B→Bool
 S:List ByteArray→B→Bool
 V:Ex→B→Int
 a:Pm→B→B
 b:Pm→B→B
def quantT{B:Type}(I:Intp B)(all:Bool)(g:B→Bool):List Pm→B→Bool
 |[],e=>g e
 |p::l,e=>if all=true then quantT I all g l (I.a p e)&&quantT I all g l (I.b p e)else quantT I all g l (I.a p e)||quantT I all g l (I.b p e)
theorem quantT_not{B:Type}(I:Intp B)(all:Bool)(g:B→Bool): ∀ (l:List Pm)(e:B),quantT I (!all) (fun e=>!g e) l e=!quantT I all g l e
 |[],e=>rfl
 |p::l,e=>by
  simp only[quantT,quantT_not I all g l]
  cases all<;>simp[Bool.not_and,Bool.not_or]
def cmpT(op:ByteArray)(x y:Int):Bool:=(bEq op opLt&&decide (x<y))||(bEq op opLe&&decide (x≤y))||(bEq op opEq&&decide (x=y))
mutual
def truthM{B:Type}(I:Intp B):Fm→B→Bool
 | .mk op name args params exprs kids,e=>
  if bEq op opAtom=true then I.A name args e
  else if bEq op opSame=true then I.S args e
  else if isCmp op=true then(match exprs with
   |[a,b]=>cmpT op (I.V a e) (I.V b e)
   |_=>false)
  else if bEq op opNot=true then(match kids with
   |[k]=>!truthM I k e
   |_=>false)
  else if bEq op opImp=true then(match kids with
   |[a,b]=>!truthM I a e||truthM I b e
   |_=>false)
  else if isQ op=true then(match kids with
   |[k]=>quantT I (bEq op opAll) (fun e=>truthM I k e) params e
   |_=>false)
  else if bEq op opAnd=true then truthAll I kids e else truthAny I kids e
def truthAll{B:Type}(I:Intp B):List Fm→B→Bool
 |[],_=>true
 |k::l,e=>truthM I k e&&truthAll I l e
def truthAny{B:Type}(I:Intp B):List Fm→B→Bool
 |[],_=>false
 |k::l,e=>truthM I k e||truthAny I l e
end
section
variable {B:Type}(I:Intp B)
theorem tr_atom{name:ByteArray}{args:List ByteArray}{params:List Pm}{exprs:List Ex}{kids:List Fm}{e:B}:truthM I (.mk opAtom name args params exprs kids) e=I.A name args e:=by unfold truthM;rfl
theorem tr_same{name:ByteArray}{args:List ByteArray}{params:List Pm}{exprs:List Ex}{kids:List Fm}{e:B}:truthM I (.mk opSame name args params exprs kids) e=I.S args e:=by unfold truthM;rfl
theorem tr_lt{a b:Ex}{e:B}:truthM I (cmpM opLt a b) e=decide (I.V a e<I.V b e):=by
 show cmpT opLt _ _=_
 simp[cmpT,show bEq opLt opLt=true from rfl,show bEq opLt opLe=false from rfl,show bEq opLt opEq=false from rfl]
theorem tr_le{a b:Ex}{e:B}:truthM I (cmpM opLe a b) e=decide (I.V a e≤I.V b e):=by
 show cmpT opLe _ _=_
 simp[cmpT,show bEq opLe opLt=false from rfl,show bEq opLe opLe=true from rfl,show bEq opLe opEq=false from rfl]
theorem tr_eq{a b:Ex}{e:B}:truthM I (cmpM opEq a b) e=decide (I.V a e=I.V b e):=by
 show cmpT opEq _ _=_
 simp[cmpT,show bEq opEq opLt=false from rfl,show bEq opEq opLe=false from rfl,show bEq opEq opEq=true from rfl]
theorem tr_not{k:Fm}{e:B}:truthM I (.mk opNot ⟨#[]⟩ [] [] [] [k]) e=!truthM I k e:=rfl
theorem tr_imp{a b:Fm}{e:B}:truthM I (.mk opImp ⟨#[]⟩ [] [] [] [a,b]) e=(!truthM I a e||truthM I b e):=rfl
theorem tr_all{params:List Pm}{k:Fm}{e:B}:truthM I (.mk opAll ⟨#[]⟩ [] params [] [k]) e=quantT I true (fun e=>truthM I k e) params e:=rfl
theorem tr_some{params:List Pm}{k:Fm}{e:B}:truthM I (.mk opSome ⟨#[]⟩ [] params [] [k]) e=quantT I false (fun e=>truthM I k e) params e:=rfl
theorem tr_and{l:List Fm}{e:B}:truthM I (.mk opAnd ⟨#[]⟩ [] [] [] l) e=truthAll I l e:=by unfold truthM;rfl
theorem tr_or{l:List Fm}{e:B}:truthM I (.mk opOr ⟨#[]⟩ [] [] [] l) e=truthAny I l e:=by unfold truthM;rfl
theorem truthAll_append{e:B}: ∀ l m:List Fm,truthAll I (l++m) e=(truthAll I l e&&truthAll I m e)
 |[],m=>by simp[truthAll]
 |k::l,m=>by simp[truthAll,truthAll_append l m,Bool.and_assoc]
theorem truthAny_append{e:B}: ∀ l m:List Fm,truthAny I (l++m) e=(truthAny I l e||truthAny I m e)
 |[],m=>by simp[truthAny]
 |k::l,m=>by simp[truthAny,truthAny_append l m,Bool.or_assoc]
theorem op_shape{o:ByteArray}(ho:o=opAnd∨o=opOr){n:Fm}(hn:shapedF n=true)(he:bEq (opOf n) o=true):n= .mk o ⟨#[]⟩ [] [] [] (fkids n):=by
 have he:=bEq_eq he
 refine sf_cases (C:=fun n=>opOf n=o→n= .mk o ⟨#[]⟩ [] [] [] (fkids n)) n hn ?_ ?_ ?_ ?_ ?_ ?_ ?_ he
 ·intro _ _ _ _ e;rcases ho with rfl|rfl<;>cases e
 ·intro _ _ _ e;rcases ho with rfl|rfl<;>cases e
 ·intro op a b hop _ _ e;simp only[opOf]at e;subst e;rcases ho with rfl|rfl<;>rcases hop with h|h|h<;>cases h
 ·intro op kids _ _ e;simp only[opOf]at e;subst e;rfl
 ·intro _ _ e;rcases ho with rfl|rfl<;>cases e
 ·intro _ _ _ _ e;rcases ho with rfl|rfl<;>cases e
 ·intro op _ _ hop _ _ e;simp only[opOf]at e;subst e;rcases ho with rfl|rfl<;>rcases hop with h|h<;>cases h
theorem tr_combAnd{e:B}: ∀ {l:List Fm},(∀ k∈l,shapedF k=true)→truthM I (combM opAnd l) e=truthAll I l e
 |[],_=>rfl
 |k::l,h=>by
  have ih:=tr_combAnd (l:=l) (e:=e) fun q hq=>h q (by simp[hq])
  unfold combM at ih⊢
  rw[tr_and]at ih⊢
  simp only[flatM,List.flatMap_cons]at ih⊢
  rw[truthAll_append,ih]
  simp only[truthAll]
  by_cases he:bEq (opOf k) opAnd=true
  ·rw [if_pos he]
   conv=>rhs;rw[op_shape (.inl rfl) (h k (by simp)) he,tr_and]
  ·rw [if_neg he];simp[truthAll]
theorem tr_combOr{e:B}: ∀ {l:List Fm},(∀ k∈l,shapedF k=true)→truthM I (combM opOr l) e=truthAny I l e
 |[],_=>rfl
 |k::l,h=>by
  have ih:=tr_combOr (l:=l) (e:=e) fun q hq=>h q (by simp[hq])
  unfold combM at ih⊢
  rw[tr_or]at ih⊢
  simp only[flatM,List.flatMap_cons]at ih⊢
  rw[truthAny_append,ih]
  simp only[truthAny]
  by_cases he:bEq (opOf k) opOr=true
  ·rw [if_pos he]
   conv=>rhs;rw[op_shape (.inr rfl) (h k (by simp)) he,tr_or]
  ·rw [if_neg he];simp[truthAny]
theorem tr_allNot{e:B}: ∀ (l:List Fm),(∀ k∈l,truthM I (normalM k false) e=!truthM I k e)→truthAll I (normalMs l false) e=!truthAny I l e∧truthAny I (normalMs l false) e=!truthAll I l e
 |[],_=>⟨rfl,rfl⟩
 |k::l,h=>by
  have h1:=h k (by simp)
  have h2:=tr_allNot l fun q hq=>h q (by simp[hq])
  simp only[normalMs,truthAll,truthAny,h1,h2.1,h2.2,Bool.not_or,Bool.not_and,and_self]
theorem tr_allId{e:B}: ∀ (l:List Fm),(∀ k∈l,truthM I (normalM k true) e=truthM I k e)→truthAll I (normalMs l true) e=truthAll I l e∧truthAny I (normalMs l true) e=truthAny I l e
 |[],_=>⟨rfl,rfl⟩
 |k::l,h=>by
  have h1:=h k (by simp)
  have h2:=tr_allId l fun q hq=>h q (by simp[hq])
  simp only[normalMs,truthAll,truthAny,h1,h2.1,h2.2,and_self]
theorem normalM_truth: ∀ f,shapedF f=true→ ∀ e:B,truthM I (normalM f true) e=truthM I f e∧truthM I (normalM f false) e=!truthM I f e:=by
 refine sf_ind ?_ ?_ ?_ ?_ ?_ ?_ ?_
 ·intro name args _ _ e
  exact⟨rfl,rfl⟩
 ·intro args _ _ e
  exact⟨rfl,rfl⟩
 ·intro op a b ho _ _ e
  have hf: ∀ o,Fm.mk o ⟨#[]⟩ [] [] [a,b] []=cmpM o a b:=fun _=>rfl
  rw[hf]
  rcases ho with rfl|rfl|rfl
  ·refine ⟨rfl,?_⟩
   show truthM I (cmpM opLe b a) e=_
   rw[tr_le,tr_lt]
   by_cases h:I.V a e<I.V b e
   ·rw [decide_eq_true h,decide_eq_false (by omega)];try rfl
   ·rw [decide_eq_false h,decide_eq_true (by omega)];try rfl
  ·refine ⟨rfl,?_⟩
   show truthM I (cmpM opLt b a) e=_
   rw[tr_lt,tr_le]
   by_cases h:I.V a e≤I.V b e
   ·rw [decide_eq_true h,decide_eq_false (by omega)];try rfl
   ·rw [decide_eq_false h,decide_eq_true (by omega)];try rfl
  ·refine ⟨rfl,?_⟩
   show truthM I (.mk opOr ⟨#[]⟩ [] [] [] [cmpM opLt a b,cmpM opLt b a]) e=_
   rw[tr_or,tr_eq]
   simp only[truthAny,tr_lt,Bool.or_false]
   rcases Int.lt_trichotomy (I.V a e) (I.V b e)with h|h|h
   ·rw [decide_eq_true h,decide_eq_false (by omega),decide_eq_false (by omega)];try rfl
   ·rw [decide_eq_false (by omega),decide_eq_false (by omega),decide_eq_true h];try rfl
   ·rw [decide_eq_false (by omega),decide_eq_true h,decide_eq_false (by omega)];try rfl
 ·intro op kids ho hk ih e
  have hl: ∀ s, ∀ k∈normalMs kids s,shapedF k=true:=fun s=>by rw[normalMs_map];intro k h;obtain⟨y,hy,rfl⟩:=List.mem_map.1 h;exact normalM_shaped y (hk y hy) s
  have h1:=tr_allId I kids fun k hk=>(ih k hk e).1
  have h2:=tr_allNot I kids fun k hk=>(ih k hk e).2
  rcases ho with rfl|rfl
  ·simp only[normalM,nt_and,tr_and]
   exact⟨(tr_combAnd I (hl true)).trans h1.1,(tr_combOr I (hl false)).trans h2.2⟩
  ·simp only[normalM,nt_or,tr_or]
   exact⟨(tr_combOr I (hl true)).trans h1.2,(tr_combAnd I (hl false)).trans h2.1⟩
 ·intro k hk ih e
  simp only[normalM,nt_not,normalMs,List.headD_cons,tr_not,Bool.not_true,Bool.not_false,Bool.not_not]
  exact⟨(ih e).2,(ih e).1⟩
 ·intro a b ha hb iha ihb e
  simp only[normalM,nt_imp,normalMs,List.headD_cons,List.drop_succ_cons,List.drop_zero,tr_imp,Bool.not_true,Bool.not_false]
  refine⟨?_,?_⟩
  ·refine (tr_combOr I (by simp[normalM_shaped a ha,normalM_shaped b hb])).trans ?_
   simp[truthAny,(iha e).2,(ihb e).1]
  ·refine (tr_combAnd I (by simp[normalM_shaped a ha,normalM_shaped b hb])).trans ?_
   simp[truthAll,(iha e).1,(ihb e).2]
 ·intro op params k ho hp hk ih e
  have e1:(fun e=>truthM I (normalM k true) e)=fun e=>truthM I k e:=funext fun e=>(ih e).1
  have e2:(fun e=>truthM I (normalM k false) e)=fun e=>!truthM I k e:=funext fun e=>(ih e).2
  rcases ho with rfl|rfl
  ·simp only[normalM,nt_all,normalMs,List.headD_cons]
   refine⟨?_,?_⟩
   ·show truthM I (.mk opAll ⟨#[]⟩ [] params [] [normalM k true]) e=_
    rw[tr_all,tr_all,e1]
   ·show truthM I (.mk opSome ⟨#[]⟩ [] params [] [normalM k false]) e=_
    rw[tr_all,tr_some,e2]
    exact quantT_not I true (fun e=>truthM I k e) params e
  ·simp only[normalM,nt_some,normalMs,List.headD_cons]
   refine⟨?_,?_⟩
   ·show truthM I (.mk opSome ⟨#[]⟩ [] params [] [normalM k true]) e=_
    rw[tr_some,tr_some,e1]
   ·show truthM I (.mk opAll ⟨#[]⟩ [] params [] [normalM k false]) e=_
    rw[tr_all,tr_some,e2]
    exact quantT_not I false (fun e=>truthM I k e) params e
end
end Go.Proofs.Ytjlkapgpjamnkaa
namespace Go.AM
abbrev key(s:ByteArray):List UInt8:=s.data.toList
end Go.AM
namespace Go.Proofs.Ytjlkapgpjamnkaa
open Go.AM
def memB(l:List ByteArray)(s:ByteArray):Bool:=l.any fun x=>bEq x s
end Go.Proofs.Ytjlkapgpjamnkaa
namespace Go.Proofs.Ytjlkapgpjamnkaa
open Go.AM
def replS(to:ByteArray→Option ByteArray)(bound:List ByteArray)(s:ByteArray):ByteArray:=match to s with
 |some t=>if memB bound s=true then s else t
 |none=>s
mutual
def bindEx(to:ByteArray→Option ByteArray)(bound:List ByteArray):Ex→Ex
 | .mk op name n args kids=> .mk op name n (args.map (replS to bound)) (bindExs to bound kids)
def bindExs(to:ByteArray→Option ByteArray)(bound:List ByteArray):List Ex→List Ex
 |[]=>[]
 |k::l=>bindEx to bound k::bindExs to bound l
end
mutual
def bindFm(to:ByteArray→Option ByteArray):Fm→List ByteArray→Fm
 | .mk op name args params exprs kids,bound=> .mk op name (args.map (replS to bound)) params (bindExs to bound exprs) (bindFms to kids (bound++params.map Pm.name))
def bindFms(to:ByteArray→Option ByteArray):List Fm→List ByteArray→List Fm
 |[],_=>[]
 |k::l,bound=>bindFm to k bound::bindFms to l bound
end
theorem bindExs_map(to:ByteArray→Option ByteArray)(bound:List ByteArray): ∀ l,bindExs to bound l=l.map (bindEx to bound)
 |[]=>rfl
 |k::l=>by simp[bindExs,bindExs_map to bound l]
theorem bindFms_map(to:ByteArray→Option ByteArray)(bound:List ByteArray): ∀ l,bindFms to l bound=l.map (bindFm to · bound)
 |[]=>rfl
 |k::l=>by simp[bindFms,bindFms_map to bound l]
theorem repl_none{to:ByteArray→Option ByteArray}(h0: ∀ s,to s=none)(bound:List ByteArray)(s:ByteArray):replS to bound s=s:=by simp[replS,h0]
theorem repls_none{to:ByteArray→Option ByteArray}(h0: ∀ s,to s=none)(bound:List ByteArray): ∀ l:List ByteArray,l.map (replS to bound)=l
 |[]=>rfl
 |s::l=>by simp[repl_none h0,repls_none h0 bound l]
mutual
theorem bindEx_none{to:ByteArray→Option ByteArray}(h0: ∀ s,to s=none)(bound:List ByteArray): ∀ e:Ex,bindEx to bound e=e
 | .mk _ _ _ args kids=>by simp only[bindEx,repls_none h0,bindExs_none h0 bound kids]
theorem bindExs_none{to:ByteArray→Option ByteArray}(h0: ∀ s,to s=none)(bound:List ByteArray): ∀ l:List Ex,bindExs to bound l=l
 |[]=>rfl
 |k::l=>by simp only[bindExs,bindEx_none h0 bound k,bindExs_none h0 bound l]
end
mutual
theorem bindFm_none{to:ByteArray→Option ByteArray}(h0: ∀ s,to s=none): ∀ (f:Fm)(bound:List ByteArray),bindFm to f bound=f
 | .mk _ _ args params exprs kids,bound=>by simp only[bindFm,repls_none h0,bindExs_none h0,bindFms_none h0 kids]
theorem bindFms_none{to:ByteArray→Option ByteArray}(h0: ∀ s,to s=none): ∀ (l:List Fm)(bound:List ByteArray),bindFms to l bound=l
 |[],_=>rfl
 |k::l,bound=>by simp only[bindFms,bindFm_none h0 k bound,bindFms_none h0 l bound]
end
end Go.Proofs.Ytjlkapgpjamnkaa
namespace Go.Proofs.Ytjlkapgpjamnkaa
open Go.AM
set_option maxHeartbeats 8000000
set_option maxRecDepth 20000
theorem shapedE_kid{op name:ByteArray}{v:Int}{args:List ByteArray}{kids:List Ex}(h:shapedE (.mk op name v args kids)=true): ∀ k∈kids,shapedE k=true:=by
 unfold shapedE at h
 intro k hk
 split at h
 ·simp only[Bool.and_eq_true,List.isEmpty_iff]at h
  rw[h.1.2]at hk;simp at hk
 ·split at h
  ·simp only[Bool.and_eq_true,List.isEmpty_iff]at h
   rw[h.1.1.2]at hk;simp at hk
  ·split at h
   ·simp only[Bool.and_eq_true]at h
    obtain⟨_,h⟩:=h
    split at h
    ·simp only[Bool.and_eq_true]at h
     simp only[List.mem_cons,List.not_mem_nil,or_false]at hk
     rcases hk with rfl|rfl
     ·exact h.1
     ·exact h.2
    ·simp at h
   ·simp at h
end Go.Proofs.Ytjlkapgpjamnkaa
namespace Go.Proofs.Ytjlkapgpjamnkaa
open Go.AM
theorem nodess_append: ∀ l m:List Sx,Sx.nodess (l++m)=Sx.nodess l+Sx.nodess m
 |[],m=>by simp[Sx.nodess]
 |k::l,m=>by simp only[List.cons_append,Sx.nodess,nodess_append l m];omega
theorem list_nodes(l:List Sx):(listM l).nodes=Sx.nodess l+1:=by simp only[listM,Sx.nodes]
theorem word_nodes(s:ByteArray):(wordM s).nodes=1:=by simp[wordM,Sx.nodes,Sx.nodess]
theorem formed_of: ∀ (e:Ex),shapedE e=true→ ∀ (d n:Nat),d+(exW e).depth≤32→n+(exW e).nodes≤4096→(formedM e d n).1=true∧(formedM e d n).2≤n+(exW e).nodes:=by
 refine Ex.ind ?_
 intro op name v args kids ih hs d n hd hn
 unfold shapedE at hs
 unfold exW at hd hn⊢
 unfold formedM
 cases c1:bEq op opNum with
 |true=>
  rw[c1]at hs hd hn
  simp only[if_true]at hs hd hn⊢
  simp only[Sx.nodes,Sx.nodess]at hn⊢
  rw[if_pos ⟨by omega,by omega⟩]
  exact⟨hs,by simp only;omega⟩
 |false=>
  rw[c1]at hs hd hn
  simp only[Bool.false_eq_true,if_false]at hs hd hn⊢
  cases c2:bEq op opFlu with
  |true=>
   rw[c2]at hs hd hn
   simp only[if_true]at hs hd hn⊢
   simp only[wordsM,listM,Sx.nodes]at hn⊢
   rw[if_pos ⟨by omega,by omega⟩]
   exact⟨hs,by simp only;omega⟩
  |false=>
   rw[c2]at hs hd hn
   simp only[Bool.false_eq_true,if_false]at hs hd hn⊢
   split at hs
   case isFalse=>simp at hs
   rename_i hop
   rw[if_pos hop]
   rw[Bool.and_eq_true]at hs
   obtain⟨h1,h2⟩:=hs
   rw[h1]
   simp only[if_true]
   split at h2
   case h_2=>simp at h2
   rename_i a b
   simp only[Bool.and_eq_true]at h2
   simp only[listM,Sx.depth,Sx.depths,Sx.nodes,Sx.nodess,wordM,if_true]at hd hn⊢
   have k1:¬ ((1:Int)=3):=by omega
   rw[if_neg k1]at hd
   rw[if_pos ⟨by omega,by omega⟩]
   obtain⟨f1,f2⟩:=ih a (by simp) h2.1 (d+1) (n+1) (by omega) (by omega)
   cases hw:formedM a (d+1) (n+1)with
   |mk x c=>
    rw[hw]at f1 f2
    simp only at f1 f2
    subst f1
    simp only
    obtain⟨g1,g2⟩:=ih b (by simp) h2.2 (d+1) c (by omega) (by omega)
    exact⟨g1,by omega⟩
end Go.Proofs.Ytjlkapgpjamnkaa
namespace Go.AM
mutual
def Fm.small:Fm→Prop
 | .mk _ _ args params exprs kids=>args.length≤1048576∧params.length≤1048576∧Ex.smalls exprs∧kids.length≤1048576∧Fm.smalls kids
def Fm.smalls:List Fm→Prop
 |[]=>True
 |k::ks=>k.small∧Fm.smalls ks
end
theorem Fm.smalls_iff:{l:List Fm}→(Fm.smalls l↔ ∀ k∈l,k.small)
 |[]=>by simp[Fm.smalls]
 |k::ks=>by simp[Fm.smalls,Fm.smalls_iff (l:=ks)]
end Go.AM
namespace Go.Proofs.Ytjlkapgpjamnkaa
open Go.AM
set_option maxHeartbeats 4000000
set_option maxRecDepth 20000
structure WrI(h:Heap)(L:List Sx)(h':Heap):Prop where
 grow:Grow h h'
 ex: ∃ p H,h.next+1<h'.next∧h'.obj h.next=some (.arr 6 [[.sc (.int .i64 0),.sc (.int .i64 0),.sc (.int .i64 0),.sc (.int .i64 0),.sc (.string ⟨#[]⟩),.sc (.slice none 0 0)]])∧
  h'.obj (h.next+1)=some (.arr 6 [[.sc (.int .i64 3),.sc (.int .i64 0),.sc (.int .i64 0),.sc (.int .i64 0),.sc (.string ⟨#[]⟩),p]])∧Tl h' (h.next+2) 6 p (Sx.rows L)∧
  isTail h' p=some (H,Sx.rows L)∧zOk h' 6 p=true∧H.next=h'.next∧(∀ j,j<h.next+2→H.obj j=h'.obj j)∧Grow h H∧p.cells=[p]∧oneC p=true
theorem WrI.mk2{h h':Heap}{L:List Sx}{p:PV}(g:Grow h h')(hn:h.next+1<h'.next)(o1:h'.obj h.next=some (.arr 6 [[.sc (.int .i64 0),.sc (.int .i64 0),.sc (.int .i64 0),.sc (.int .i64 0),.sc (.string ⟨#[]⟩),.sc (.slice none 0 0)]]))(o2:h'.obj (h.next+1)=some (.arr 6 [[.sc (.int .i64 3),.sc (.int .i64 0),.sc (.int .i64 0),.sc (.int .i64 0),.sc (.string ⟨#[]⟩),p]]))(tl:Tl h' (h.next+2) 6 p (Sx.rows L)):WrI h L h':=by
 obtain⟨H,t1,t2,t3,t4,t5⟩:=tl.tail
 have hk:=t5 h ⟨g.le,g.old⟩ (by omega)
 refine⟨g,p,H,hn,o1,o2,tl,t1,t2,t3,t4,⟨hk.1,hk.2⟩,?_,?_⟩
 ·rcases tl with⟨_,rfl|rfl⟩|⟨_,_,_,rfl,_⟩<;>rfl
 ·rcases tl with⟨_,rfl|rfl⟩|⟨_,_,_,rfl,_⟩<;>rfl
theorem Tl.low{h:Heap}{a b z:Nat}{p:PV}{rows:List (List PV)}(t:Tl h a z p rows)(hab:b≤a):Tl h b z p rows:=by
 rcases t with ht|⟨id,h1,h2⟩
 ·exact .inl ht
 ·exact .inr ⟨id,by omega,h2⟩
theorem WrI.push{h h' H:Heap}{L:List Sx}{X:Sx}{m:Nat}(hn:h.next+1<h'.next)(o1:h'.obj h.next=some (.arr 6 [[.sc (.int .i64 0),.sc (.int .i64 0),.sc (.int .i64 0),.sc (.int .i64 0),.sc (.string ⟨#[]⟩),.sc (.slice none 0 0)]]))(t3:H.next=h'.next)(t4: ∀ j,j<h.next+2→H.obj j=h'.obj j)(g:Grow h H)(hm:m=L.length+1):
  WrI h (L++[X]) ((H.new (.arr 6 (Sx.rows L++[X.cells]))).set (h.next+1) (.arr 6 [[.sc (.int .i64 3),.sc (.int .i64 0),.sc (.int .i64 0),.sc (.int .i64 0),.sc (.string ⟨#[]⟩),.own h'.next 0 m]])):=by
 have e1:Sx.rows (L++[X])=Sx.rows L++[X.cells]:=by simp[Sx.rows_map]
 have n1:¬ h.next=h.next+1:=by omega
 have n2:¬ h.next=H.next:=by omega
 refine WrI.mk2 (p:= .own h'.next 0 m) ((g.new _).set (by omega) _) (by simp only[Heap.set,Heap.new];omega) ?_ ?_ ?_
 rotate_left
 ·simp only[Heap.set,if_true]
 ·rw [e1, ← t3]
  have:Tl (H.new (.arr 6 (Sx.rows L++[X.cells]))) (h.next+2) 6 (.own H.next 0 m) (Sx.rows L++[X.cells]):=Tl.grow (by omega) (by rw[hm];simp[Sx.rows_len])
  exact this.up (Nat.le_refl _) (fun j hj _=>by simp only[Heap.set];rw[if_neg (by omega)])
 ·simp only[Heap.set,Heap.new,n1,n2,if_false]
  rw[t4 _ (by omega)];exact o1
theorem a_heap{P:Program}{ow:Nat→Bool}{wf:FuncId→Bool}{n:Nat}{Q:Post}{s:Slots}{h0:Heap}{c:Code}(I:Heap→Prop)(hi:I h0)(hh: ∀ h',I h'→awp P ow wf n c Q s h'):awp P ow wf n c Q s h0:=hh _ hi
theorem write_c: ∀ f:Fm,f.small→shapedF f=true→ ∀ h:Heap,PCall Try.prog 65 [.agg f.cells] h fun r h'=>r= .agg (fmW f).cells∧h'=h:=by
 refine Fm.ind ?_
 intro op name args params exprs kids ih hsm hsh h
 simp only[Fm.small]at hsm
 obtain⟨hal,hpl,hes,hkl,hks⟩:=hsm
 rw[Ex.smalls_iff]at hes
 rw[Fm.smalls_iff]at hks
 simp only[shapedF,Bool.and_eq_true]at hsh
 obtain⟨⟨hpo,hse⟩,hsk⟩:=hsh
 rw[shapedFs_iff]at hsk
 rw[List.all_eq_true]at hse
 have hlK:=Fm.rows_len kids
 unfold fmW
 refine PCall.frz Ty.hb_65 ?_
 cases k1:(op.data.toList==(#[97,116,111,109]:Array UInt8).toList)with
 |true=>
  rw[if_pos (show bEq op opAtom=true from k1)]
  have hw: ∀ h:Heap,PCall Try.prog 109 [sPV name,.imm 1 (strRows args)] h fun r h'=>r= .agg (wordsM name args).cells∧h'=h:=fun h=>words_c hal
  have hfz:=fun(n:Nat)(h:Heap)=>sx_frz n h (wordsM name args)
  simp only[Fm.cells]
  generalize wordsM name args=X at hw hfz⊢
  obtain⟨ki,va,li,co,te,ks⟩:=X
  simp only[Sx.cells]at hw hfz⊢
  refine pcall_body (ow:=fun _=>false) (wf:=fun _=>false) Ty.mixed Try.func65 rfl Ty.hb_65 (by rw[Try.ntmps65];simp) ?_
  rw[Try.ntmps65,Try.results65]
  repeat'(first|refine a_seq fun K hK=>?_|(refine a_regionS ?_;simp(maxSteps:=2000000) only[Ty.w,simprocAttr,k1])|(refine hK _ _ ?_;clear hK;try simp only[pst0,simprocAttr]))
  refine owp_useQ (hw _) (by(try simp only[Ty.w,simprocAttr,k1]);try rfl) ?_;simp(maxSteps:=2000000) only[Ty.w,simprocAttr,k1]
  repeat'(first|(refine a_ret ?_;simp(maxSteps:=2000000) only[Ty.w,simprocAttr])|(refine hK _ _ ?_;clear hK;try simp only[pst0,simprocAttr]))
  refine⟨?_,((Grow.refl h).new _).set (Nat.le_refl _) _⟩
  simp only[FrzTo]
  exact⟨_,rfl,hfz _ _⟩
 |false=>
  cases k2:(op.data.toList==(#[115,97,109,101]:Array UInt8).toList)with
  |true=>
   rw[if_neg (by rw[(show bEq op opAtom=false from k1)];simp)]
   rw[if_pos (show bEq op opSame=true from k2)]
   have hw: ∀ h:Heap,PCall Try.prog 109 [sPV ⟨#[61]⟩,.imm 1 (strRows args)] h fun r h'=>r= .agg (wordsM opEq args).cells∧h'=h:=fun h=>words_c hal
   have hfz:=fun(n:Nat)(h:Heap)=>sx_frz n h (wordsM opEq args)
   simp only[Fm.cells]
   generalize wordsM opEq args=X at hw hfz⊢
   obtain⟨ki,va,li,co,te,ks⟩:=X
   simp only[Sx.cells]at hw hfz⊢
   refine pcall_body (ow:=fun _=>false) (wf:=fun _=>false) Ty.mixed Try.func65 rfl Ty.hb_65 (by rw[Try.ntmps65];simp) ?_
   rw[Try.ntmps65,Try.results65]
   repeat'(first|refine a_seq fun K hK=>?_|(refine a_regionS ?_;simp(maxSteps:=2000000) only[Ty.w,simprocAttr,k1,k2])|(refine hK _ _ ?_;clear hK;try simp only[pst0,simprocAttr]))
   refine owp_useQ (hw _) (by(try simp only[Ty.w,simprocAttr,k1,k2]);try rfl) ?_;simp(maxSteps:=2000000) only[Ty.w,simprocAttr,k1,k2]
   repeat'(first|(refine a_ret ?_;simp(maxSteps:=2000000) only[Ty.w,simprocAttr])|(refine hK _ _ ?_;clear hK;try simp only[pst0,simprocAttr]))
   refine⟨?_,((Grow.refl h).new _).set (Nat.le_refl _) _⟩
   simp only[FrzTo]
   exact⟨_,rfl,hfz _ _⟩
  |false=>
   rw[if_neg (by rw[(show bEq op opAtom=false from k1)];simp),if_neg (by rw[(show bEq op opSame=false from k2)];simp)]
   cases k3:(op.data.toList==(#[60]:Array UInt8).toList)with
   |true=>
    rw[if_pos (by simp[isCmp,(show bEq op opAtom=false from k1),(show bEq op opSame=false from k2),(show bEq op opLt=true from k3)])]
    have hx2:exprs.length=2:=by have q:=hpo;simp[partsOk,shapeOf,(show bEq op opAtom=false from k1),(show bEq op opSame=false from k2),(show bEq op opLt=true from k3)]at q;omega
    obtain⟨a,b,rfl⟩: ∃ a b,exprs=[a,b]:=by
     match exprs,hx2 with
     |[a,b],_=>exact⟨a,b,rfl⟩
    have ca:=writeE_c a (hes a (by simp)) (hse a (by simp))
    have cb:=writeE_c b (hes b (by simp)) (hse b (by simp))
    have hw:=fun h:Heap=>word_c (h:=h) (s:=op)
    simp only[List.map_cons,List.map_nil]
    have hfz:=fun(n:Nat)(h:Heap)=>sx_frz n h (listM [wordM op,exW a,exW b])
    have hl:=fun h:Heap=>list_c (h:=h) (p:= .imm 6 (Sx.rows [wordM op,exW a,exW b])) rfl (fun _=>frz_imm (sxs_in _ _))
    generalize exW a=xa at ca hfz hl⊢
    generalize exW b=xb at cb hfz hl⊢
    clear ih hks hpo hse hsk hes
    obtain⟨aop,aname,an,aargs,akids⟩:=a
    obtain⟨bop,bname,bn,bargs,bkids⟩:=b
    obtain⟨ki,va,li,co,te,ks⟩:=xa
    obtain⟨ki2,va2,li2,co2,te2,ks2⟩:=xb
    simp only[Fm.cells,Ex.cells,Ex.rows,listM,Sx.cells,Sx.rows,wordM]at ca cb hw hfz hl⊢
    refine pcall_body (ow:=fun _=>false) (wf:=fun _=>false) Ty.mixed Try.func65 rfl Ty.hb_65 (by rw[Try.ntmps65];simp) ?_
    rw[Try.ntmps65,Try.results65]
    repeat'(first|refine a_seq fun K hK=>?_|((first|refine a_regionS ?_|refine a_drawS (by decide+kernel) ?_);simp(maxSteps:=2000000) only[Ty.w,simprocAttr,k1,k2,k3])|(refine a_skip ?_;try simp only[pst0,simprocAttr])|(refine a_cond _ (by(try simp(maxSteps:=2000000) only[Ty.w,simprocAttr,k1,k2,k3]);rfl) (fun hb=>?_) (fun hb=>?_)<;>(try simp only[hb0,decide_eq_true_eq,decide_eq_false_iff_not,simprocAttr]at hb)<;>(try(exfalso;omega)))|(refine hK _ _ ?_;clear hK;try simp only[pst0,simprocAttr]))
    (first|refine a_dcall0 (hw _) (by(try simp only[Ty.w,simprocAttr,]);try rfl) ?_|refine a_dcallA (hw _) (by(try simp only[Ty.w,simprocAttr,]);try rfl) (by simp only[Ty.w,simprocAttr,];try trivial) ?_);simp(maxSteps:=2000000) only[Ty.w,simprocAttr,Option.getD_some,]
    skip
    (first|refine a_dcall0 (ca _) (by(try simp only[Ty.w,simprocAttr,]);try rfl) ?_|refine a_dcallA (ca _) (by(try simp only[Ty.w,simprocAttr,]);try rfl) (by simp only[Ty.w,simprocAttr,];try trivial) ?_);simp(maxSteps:=2000000) only[Ty.w,simprocAttr,Option.getD_some,]
    skip
    (first|refine a_dcall0 (cb _) (by(try simp only[Ty.w,simprocAttr,]);try rfl) ?_|refine a_dcallA (cb _) (by(try simp only[Ty.w,simprocAttr,]);try rfl) (by simp only[Ty.w,simprocAttr,];try trivial) ?_);simp(maxSteps:=2000000) only[Ty.w,simprocAttr,Option.getD_some,]
    skip
    (first|refine a_dcall0 (hl _) (by(try simp only[Ty.w,simprocAttr,]);try rfl) ?_|refine a_dcallA (hl _) (by(try simp only[Ty.w,simprocAttr,]);try rfl) (by simp only[Ty.w,simprocAttr,];try trivial) ?_);simp(maxSteps:=2000000) only[Ty.w,simprocAttr,Option.getD_some,]
    repeat'(first|(refine a_ret ?_;simp(maxSteps:=2000000) only[Ty.w,simprocAttr])|(refine hK _ _ ?_;clear hK;try simp only[pst0,simprocAttr])|(with_reducible refine a_past2 (by simp only[List.forall_mem_cons,Ty.w,simprocAttr]<;>(repeat' apply And.intro)<;>first|trivial|exact .inl (by decide+kernel)) ?_;try simp(maxSteps:=2000000) only[Ty.w,simprocAttr]))
    refine⟨?_,((Grow.refl h).new _).set (Nat.le_refl _) _⟩
    simp only[FrzTo]
    exact⟨_,rfl,hfz _ _⟩
   |false=>
    cases k4:(op.data.toList==(#[60,61]:Array UInt8).toList)with
    |true=>
     rw[if_pos (by simp[isCmp,(show bEq op opAtom=false from k1),(show bEq op opSame=false from k2),(show bEq op opLt=false from k3),(show bEq op opLe=true from k4)])]
     have hx2:exprs.length=2:=by have q:=hpo;simp[partsOk,shapeOf,(show bEq op opAtom=false from k1),(show bEq op opSame=false from k2),(show bEq op opLt=false from k3),(show bEq op opLe=true from k4)]at q;omega
     obtain⟨a,b,rfl⟩: ∃ a b,exprs=[a,b]:=by
      match exprs,hx2 with
      |[a,b],_=>exact⟨a,b,rfl⟩
     have ca:=writeE_c a (hes a (by simp)) (hse a (by simp))
     have cb:=writeE_c b (hes b (by simp)) (hse b (by simp))
     have hw:=fun h:Heap=>word_c (h:=h) (s:=op)
     simp only[List.map_cons,List.map_nil]
     have hfz:=fun(n:Nat)(h:Heap)=>sx_frz n h (listM [wordM op,exW a,exW b])
     have hl:=fun h:Heap=>list_c (h:=h) (p:= .imm 6 (Sx.rows [wordM op,exW a,exW b])) rfl (fun _=>frz_imm (sxs_in _ _))
     generalize exW a=xa at ca hfz hl⊢
     generalize exW b=xb at cb hfz hl⊢
     clear ih hks hpo hse hsk hes
     obtain⟨aop,aname,an,aargs,akids⟩:=a
     obtain⟨bop,bname,bn,bargs,bkids⟩:=b
     obtain⟨ki,va,li,co,te,ks⟩:=xa
     obtain⟨ki2,va2,li2,co2,te2,ks2⟩:=xb
     simp only[Fm.cells,Ex.cells,Ex.rows,listM,Sx.cells,Sx.rows,wordM]at ca cb hw hfz hl⊢
     refine pcall_body (ow:=fun _=>false) (wf:=fun _=>false) Ty.mixed Try.func65 rfl Ty.hb_65 (by rw[Try.ntmps65];simp) ?_
     rw[Try.ntmps65,Try.results65]
     repeat'(first|refine a_seq fun K hK=>?_|((first|refine a_regionS ?_|refine a_drawS (by decide+kernel) ?_);simp(maxSteps:=2000000) only[Ty.w,simprocAttr,k1,k2,k3,k4])|(refine a_skip ?_;try simp only[pst0,simprocAttr])|(refine a_cond _ (by(try simp(maxSteps:=2000000) only[Ty.w,simprocAttr,k1,k2,k3,k4]);rfl) (fun hb=>?_) (fun hb=>?_)<;>(try simp only[hb0,decide_eq_true_eq,decide_eq_false_iff_not,simprocAttr]at hb)<;>(try(exfalso;omega)))|(refine hK _ _ ?_;clear hK;try simp only[pst0,simprocAttr]))
     (first|refine a_dcall0 (hw _) (by(try simp only[Ty.w,simprocAttr,]);try rfl) ?_|refine a_dcallA (hw _) (by(try simp only[Ty.w,simprocAttr,]);try rfl) (by simp only[Ty.w,simprocAttr,];try trivial) ?_);simp(maxSteps:=2000000) only[Ty.w,simprocAttr,Option.getD_some,]
     skip
     (first|refine a_dcall0 (ca _) (by(try simp only[Ty.w,simprocAttr,]);try rfl) ?_|refine a_dcallA (ca _) (by(try simp only[Ty.w,simprocAttr,]);try rfl) (by simp only[Ty.w,simprocAttr,];try trivial) ?_);simp(maxSteps:=2000000) only[Ty.w,simprocAttr,Option.getD_some,]
     skip
     (first|refine a_dcall0 (cb _) (by(try simp only[Ty.w,simprocAttr,]);try rfl) ?_|refine a_dcallA (cb _) (by(try simp only[Ty.w,simprocAttr,]);try rfl) (by simp only[Ty.w,simprocAttr,];try trivial) ?_);simp(maxSteps:=2000000) only[Ty.w,simprocAttr,Option.getD_some,]
     skip
     (first|refine a_dcall0 (hl _) (by(try simp only[Ty.w,simprocAttr,]);try rfl) ?_|refine a_dcallA (hl _) (by(try simp only[Ty.w,simprocAttr,]);try rfl) (by simp only[Ty.w,simprocAttr,];try trivial) ?_);simp(maxSteps:=2000000) only[Ty.w,simprocAttr,Option.getD_some,]
     repeat'(first|(refine a_ret ?_;simp(maxSteps:=2000000) only[Ty.w,simprocAttr])|(refine hK _ _ ?_;clear hK;try simp only[pst0,simprocAttr])|(with_reducible refine a_past2 (by simp only[List.forall_mem_cons,Ty.w,simprocAttr]<;>(repeat' apply And.intro)<;>first|trivial|exact .inl (by decide+kernel)) ?_;try simp(maxSteps:=2000000) only[Ty.w,simprocAttr]))
     refine⟨?_,((Grow.refl h).new _).set (Nat.le_refl _) _⟩
     simp only[FrzTo]
     exact⟨_,rfl,hfz _ _⟩
    |false=>
     cases k5:(op.data.toList==(#[61]:Array UInt8).toList)with
     |true=>
      rw[if_pos (by simp[isCmp,(show bEq op opAtom=false from k1),(show bEq op opSame=false from k2),(show bEq op opLt=false from k3),(show bEq op opLe=false from k4),(show bEq op opEq=true from k5)])]
      have hx2:exprs.length=2:=by have q:=hpo;simp[partsOk,shapeOf,(show bEq op opAtom=false from k1),(show bEq op opSame=false from k2),(show bEq op opLt=false from k3),(show bEq op opLe=false from k4),(show bEq op opEq=true from k5)]at q;omega
      obtain⟨a,b,rfl⟩: ∃ a b,exprs=[a,b]:=by
       match exprs,hx2 with
       |[a,b],_=>exact⟨a,b,rfl⟩
      have ca:=writeE_c a (hes a (by simp)) (hse a (by simp))
      have cb:=writeE_c b (hes b (by simp)) (hse b (by simp))
      have hw:=fun h:Heap=>word_c (h:=h) (s:=op)
      simp only[List.map_cons,List.map_nil]
      have hfz:=fun(n:Nat)(h:Heap)=>sx_frz n h (listM [wordM op,exW a,exW b])
      have hl:=fun h:Heap=>list_c (h:=h) (p:= .imm 6 (Sx.rows [wordM op,exW a,exW b])) rfl (fun _=>frz_imm (sxs_in _ _))
      generalize exW a=xa at ca hfz hl⊢
      generalize exW b=xb at cb hfz hl⊢
      clear ih hks hpo hse hsk hes
      obtain⟨aop,aname,an,aargs,akids⟩:=a
      obtain⟨bop,bname,bn,bargs,bkids⟩:=b
      obtain⟨ki,va,li,co,te,ks⟩:=xa
      obtain⟨ki2,va2,li2,co2,te2,ks2⟩:=xb
      simp only[Fm.cells,Ex.cells,Ex.rows,listM,Sx.cells,Sx.rows,wordM]at ca cb hw hfz hl⊢
      refine pcall_body (ow:=fun _=>false) (wf:=fun _=>false) Ty.mixed Try.func65 rfl Ty.hb_65 (by rw[Try.ntmps65];simp) ?_
      rw[Try.ntmps65,Try.results65]
      repeat'(first|refine a_seq fun K hK=>?_|((first|refine a_regionS ?_|refine a_drawS (by decide+kernel) ?_);simp(maxSteps:=2000000) only[Ty.w,simprocAttr,k1,k2,k3,k4,k5])|(refine a_cond _ (by(try simp(maxSteps:=2000000) only[Ty.w,simprocAttr,k1,k2,k3,k4,k5]);rfl) (fun hb=>?_) (fun hb=>?_)<;>(try simp only[hb0,decide_eq_true_eq,decide_eq_false_iff_not,simprocAttr]at hb)<;>(try(exfalso;omega)))|(refine hK _ _ ?_;clear hK;try simp only[pst0,simprocAttr]))
      (first|refine a_dcall0 (hw _) (by(try simp only[Ty.w,simprocAttr,]);try rfl) ?_|refine a_dcallA (hw _) (by(try simp only[Ty.w,simprocAttr,]);try rfl) (by simp only[Ty.w,simprocAttr,];try trivial) ?_);simp(maxSteps:=2000000) only[Ty.w,simprocAttr,Option.getD_some,]
      skip
      (first|refine a_dcall0 (ca _) (by(try simp only[Ty.w,simprocAttr,]);try rfl) ?_|refine a_dcallA (ca _) (by(try simp only[Ty.w,simprocAttr,]);try rfl) (by simp only[Ty.w,simprocAttr,];try trivial) ?_);simp(maxSteps:=2000000) only[Ty.w,simprocAttr,Option.getD_some,]
      skip
      (first|refine a_dcall0 (cb _) (by(try simp only[Ty.w,simprocAttr,]);try rfl) ?_|refine a_dcallA (cb _) (by(try simp only[Ty.w,simprocAttr,]);try rfl) (by simp only[Ty.w,simprocAttr,];try trivial) ?_);simp(maxSteps:=2000000) only[Ty.w,simprocAttr,Option.getD_some,]
      skip
      (first|refine a_dcall0 (hl _) (by(try simp only[Ty.w,simprocAttr,]);try rfl) ?_|refine a_dcallA (hl _) (by(try simp only[Ty.w,simprocAttr,]);try rfl) (by simp only[Ty.w,simprocAttr,];try trivial) ?_);simp(maxSteps:=2000000) only[Ty.w,simprocAttr,Option.getD_some,]
      repeat'(first|(refine a_ret ?_;simp(maxSteps:=2000000) only[Ty.w,simprocAttr])|(refine hK _ _ ?_;clear hK;try simp only[pst0,simprocAttr])|(with_reducible refine a_past2 (by simp only[List.forall_mem_cons,Ty.w,simprocAttr]<;>(repeat' apply And.intro)<;>first|trivial|exact .inl (by decide+kernel)) ?_;try simp(maxSteps:=2000000) only[Ty.w,simprocAttr]))
      refine⟨?_,((Grow.refl h).new _).set (Nat.le_refl _) _⟩
      simp only[FrzTo]
      exact⟨_,rfl,hfz _ _⟩
     |false=>
      rw[if_neg (by simp[isCmp,(show bEq op opLt=false from k3),(show bEq op opLe=false from k4),(show bEq op opEq=false from k5)])]
      clear hse hes hpo
      simp only[Fm.cells]
      refine pcall_body (ow:=fun _=>false) (wf:=fun _=>false) Ty.mixed Try.func65 rfl Ty.hb_65 (by rw[Try.ntmps65];simp) ?_
      rw[Try.ntmps65,Try.results65]
      repeat'(first|refine a_seq fun K hK=>?_|(refine a_block ?_)|(refine a_regionS ?_;simp(maxSteps:=2000000) only[Ty.w,simprocAttr,k1,k2,k3,k4,k5])|(refine a_skip ?_;try simp only[pst0,simprocAttr])|(refine a_cond _ (by(try simp(maxSteps:=2000000) only[Ty.w,simprocAttr,k1,k2,k3,k4,k5]);rfl) (fun hb=>?_) (fun hb=>?_)<;>(try simp only[hb0,decide_eq_true_eq,decide_eq_false_iff_not,simprocAttr]at hb)<;>(try(exfalso;omega)))|(refine hK _ _ ?_;clear hK;try simp only[pst0,simprocAttr]))
      refine owp_useQ (list_c (p:= .sc (.slice none 0 0)) rfl (fun _=>by simp only[FrzTo])) (by(try simp only[Ty.w,simprocAttr,k1]);try rfl) ?_;simp(maxSteps:=2000000) only[Ty.w,simprocAttr,k1]
      repeat'(first|(with_reducible refine a_hold 11 ?_)|(refine hK _ _ ?_;clear hK;try simp only[pst0,simprocAttr]))
      refine⟨?_⟩
      refine a_heap (WrI h []) ?_ (fun H0 hI=>?_)
      ·refine WrI.mk2 (p:= .sc (.slice none 0 0)) ((((Grow.refl h).new _).new _).set (by omega) _) (by simp[Heap.new,Heap.set]) (by simp[Heap.new,Heap.set]) (by simp[Heap.new,Heap.set]) Tl.nil
      refine a_cut (fun S h'=>S 1= .cptr (Fm.mk op name args params exprs kids).cells∧S 2= .ptr h.next 0 0∧S 3= .ptr (h.next+1) 0 0∧WrI h (if(bEq op opAnd&&kids.isEmpty)=true then[]else[wordM op]) h') ?_ ?_
      ·have n6:bEq op opAnd=(op.data.toList==(#[97,110,100]:Array UInt8).toList):=rfl
       cases k6:(op.data.toList==(#[97,110,100]:Array UInt8).toList)with
       |false=>
        rw[if_neg (by rw[n6,k6];simp)]
        obtain⟨hg,p,H,hn,o1,o2,tl,t1,t2,t3,t4,hgH,hpc,hp1⟩:=hI
        have hw: ∀ (s:ByteArray)(h:Heap),PCall Try.prog 111 [sPV s] h fun r h'=>r= .agg (wordM s).cells∧h'=h:=fun s h=>word_c
        simp only[wordM,Sx.cells,Sx.rows]at hw
        have o2H:H.obj (h.next+1)=_:=(t4 _ (by omega)).trans o2
        have n2:(h.next+1=H.next)=False:=by simp;omega
        have hpr:(Sx.rows ([]:List Sx)).length=0:=rfl
        have hpush:=fun X:Sx=>WrI.push (L:=[]) (X:=X) (m:=1) hn o1 t3 t4 hgH rfl
        generalize Sx.rows []=R at t1 hpr hpush
        have W:=And.intro k6 (And.intro o2 (And.intro o2H (And.intro n2 (And.intro t1 (And.intro t2 (And.intro hpr (And.intro hpc hp1)))))))
        repeat'(first|refine a_seq fun K hK=>?_|((first|refine a_regionS ?_|refine a_drawS (by decide+kernel) ?_);simp(maxSteps:=2000000) only[Ty.w,simprocAttr,W,Bool.not_false])|(refine a_cond _ (by(try simp(maxSteps:=2000000) only[Ty.w,simprocAttr,W,Bool.not_false]);rfl) (fun hb=>?_) (fun hb=>?_)<;>(try simp only[hb0,decide_eq_true_eq,decide_eq_false_iff_not,simprocAttr]at hb)<;>(try(exfalso;omega)))|(refine hK _ _ ?_;clear hK;try simp only[pst0,simprocAttr]))
        (first|refine a_dcall0 (hw op _) (by(try simp only[Ty.w,simprocAttr,W,Bool.not_false]);try rfl) ?_|refine a_dcallA (hw op _) (by(try simp only[Ty.w,simprocAttr,W,Bool.not_false]);try rfl) (by simp only[Ty.w,simprocAttr,W,Bool.not_false];try trivial) ?_);simp(maxSteps:=2000000) only[Ty.w,simprocAttr,W,Option.getD_some,Bool.not_false]
        repeat'(first|(with_reducible refine a_past2 (by simp only[List.forall_mem_cons,Ty.w,simprocAttr,k6,Bool.not_false,o2,o2H,n2,t1,t2,hpr,hpc,hp1]<;>(repeat' apply And.intro)<;>first|trivial|exact .inl (by decide+kernel)) ?_;try simp(maxSteps:=2000000) only[Ty.w,simprocAttr,W,Bool.not_false])|(rw[if_pos];rotate_left 1;omega;simp(maxSteps:=2000000) only[Ty.w,simprocAttr,W,Bool.not_false]))
        (simp(maxSteps:=2000000) only[Ty.w,simprocAttr,Ty.all,Fm.cells])
        exact hpush (wordM op)
       |true=>
        cases q6:decide ((kids.length:Int)>0)with
        |false=>
         have hk0:kids.isEmpty=true:=by cases kids with|nil=>rfl|cons a l=>simp at q6
         rw[if_pos (by rw[n6,k6,hk0];try rfl)]
         repeat'(first|refine a_seq fun K hK=>?_|(refine a_regionS ?_;simp(maxSteps:=2000000) only[Ty.w,simprocAttr,k6,q6,hlK,Bool.not_true])|(refine a_skip ?_;try simp only[pst0,simprocAttr])|(refine a_cond _ (by(try simp(maxSteps:=2000000) only[Ty.w,simprocAttr,k6,q6,hlK,Bool.not_true]);rfl) (fun hb=>?_) (fun hb=>?_)<;>(try simp only[hb0,decide_eq_true_eq,decide_eq_false_iff_not,simprocAttr]at hb)<;>(try(exfalso;omega)))|(refine hK _ _ ?_;clear hK;try simp only[pst0,simprocAttr]))
         (simp(maxSteps:=2000000) only[Ty.w,simprocAttr,Ty.all,Fm.cells])
         exact hI
        |true=>
         have hk0:kids.isEmpty=false:=by cases kids with|nil=>simp at q6|cons a l=>rfl
         rw[if_neg (by rw[hk0];simp)]
         obtain⟨hg,p,H,hn,o1,o2,tl,t1,t2,t3,t4,hgH,hpc,hp1⟩:=hI
         have hw: ∀ (s:ByteArray)(h:Heap),PCall Try.prog 111 [sPV s] h fun r h'=>r= .agg (wordM s).cells∧h'=h:=fun s h=>word_c
         simp only[wordM,Sx.cells,Sx.rows]at hw
         have o2H:H.obj (h.next+1)=_:=(t4 _ (by omega)).trans o2
         have n2:(h.next+1=H.next)=False:=by simp;omega
         have hpr:(Sx.rows ([]:List Sx)).length=0:=rfl
         have hpush:=fun X:Sx=>WrI.push (L:=[]) (X:=X) (m:=1) hn o1 t3 t4 hgH rfl
         generalize Sx.rows []=R at t1 hpr hpush
         have W:=And.intro k6 (And.intro q6 (And.intro hlK (And.intro o2 (And.intro o2H (And.intro n2 (And.intro t1 (And.intro t2 (And.intro hpr (And.intro hpc hp1)))))))))
         repeat'(first|refine a_seq fun K hK=>?_|((first|refine a_regionS ?_|refine a_drawS (by decide+kernel) ?_);simp(maxSteps:=2000000) only[Ty.w,simprocAttr,W,Bool.not_true])|(refine a_cond _ (by(try simp(maxSteps:=2000000) only[Ty.w,simprocAttr,W,Bool.not_true]);rfl) (fun hb=>?_) (fun hb=>?_)<;>(try simp only[hb0,decide_eq_true_eq,decide_eq_false_iff_not,simprocAttr]at hb)<;>(try(exfalso;omega)))|(refine hK _ _ ?_;clear hK;try simp only[pst0,simprocAttr]))
         (first|refine a_dcall0 (hw op _) (by(try simp only[Ty.w,simprocAttr,W,Bool.not_true]);try rfl) ?_|refine a_dcallA (hw op _) (by(try simp only[Ty.w,simprocAttr,W,Bool.not_true]);try rfl) (by simp only[Ty.w,simprocAttr,W,Bool.not_true];try trivial) ?_);simp(maxSteps:=2000000) only[Ty.w,simprocAttr,W,Option.getD_some,Bool.not_true]
         repeat'(first|(with_reducible refine a_past2 (by simp only[List.forall_mem_cons,Ty.w,simprocAttr,k6,q6,hlK,Bool.not_true,o2,o2H,n2,t1,t2,hpr,hpc,hp1]<;>(repeat' apply And.intro)<;>first|trivial|exact .inl (by decide+kernel)) ?_;try simp(maxSteps:=2000000) only[Ty.w,simprocAttr,W,Bool.not_true])|(rw[if_pos];rotate_left 1;omega;simp(maxSteps:=2000000) only[Ty.w,simprocAttr,W,Bool.not_true]))
         (simp(maxSteps:=2000000) only[Ty.w,simprocAttr,Ty.all,Fm.cells])
         exact hpush (wordM op)
      ·clear hI
       obtain⟨L0,hL0,hl0⟩: ∃ L0:List Sx,(if(bEq op opAnd&&kids.isEmpty)=true then[]else[wordM op])=L0∧L0.length≤1:=⟨_,rfl,by split<;>simp⟩
       rw[hL0]
       rintro S h' ⟨g1,g2,g3,hI⟩
       simp only[Fm.cells]at g1
       repeat'(with_reducible refine a_hold 13 ?_)
       refine⟨?_⟩
       refine a_cut (fun S h'=>S 1= .cptr (Fm.mk op name args params exprs kids).cells∧S 2= .ptr h.next 0 0∧S 3= .ptr (h.next+1) 0 0∧WrI h (L0++(if isQ op=true then[listM (paramsW params)]else[])) h') ?_ ?_
       ·have n7:bEq op opAll=(op.data.toList==(#[102,111,114,97,108,108]:Array UInt8).toList):=rfl
        have n8:bEq op opSome=(op.data.toList==(#[101,120,105,115,116,115]:Array UInt8).toList):=rfl
        cases k7:(op.data.toList==(#[102,111,114,97,108,108]:Array UInt8).toList)with
        |true=>
         rw[if_pos (by simp[isQ,n7,n8,k7])]
         obtain⟨hg,p,H,hn,o1,o2,tl,t1,t2,t3,t4,hgH,hpc,hp1⟩:=hI
         have hwp:=writeParams_c (l:=params) hpl
         have hli: ∀ h:Heap,PCall Try.prog 110 [.imm 6 (Sx.rows (paramsW params))] h fun r h'=>r= .agg (listM (paramsW params)).cells∧h'=h:=fun h=>list_c rfl (fun _=>frz_imm (sxs_in _ _))
         generalize hX:listM (paramsW params)=X at hli⊢
         clear hX
         generalize Sx.rows (paramsW params)=PR at hwp hli
         have o2H:H.obj (h.next+1)=_:=(t4 _ (by omega)).trans o2
         have n2:(h.next+1=H.next)=False:=by simp;omega
         have hpr:=Sx.rows_len L0
         have hpush:=WrI.push (L:=L0) (X:=X) (m:=L0.length+1) hn o1 t3 t4 hgH rfl
         generalize Sx.rows L0=R at t1 hpr hpush
         have hb:(L0.length+1)*72≤140737488355328:=by omega
         obtain⟨ki,va,li,co,te,ks⟩:=X
         simp only[Sx.cells]at hli hpush
         have W:=And.intro g1 (And.intro g2 (And.intro g3 (And.intro k7 (And.intro o2 (And.intro o2H (And.intro n2 (And.intro t1 (And.intro t2 (And.intro hpr (And.intro hpc (And.intro hp1 hb)))))))))))
         repeat'(first|refine a_seq fun K hK=>?_|((first|refine a_regionS ?_|refine a_drawS (by decide+kernel) ?_);simp(maxSteps:=2000000) only[Ty.w,simprocAttr,W])|(refine a_cond _ (by(try simp(maxSteps:=2000000) only[Ty.w,simprocAttr,W]);rfl) (fun hb=>?_) (fun hb=>?_)<;>(try simp only[hb0,decide_eq_true_eq,decide_eq_false_iff_not,simprocAttr]at hb)<;>(try(exfalso;omega)))|(refine hK _ _ ?_;clear hK;try simp only[pst0,simprocAttr]))
         (first|refine a_dcall0 (hwp _) (by(try simp only[Ty.w,simprocAttr,W]);try rfl) ?_|refine a_dcallA (hwp _) (by(try simp only[Ty.w,simprocAttr,W]);try rfl) (by simp only[Ty.w,simprocAttr,W];try trivial) ?_);simp(maxSteps:=2000000) only[Ty.w,simprocAttr,W,Option.getD_some]
         skip
         (first|refine a_dcall0 (hli _) (by(try simp only[Ty.w,simprocAttr,W]);try rfl) ?_|refine a_dcallA (hli _) (by(try simp only[Ty.w,simprocAttr,W]);try rfl) (by simp only[Ty.w,simprocAttr,W];try trivial) ?_);simp(maxSteps:=2000000) only[Ty.w,simprocAttr,W,Option.getD_some]
         repeat'(first|(with_reducible refine a_past2 (by simp only[List.forall_mem_cons,Ty.w,simprocAttr,g1,g2,g3,k7,o2,o2H,n2,t1,t2,hpr,hpc,hp1,hb]<;>(repeat' apply And.intro)<;>first|trivial|exact .inl (by decide+kernel)) ?_;try simp(maxSteps:=2000000) only[Ty.w,simprocAttr,W])|(rw[if_pos];rotate_left 1;omega;simp(maxSteps:=2000000) only[Ty.w,simprocAttr,W]))
         (simp(maxSteps:=2000000) only[Ty.w,simprocAttr,W,Ty.all,Fm.cells])
         exact hpush
        |false=>
         cases k8:(op.data.toList==(#[101,120,105,115,116,115]:Array UInt8).toList)with
         |true=>
          rw[if_pos (by simp[isQ,n7,n8,k8])]
          obtain⟨hg,p,H,hn,o1,o2,tl,t1,t2,t3,t4,hgH,hpc,hp1⟩:=hI
          have hwp:=writeParams_c (l:=params) hpl
          have hli: ∀ h:Heap,PCall Try.prog 110 [.imm 6 (Sx.rows (paramsW params))] h fun r h'=>r= .agg (listM (paramsW params)).cells∧h'=h:=fun h=>list_c rfl (fun _=>frz_imm (sxs_in _ _))
          generalize hX:listM (paramsW params)=X at hli⊢
          clear hX
          generalize Sx.rows (paramsW params)=PR at hwp hli
          have o2H:H.obj (h.next+1)=_:=(t4 _ (by omega)).trans o2
          have n2:(h.next+1=H.next)=False:=by simp;omega
          have hpr:=Sx.rows_len L0
          have hpush:=WrI.push (L:=L0) (X:=X) (m:=L0.length+1) hn o1 t3 t4 hgH rfl
          generalize Sx.rows L0=R at t1 hpr hpush
          have hb:(L0.length+1)*72≤140737488355328:=by omega
          obtain⟨ki,va,li,co,te,ks⟩:=X
          simp only[Sx.cells]at hli hpush
          have W:=And.intro g1 (And.intro g2 (And.intro g3 (And.intro k7 (And.intro k8 (And.intro o2 (And.intro o2H (And.intro n2 (And.intro t1 (And.intro t2 (And.intro hpr (And.intro hpc (And.intro hp1 hb))))))))))))
          repeat'(first|refine a_seq fun K hK=>?_|((first|refine a_regionS ?_|refine a_drawS (by decide+kernel) ?_);simp(maxSteps:=2000000) only[Ty.w,simprocAttr,W])|(refine a_cond _ (by(try simp(maxSteps:=2000000) only[Ty.w,simprocAttr,W]);rfl) (fun hb=>?_) (fun hb=>?_)<;>(try simp only[hb0,decide_eq_true_eq,decide_eq_false_iff_not,simprocAttr]at hb)<;>(try(exfalso;omega)))|(refine hK _ _ ?_;clear hK;try simp only[pst0,simprocAttr]))
          (first|refine a_dcall0 (hwp _) (by(try simp only[Ty.w,simprocAttr,W]);try rfl) ?_|refine a_dcallA (hwp _) (by(try simp only[Ty.w,simprocAttr,W]);try rfl) (by simp only[Ty.w,simprocAttr,W];try trivial) ?_);simp(maxSteps:=2000000) only[Ty.w,simprocAttr,W,Option.getD_some]
          skip
          (first|refine a_dcall0 (hli _) (by(try simp only[Ty.w,simprocAttr,W]);try rfl) ?_|refine a_dcallA (hli _) (by(try simp only[Ty.w,simprocAttr,W]);try rfl) (by simp only[Ty.w,simprocAttr,W];try trivial) ?_);simp(maxSteps:=2000000) only[Ty.w,simprocAttr,W,Option.getD_some]
          repeat'(first|(with_reducible refine a_past2 (by simp only[List.forall_mem_cons,Ty.w,simprocAttr,g1,g2,g3,k7,k8,o2,o2H,n2,t1,t2,hpr,hpc,hp1,hb]<;>(repeat' apply And.intro)<;>first|trivial|exact .inl (by decide+kernel)) ?_;try simp(maxSteps:=2000000) only[Ty.w,simprocAttr,W])|(rw[if_pos];rotate_left 1;omega;simp(maxSteps:=2000000) only[Ty.w,simprocAttr,W]))
          (simp(maxSteps:=2000000) only[Ty.w,simprocAttr,W,Ty.all,Fm.cells])
          exact hpush
         |false=>
          rw[if_neg (by simp[isQ,n7,n8,k7,k8]),List.append_nil]
          repeat'(first|refine a_seq fun K hK=>?_|(refine a_regionS ?_;simp(maxSteps:=2000000) only[Ty.w,simprocAttr,g1,g2,g3,k7,k8])|(refine a_skip ?_;try simp only[pst0,simprocAttr])|(refine a_cond _ (by(try simp(maxSteps:=2000000) only[Ty.w,simprocAttr,g1,g2,g3,k7,k8]);rfl) (fun hb=>?_) (fun hb=>?_)<;>(try simp only[hb0,decide_eq_true_eq,decide_eq_false_iff_not,simprocAttr]at hb)<;>(try(exfalso;omega)))|(refine hK _ _ ?_;clear hK;try simp only[pst0,simprocAttr]))
          (simp(maxSteps:=2000000) only[Ty.w,simprocAttr,Ty.all,g1,g2,g3,Fm.cells])
          exact hI
       ·clear hI g1 g2 g3
        obtain⟨L1,hL1,hl1⟩: ∃ L1:List Sx,L0++(if isQ op=true then[listM (paramsW params)]else[])=L1∧L1.length≤2:=⟨_,rfl,by split<;>simp<;>omega⟩
        rw[hL1]
        rw[fmWs_map]
        clear hL1 hL0 hl0
        rintro S h' ⟨g1,g2,g3,hI⟩
        simp only[Fm.cells]at g1
        have hrl: ∀ k,(L1++(kids.take k).map fmW).length≤1048578:=fun k=>by simp;omega
        repeat'(first|refine a_seq fun K hK=>?_|(refine a_block ?_)|(refine a_regionS ?_;simp(maxSteps:=2000000) only[Ty.w,simprocAttr,g1,g2,g3,hlK])|(refine hK _ _ ?_;clear hK;try simp only[pst0,simprocAttr]))
        refine a_loop (fun c S h'=>S 2= .ptr h.next 0 0∧S 3= .ptr (h.next+1) 0 0∧S 75= .imm 6 (Fm.rows kids)∧S 76= .sc (.int .i64 kids.length)∧ ∃ k:Nat,S 77= .sc (.int .i64 k)∧k≤kids.length∧c=kids.length-k∧WrI h (L1++(kids.take k).map fmW) h') kids.length ?_ ?_
        ·simp only[Ty.w,simprocAttr,g2,g3]
         refine⟨0,rfl,by omega,rfl,?_⟩
         simpa using hI
        ·clear hI g1 g2 g3
         rintro c S h' ⟨g2,g3,g75,g76,k,g77,hk,rfl,hI⟩
         by_cases hlt:k<kids.length
         ·have hdk:decide ((k:Int)<(kids.length:Int))=true:=by simp;omega
          have w7:IntKind.i64.wrap ((k:Int)+1)=k+1:=by rw[wrap64 (by omega) (by omega)]
          obtain⟨x,hx⟩: ∃ x,kids[k]? =some x:=⟨_,List.getElem?_eq_getElem hlt⟩
          have hmem:=List.mem_of_getElem? hx
          have hr:=Fm.rows_get hx
          have hcx:=ih x hmem (hks x hmem) (hsk x hmem)
          have hL:L1++(kids.take (k+1)).map fmW=L1++(kids.take k).map fmW++[fmW x]:=by rw[List.take_add_one,hx];simp
          have hrk:=hrl k
          generalize L1++(kids.take k).map fmW=L2 at hI hrk hL
          obtain⟨hg,p,H,hn,o1,o2,tl,t1,t2,t3,t4,hgH,hpc,hp1⟩:=hI
          generalize fmW x=X at hcx hL
          obtain⟨xo,xn,xa,xp,xe,xk⟩:=x
          obtain⟨ki,va,li,co,te,ks⟩:=X
          simp only[Fm.cells,Sx.cells]at hr hcx
          clear t1 t2 t3 t4 hgH H
          have hG2:Grow h ((h'.new (.arr 6 [[.sc (.string ⟨#[]⟩),.sc (.string ⟨#[]⟩),.sc (.slice none 0 0),.sc (.slice none 0 0),.sc (.slice none 0 0),.sc (.slice none 0 0)]])).set h'.next (.arr 6 [[sPV xo,sPV xn,.imm 1 (strRows xa),.imm 2 (pmRows xp),.imm 5 (Ex.rows xe),.imm 6 (Fm.rows xk)]])):=(hg.new _).set hg.le _
          have m1:¬ h.next=h'.next:=by omega
          have m2:¬ h.next+1=h'.next:=by omega
          have m2':(h.next+1=h'.next)=False:=eq_false m2
          have tl2:=tl.up (h':=((h'.new (.arr 6 [[.sc (.string ⟨#[]⟩),.sc (.string ⟨#[]⟩),.sc (.slice none 0 0),.sc (.slice none 0 0),.sc (.slice none 0 0),.sc (.slice none 0 0)]])).set h'.next (.arr 6 [[sPV xo,sPV xn,.imm 1 (strRows xa),.imm 2 (pmRows xp),.imm 5 (Ex.rows xe),.imm 6 (Fm.rows xk)]]))) (by simp[Heap.set,Heap.new]) fun j _ hj=>by simp only[Heap.set,Heap.new];rw[if_neg (by omega),if_neg (by omega)]
          obtain⟨H,t1,t2,t3,t4,t5⟩:=tl2.tail
          have hgH:=t5 h ⟨hG2.le,hG2.old⟩ (by omega)
          have o1x:((h'.new (.arr 6 [[.sc (.string ⟨#[]⟩),.sc (.string ⟨#[]⟩),.sc (.slice none 0 0),.sc (.slice none 0 0),.sc (.slice none 0 0),.sc (.slice none 0 0)]])).set h'.next (.arr 6 [[sPV xo,sPV xn,.imm 1 (strRows xa),.imm 2 (pmRows xp),.imm 5 (Ex.rows xe),.imm 6 (Fm.rows xk)]])).obj h.next=some (.arr 6 [[.sc (.int .i64 0),.sc (.int .i64 0),.sc (.int .i64 0),.sc (.int .i64 0),.sc (.string ⟨#[]⟩),.sc (.slice none 0 0)]]):=by simp only[Heap.set,Heap.new,m1,if_false];exact o1
          have o2H:H.obj (h.next+1)=_:=(t4 _ (by omega)).trans (show((h'.new (.arr 6 [[.sc (.string ⟨#[]⟩),.sc (.string ⟨#[]⟩),.sc (.slice none 0 0),.sc (.slice none 0 0),.sc (.slice none 0 0),.sc (.slice none 0 0)]])).set h'.next (.arr 6 [[sPV xo,sPV xn,.imm 1 (strRows xa),.imm 2 (pmRows xp),.imm 5 (Ex.rows xe),.imm 6 (Fm.rows xk)]])).obj (h.next+1)=_ by simp only[Heap.set,Heap.new,m2,if_false];exact o2)
          have t3':H.next=h'.next+1:=by rw[t3];simp[Heap.new,Heap.set]
          have n2:(h.next+1=H.next)=False:=by simp;omega
          have hpr:=Sx.rows_len L2
          have hpush:=WrI.push (h':=((h'.new (.arr 6 [[.sc (.string ⟨#[]⟩),.sc (.string ⟨#[]⟩),.sc (.slice none 0 0),.sc (.slice none 0 0),.sc (.slice none 0 0),.sc (.slice none 0 0)]])).set h'.next (.arr 6 [[sPV xo,sPV xn,.imm 1 (strRows xa),.imm 2 (pmRows xp),.imm 5 (Ex.rows xe),.imm 6 (Fm.rows xk)]]))) (L:=L2) (X:= .mk ki va li co te ks) (m:=L2.length+1) (by simp only[Heap.set,Heap.new];omega) o1x t3 t4 ⟨hgH.1,hgH.2⟩ rfl
          have hb:(L2.length+1)*72≤140737488355328:=by omega
          simp only[Sx.cells]at hpush
          clear tl tl2 t5
          generalize Sx.rows L2=R at t1 hpr hpush
          have W:=And.intro g2 (And.intro g3 (And.intro g75 (And.intro g76 (And.intro g77 (And.intro w7 (And.intro m2' (And.intro o2 (And.intro o2H (And.intro n2 (And.intro t1 (And.intro t2 (And.intro hpr (And.intro hpc (And.intro hp1 hb))))))))))))))
          repeat'(first|refine a_seq fun K hK=>?_|((first|refine a_regionS ?_|refine a_draw (by decide+kernel) (fun K hK=>?_));simp(maxSteps:=2000000) only[Ty.w,simprocAttr,W,hdk,hr])|(refine a_skip ?_;try simp only[pst0,simprocAttr])|(refine a_cond _ (by(try simp(maxSteps:=2000000) only[Ty.w,simprocAttr,W,hdk,hr]);rfl) (fun hb=>?_) (fun hb=>?_)<;>(try simp only[hb0,decide_eq_true_eq,decide_eq_false_iff_not,simprocAttr]at hb)<;>(try(exfalso;omega)))|(refine hK _ _ ?_;clear hK;try simp only[pst0,simprocAttr]))
          (first|refine a_dcall0 (hcx _) (by(try simp only[Ty.w,simprocAttr,W]);try rfl) ?_|refine a_dcallA (hcx _) (by(try simp only[Ty.w,simprocAttr,W]);try rfl) (by simp only[Ty.w,simprocAttr,W];try trivial) ?_);simp(maxSteps:=2000000) only[Ty.w,simprocAttr,W,Option.getD_some]
          repeat'(first|(refine a_regionS ?_;simp(maxSteps:=2000000) only[Ty.w,simprocAttr,W])|(refine hK _ _ ?_;clear hK;try simp only[pst0,simprocAttr])|(with_reducible refine a_past2 (by simp only[List.forall_mem_cons,Ty.w,simprocAttr,g2,g3,g75,g76,g77,w7,m2',o2,o2H,n2,t1,t2,hpr,hpc,hp1,hb]<;>(repeat' apply And.intro)<;>first|trivial|exact .inl (by decide+kernel)) ?_;try simp(maxSteps:=2000000) only[Ty.w,simprocAttr,W])|(rw[if_pos];rotate_left 1;omega;simp(maxSteps:=2000000) only[Ty.w,simprocAttr,W]))
          exact⟨kids.length-(k+1),by omega,k+1,by simp,by omega,rfl,by rw[hL];exact hpush⟩
         ·have hdk:decide ((k:Int)<(kids.length:Int))=false:=by simp;omega
          have hke:k=kids.length:=by omega
          subst hke
          rw[List.take_length]at hI
          obtain⟨hg,p,H,hn,o1,o2,tl,t1,t2,t3,t4,hgH,hpc,hp1⟩:=hI
          repeat'(first|refine a_seq fun K hK=>?_|((first|refine a_regionS ?_|refine a_ret ?_);simp(maxSteps:=2000000) only[Ty.w,simprocAttr,g2,g3,g75,g76,g77,hdk,o1,o2,hpc])|(refine a_exit ?_;try simp only[pst0,simprocAttr])|(refine a_cond _ (by(try simp(maxSteps:=2000000) only[Ty.w,simprocAttr,g2,g3,g75,g76,g77,hdk,o1,o2,hpc]);rfl) (fun hb=>?_) (fun hb=>?_)<;>(try simp only[hb0,decide_eq_true_eq,decide_eq_false_iff_not,simprocAttr]at hb)<;>(try(exfalso;omega)))|((first|refine hK _ _ ?_|(clear hK;refine hK _ _ ?_));clear hK;try simp only[pst0,simprocAttr])|(rw[if_pos];rotate_left 1;omega;simp(maxSteps:=2000000) only[Ty.w,simprocAttr,g2,g3,g75,g76,g77,hdk,o1,o2,hpc]))
          refine⟨?_,hg.set (Nat.le_refl _) _⟩
          have tl2:Tl (h'.set h.next (.arr 6 [[.sc (.int .i64 3),.sc (.int .i64 0),.sc (.int .i64 0),.sc (.int .i64 0),.sc (.string ⟨#[]⟩),p]])) (h.next+2) 6 p (Sx.rows (L1++kids.map fmW)):=tl.up (Nat.le_refl _) fun j hj _=>by simp only[Heap.set];rw[if_neg (by omega)]
          simp only[listM,Sx.cells,FrzTo,FrzL]
          exact⟨_,rfl,rfl,rfl,rfl,rfl,rfl,by have:=tl_frzX (Tl.low tl2 (show h.next≤h.next+2 by omega));simpa only[FrzTo]using this,trivial⟩
theorem paramsW_ok: ∀ l:List Pm,(∀ p∈l,p.ok)→Sx.oks (paramsW l)
 |[],_=>by simp[paramsW,Sx.oks]
 |p::l,h=>by
  have hp:=h p (by simp)
  simp only[paramsW,Sx.oks]
  exact⟨wordM_ok hp.1,wordM_ok (by simp[bigN,ByteArray.size]),wordM_ok hp.2,paramsW_ok l fun q hq=>h q (by simp[hq])⟩
theorem parts_cmp{op name:ByteArray}{args:List ByteArray}{params:List Pm}{ne nk:Nat}(h1:¬ bEq op opAtom=true)(h2:¬ bEq op opSame=true)(h3:isCmp op=true)(hp:partsOk op name args params ne nk=true):ne=2:=by
 unfold partsOk shapeOf at hp
 rw[if_neg h1,if_neg h2]at hp
 simp only[isCmp,Bool.or_eq_true]at h3
 by_cases k1:bEq op opLt=true
 ·simp [k1]at hp;omega
 by_cases k2:bEq op opLe=true
 ·simp [k1,k2]at hp;omega
 have k3:bEq op opEq=true:=by rcases h3 with(h3|h3)|h3<;>simp_all
 simp[k1,k2,k3]at hp;omega
theorem fmW_ok: ∀ f:Fm,f.ok→f.small→shapedF f=true→(fmW f).ok:=by
 refine Fm.ind ?_
 intro op name args params exprs kids ih hok hsm hsh
 simp only[Fm.ok]at hok
 simp only[Fm.small]at hsm
 simp only[shapedF,Bool.and_eq_true]at hsh
 obtain⟨⟨hpo,_⟩,hsh⟩:=hsh
 rw[shapedFs_iff]at hsh
 obtain⟨hop,hname,hargs,⟨_,hps⟩,⟨_,hes⟩,_,hks⟩:=hok
 obtain⟨hal,hpl,hse,hkl,hsk⟩:=hsm
 rw[Fm.oks_iff]at hks
 rw[Ex.oks_iff]at hes
 have hse:=Ex.smalls_iff.1 hse
 have hsk:=Fm.smalls_iff.1 hsk
 unfold fmW
 split
 ·exact wordsM_ok hname hal hargs.2
 split
 ·exact wordsM_ok (by simp[opEq,bigN,ByteArray.size]) hal hargs.2
 split
 ·rename_i c1 c2 c3
  have h2:=parts_cmp c1 c2 c3 hpo
  refine listM_ok (by simp only[List.length_cons,List.length_map];unfold bigN;omega) (Sx.oks_iff.2 ?_)
  intro k hk
  simp only[List.mem_cons,List.mem_map]at hk
  rcases hk with rfl|⟨e,he,rfl⟩
  ·exact wordM_ok hop
  ·exact exW_ok e (hes e he) (hse e he)
 ·rw [fmWs_map]
  refine listM_ok ?_ (Sx.oks_iff.2 ?_)
  ·simp only[List.length_append,List.length_map]
   have a1:(if(bEq op opAnd&&kids.isEmpty)=true then[]else[wordM op]).length≤1:=by split<;>simp
   have a2:(if isQ op=true then[listM (paramsW params)]else[]).length≤1:=by split<;>simp
   unfold bigN;omega
  ·intro k hk
   simp only[List.mem_append,List.mem_map]at hk
   rcases hk with(hk|hk)|⟨e,he,rfl⟩
   ·split at hk
    ·simp at hk
    ·simp only[List.mem_singleton]at hk;subst hk;exact wordM_ok hop
   ·split at hk
    ·simp only[List.mem_singleton]at hk;subst hk
     exact listM_ok (by rw[paramsW_len];unfold bigN;omega) (paramsW_ok _ hps)
    ·simp at hk
   ·exact ih e he (hks e he) (hsk e he) (hsh e he)
theorem formedMs_shaped: ∀ (l:List Ex)(d n:Nat),(formedMs l d n).1=true→ ∀ e∈l,shapedE e=true
 |[],_,_,_=>by simp
 |e::l,d,n,h=>by
  unfold formedMs at h
  have h1:=formedM_shaped e d n
  split at h
  ·rename_i c he
   rw[he]at h1
   intro x hx
   rcases List.mem_cons.1 hx with rfl|hx
   ·exact h1 rfl
   ·exact formedMs_shaped l d c h x hx
  ·simp at h
mutual
theorem shapedM_F: ∀ (f:Fm)(d n:Nat),(shapedM f d n).1=true→shapedF f=true
 | .mk op name args params exprs kids,d,n,h=>by
  unfold shapedM at h
  split at h
  ·split at h
   ·rename_i hp
    have h1:=formedMs_shaped exprs (d+1) (n+1)
    split at h
    ·rename_i c he
     rw[he]at h1
     simp only[shapedF,Bool.and_eq_true,List.all_eq_true]
     exact⟨⟨hp,h1 rfl⟩,shapedMs_F kids (d+1) c h⟩
    ·simp at h
   ·simp at h
  ·simp at h
theorem shapedMs_F: ∀ (l:List Fm)(d n:Nat),(shapedMs l d n).1=true→shapedFs l=true
 |[],_,_,_=>by simp[shapedFs]
 |k::l,d,n,h=>by
  unfold shapedMs at h
  have h1:=shapedM_F k d n
  split at h
  ·rename_i c he
   rw[he]at h1
   simp only[shapedFs,Bool.and_eq_true]
   exact⟨h1 rfl,shapedMs_F l d c h⟩
  ·simp at h
end
theorem fvalid_c{f:Fm}(hok:f.ok)(hsm:f.small)(h:Heap):PCall Try.prog 26 [.agg f.cells] h fun r h'=>r= .sc (.bool (validF f))∧h'=h:=by
 have hf:=shaped_c f hok 0 0 (by omega) (by omega) h.next (h.new (.arr 1 [[.sc (.int .i64 0)]])) (by simp[Heap.new,cntO])
 have hsh:=shapedM_F f 0 0
 have hx:=fmW_ok f hok hsm
 have hw0:=write_c f hsm
 have hv:validF f=((shapedM f 0 0).1&&(svalid (fmW f) 0 0).1):=rfl
 rw[hv]
 refine PCall.quiet Ty.hb_26 ?_
 generalize shapedM f 0 0=V at hf hsh⊢
 obtain⟨b,c⟩:=V
 cases b with
 |false=>
  obtain⟨op,name,args,params,exprs,kids⟩:=f
  simp only[Fm.cells,Int.natCast_zero]at hf⊢
  refine pcall_body (ow:=fun t=>t==5) (wf:=fun _=>false) Ty.mixed Try.func26 rfl Ty.hb_26 (by rw[Try.ntmps26];simp) ?_
  rw[Try.ntmps26,Try.results26]
  repeat'(first|refine a_seq fun K hK=>?_|(refine a_regionS ?_;simp(maxSteps:=2000000) only[Ty.w,simprocAttr])|(refine hK _ _ ?_;clear hK;try simp only[pst0,simprocAttr]))
  refine owp_useH (hf) (by(try simp only[Ty.w,simprocAttr,]);try rfl) ?_;simp(maxSteps:=2000000) only[Ty.w,simprocAttr,]
  repeat'(first|(refine a_ret ?_;simp(maxSteps:=2000000) only[Ty.w,simprocAttr])|(refine hK _ _ ?_;clear hK;try simp only[pst0,simprocAttr]))
  exact((Grow.refl h).new _).set (Nat.le_refl _) _
 |true=>
  have hw:=hw0 (hsh rfl)
  have hvv:=svalid_c (hx (hsh rfl))
  clear hw0
  generalize fmW f=X at hw hvv⊢
  obtain⟨op,name,args,params,exprs,kids⟩:=f
  obtain⟨ki,va,li,co,te,ks⟩:=X
  simp only[Fm.cells,Sx.cells,Int.natCast_zero]at hf hw hvv⊢
  refine pcall_body (ow:=fun t=>t==5) (wf:=fun _=>false) Ty.mixed Try.func26 rfl Ty.hb_26 (by rw[Try.ntmps26];simp) ?_
  rw[Try.ntmps26,Try.results26]
  repeat'(first|refine a_seq fun K hK=>?_|(refine a_regionS ?_;simp(maxSteps:=2000000) only[Ty.w,simprocAttr])|(refine hK _ _ ?_;clear hK;try simp only[pst0,simprocAttr]))
  refine owp_useH (hf) (by(try simp only[Ty.w,simprocAttr,]);try rfl) ?_;simp(maxSteps:=2000000) only[Ty.w,simprocAttr,]
  skip
  refine owp_useQ (hw _) (by(try simp only[Ty.w,simprocAttr,]);try rfl) ?_;simp(maxSteps:=2000000) only[Ty.w,simprocAttr,]
  skip
  refine owp_useQ (hvv _) (by(try simp only[Ty.w,simprocAttr,]);try rfl) ?_;simp(maxSteps:=2000000) only[Ty.w,simprocAttr,]
  repeat'(first|(refine a_ret ?_;simp(maxSteps:=2000000) only[Ty.w,simprocAttr])|(refine hK _ _ ?_;clear hK;try simp only[pst0,simprocAttr]))
  exact((Grow.refl h).new _).set (Nat.le_refl _) _
end Go.Proofs.Ytjlkapgpjamnkaa
namespace Go.Proofs.Ytjlkapgpjamnkaa
open Go.AM
theorem list_depth{l:List Sx}{k:Sx}(h:k∈l):k.depth+1≤(listM l).depth:=by
 have:=Sx.depths_mem 0 h
 simp only[listM,Sx.depth,if_true];omega
theorem fmW_rest{op name:ByteArray}{args:List ByteArray}{params:List Pm}{exprs:List Ex}{kids:List Fm}(h1:bEq op opAtom=false)(h2:bEq op opSame=false)(h3:isCmp op=false): ∃ pre,fmW (.mk op name args params exprs kids)=listM (pre++kids.map fmW):=by
 unfold fmW
 rw[h1,h2,h3,fmWs_map]
 exact⟨_,rfl⟩
theorem fmW_parts: ∀ f,shapedF f=true→match f with
  | .mk _ _ _ _ exprs kids=>1+Sx.nodess (exprs.map exW)+Sx.nodess (kids.map fmW)≤(fmW f).nodes∧1≤(fmW f).depth∧(∀ e∈exprs,(exW e).depth+1≤(fmW f).depth)∧(∀ k∈kids,(fmW k).depth+1≤(fmW f).depth):=by
 intro f hf
 have d1: ∀ l:List Sx,1≤(listM l).depth:=fun l=>by simp only[listM,Sx.depth,if_true];omega
 have rest: ∀ {op:ByteArray}{params:List Pm}{kids:List Fm}{pre:List Sx},fmW (.mk op ⟨#[]⟩ [] params [] kids)=listM (pre++kids.map fmW)→
   1+Sx.nodess (([]:List Ex).map exW)+Sx.nodess (kids.map fmW)≤(fmW (.mk op ⟨#[]⟩ [] params [] kids)).nodes∧1≤(fmW (.mk op ⟨#[]⟩ [] params [] kids)).depth∧(∀ e∈([]:List Ex),(exW e).depth+1≤(fmW (.mk op ⟨#[]⟩ [] params [] kids)).depth)∧(∀ k∈kids,(fmW k).depth+1≤(fmW (.mk op ⟨#[]⟩ [] params [] kids)).depth):=by
  intro op params kids pre e
  rw[e]
  refine⟨?_,d1 _,by simp,fun k hk=>list_depth (List.mem_append.2 (.inr (List.mem_map.2 ⟨k,hk,rfl⟩)))⟩
  rw[list_nodes,nodess_append];simp only[List.map_nil,Sx.nodess];omega
 refine sf_cases (C:=fun f=>match f with
  | .mk _ _ _ _ exprs kids=>1+Sx.nodess (exprs.map exW)+Sx.nodess (kids.map fmW)≤(fmW f).nodes∧1≤(fmW f).depth∧(∀ e∈exprs,(exW e).depth+1≤(fmW f).depth)∧(∀ k∈kids,(fmW k).depth+1≤(fmW f).depth)) f hf ?_ ?_ ?_ ?_ ?_ ?_ ?_
 ·intro name args _ _
  have e:fmW (.mk opAtom name args [] [] [])=wordsM name args:=rfl
  simp only[e]
  exact⟨by simp only[wordsM,list_nodes,List.map_nil,Sx.nodess];omega,d1 _,by simp,by simp⟩
 ·intro args _ _
  have e:fmW (.mk opSame ⟨#[]⟩ args [] [] [])=wordsM opEq args:=rfl
  simp only[e]
  exact⟨by simp only[wordsM,list_nodes,List.map_nil,Sx.nodess];omega,d1 _,by simp,by simp⟩
 ·intro op a b ho _ _
  have e:fmW (.mk op ⟨#[]⟩ [] [] [a,b] [])=listM [wordM op,exW a,exW b]:=by rcases ho with rfl|rfl|rfl<;>rfl
  simp only[e]
  refine⟨?_,d1 _,?_,by simp⟩
  ·simp only[list_nodes,List.map_cons,List.map_nil,Sx.nodess,word_nodes];omega
  ·intro x hx
   simp only[List.mem_cons,List.not_mem_nil,or_false]at hx
   rcases hx with rfl|rfl<;>exact list_depth (by simp)
 ·intro op kids ho _
  obtain⟨pre,e⟩: ∃ pre,fmW (.mk op ⟨#[]⟩ [] [] [] kids)=listM (pre++kids.map fmW):=by rcases ho with rfl|rfl<;>exact fmW_rest rfl rfl rfl
  exact rest e
 ·intro k _
  obtain⟨pre,e⟩: ∃ pre,fmW (.mk opNot ⟨#[]⟩ [] [] [] [k])=listM (pre++[k].map fmW):=fmW_rest rfl rfl rfl
  exact rest e
 ·intro a b _ _
  obtain⟨pre,e⟩: ∃ pre,fmW (.mk opImp ⟨#[]⟩ [] [] [] [a,b])=listM (pre++[a,b].map fmW):=fmW_rest rfl rfl rfl
  exact rest e
 ·intro op params k ho _ _
  obtain⟨pre,e⟩: ∃ pre,fmW (.mk op ⟨#[]⟩ [] params [] [k])=listM (pre++[k].map fmW):=by rcases ho with rfl|rfl<;>exact fmW_rest rfl rfl rfl
  exact rest e
theorem formeds_of: ∀ (l:List Ex),(∀ e∈l,shapedE e=true)→ ∀ (d n:Nat),(∀ e∈l,d+(exW e).depth≤32)→n+Sx.nodess (l.map exW)≤4096→(formedMs l d n).1=true∧(formedMs l d n).2≤n+Sx.nodess (l.map exW)
 |[],_,d,n,_,hn=>by simp[formedMs,Sx.nodess]
 |e::l,hs,d,n,hd,hn=>by
  simp only[List.map_cons,Sx.nodess]at hn⊢
  obtain⟨f1,f2⟩:=formed_of e (hs e (by simp)) d n (hd e (by simp)) (by omega)
  unfold formedMs
  cases hw:formedM e d n with
  |mk x c=>
   rw[hw]at f1 f2
   simp only at f1 f2
   subst f1
   simp only
   obtain⟨g1,g2⟩:=formeds_of l (fun q hq=>hs q (by simp[hq])) d c (fun q hq=>hd q (by simp[hq])) (by omega)
   exact⟨g1,by omega⟩
theorem shapeds_of: ∀ (l:List Fm)(d:Nat),(∀ k∈l, ∀ n,n+(fmW k).nodes≤4096→(shapedM k d n).1=true∧(shapedM k d n).2≤n+(fmW k).nodes)→ ∀ n,n+Sx.nodess (l.map fmW)≤4096→(shapedMs l d n).1=true∧(shapedMs l d n).2≤n+Sx.nodess (l.map fmW)
 |[],_,_,n,hn=>by simp[shapedMs,Sx.nodess]
 |k::l,d,h,n,hn=>by
  simp only[List.map_cons,Sx.nodess]at hn⊢
  obtain⟨f1,f2⟩:=h k (by simp) n (by omega)
  unfold shapedMs
  cases hw:shapedM k d n with
  |mk x c=>
   rw[hw]at f1 f2
   simp only at f1 f2
   subst f1
   simp only
   obtain⟨g1,g2⟩:=shapeds_of l d (fun q hq=>h q (by simp[hq])) c (by omega)
   exact⟨g1,by omega⟩
theorem shaped_of: ∀ (f:Fm),shapedF f=true→ ∀ (d n:Nat),d+(fmW f).depth≤32→n+(fmW f).nodes≤4096→(shapedM f d n).1=true∧(shapedM f d n).2≤n+(fmW f).nodes:=by
 refine Fm.ind ?_
 intro op name args params exprs kids ih hs d n hd hn
 have hp:=fmW_parts _ hs
 simp only at hp
 obtain⟨p1,p2,p3,p4⟩:=hp
 have hs2:=hs
 simp only[shapedF,Bool.and_eq_true,List.all_eq_true]at hs2
 obtain⟨⟨h1,h2⟩,h3⟩:=hs2
 rw[shapedFs_iff]at h3
 generalize fmW (.mk op name args params exprs kids)=X at*
 unfold shapedM
 rw[if_pos ⟨by omega,by omega⟩,if_pos h1]
 obtain⟨f1,f2⟩:=formeds_of exprs h2 (d+1) (n+1) (fun e he=>by have:=p3 e he;omega) (by omega)
 cases hw:formedMs exprs (d+1) (n+1)with
 |mk x c=>
  rw[hw]at f1 f2
  simp only at f1 f2
  subst f1
  simp only
  obtain⟨g1,g2⟩:=shapeds_of kids (d+1) (fun k hk m hm=>ih k hk (h3 k hk) (d+1) m (by have:=p4 k hk;omega) hm) c (by omega)
  exact⟨g1,by omega⟩
end Go.Proofs.Ytjlkapgpjamnkaa
namespace Go.Proofs.Ytjlkapgpjamnkaa
open Go.AM
theorem nameW{s:ByteArray}(h:nameB s=true):wordR s=true:=by rw[← word_same];exact name_word h
theorem varW{s:ByteArray}(h:varB s=true):wordR s=true:=by rw[← word_same];exact(var_word h).1
theorem term_word{s:ByteArray}(h:termB s=true):wordR s=true:=by
 simp only[termB,Bool.or_eq_true]at h
 exact h.elim nameW varW
theorem ss_word{s:ByteArray}(h:wordR s=true):shapedS (wordM s)=true:=by simp[wordM,shapedS,h]
theorem shapedSs_iff: ∀ {l:List Sx},(shapedSs l=true↔ ∀ k∈l,shapedS k=true)
 |[]=>by simp[shapedSs]
 |k::l=>by simp[shapedSs,shapedSs_iff (l:=l)]
theorem ss_list{l:List Sx}(h: ∀ k∈l,shapedS k=true):shapedS (listM l)=true:=by
 unfold listM shapedS
 rw[if_neg (by decide),if_neg (by decide),if_pos rfl,shapedSs_iff.2 h];try rfl
theorem ss_words{first:ByteArray}{l:List ByteArray}(h0:wordR first=true)(h:l.all termB=true):shapedS (wordsM first l)=true:=by
 refine ss_list fun k hk=>?_
 simp only[List.map_cons,List.mem_cons,List.mem_map]at hk
 rcases hk with rfl|⟨s,hs,rfl⟩
 ·exact ss_word h0
 ·exact ss_word (term_word (List.all_eq_true.1 h s hs))
theorem exW_ss: ∀ e:Ex,shapedE e=true→shapedS (exW e)=true:=by
 refine Ex.ind ?_
 intro op name n args kids ih h
 unfold shapedE at h
 unfold exW
 split at h
 ·rename_i c
  rw[if_pos c]
  simp only[Bool.and_eq_true]at h
  have:=h.2
  simp only[inNum,Bool.and_eq_true,decide_eq_true_eq]at this
  simp[shapedS,this.1,this.2]
 ·rename_i c
  rw[if_neg c]
  split at h
  ·rename_i c2
   rw[if_pos c2]
   simp only[Bool.and_eq_true]at h
   exact ss_words (nameW h.1.2) h.2
  ·rename_i c2
   rw[if_neg c2]
   split at h
   case isFalse=>simp at h
   rename_i c3
   simp only[Bool.and_eq_true]at h
   obtain⟨_,h4⟩:=h
   split at h4
   case h_2=>simp at h4
   rename_i a b
   simp only[Bool.and_eq_true]at h4
   have hop:wordR op=true:=by
    simp only[Bool.or_eq_true]at c3
    rcases c3 with(h|h)|h<;>rw[bEq_eq h]<;>decide
   refine ss_list fun k hk=>?_
   simp only[List.mem_cons,List.not_mem_nil,or_false]at hk
   rcases hk with rfl|rfl|rfl
   ·exact ss_word hop
   ·exact ih a (by simp) h4.1
   ·exact ih b (by simp) h4.2
theorem params_ss: ∀ l:List Pm,l.all pmOk=true→ ∀ k∈paramsW l,shapedS k=true
 |[],_=>by simp[paramsW]
 |p::l,h=>by
  simp only[List.all_cons,Bool.and_eq_true,pmOk]at h
  obtain⟨⟨h1,h2⟩,h3⟩:=h
  have ht:wordR p.type=true:=by
   simp only[typedB,Bool.or_eq_true]at h2
   rcases h2 with h2|h2
   ·exact nameW h2
   ·rw [bEq_eq h2];decide
  intro k hk
  simp only[paramsW,List.mem_cons]at hk
  rcases hk with rfl|rfl|rfl|hk
  ·exact ss_word (varW h1)
  ·exact ss_word (by decide)
  ·exact ss_word ht
  ·exact params_ss l h3 k hk
theorem fmW_ss: ∀ f:Fm,shapedF f=true→shapedS (fmW f)=true:=by
 refine sf_ind ?_ ?_ ?_ ?_ ?_ ?_ ?_
 ·intro name args h1 h2
  exact ss_words (nameW h1) h2
 ·intro args _ h2
  exact ss_words (by decide) h2
 ·intro op a b ho ha hb
  have e:fmW (.mk op ⟨#[]⟩ [] [] [a,b] [])=listM [wordM op,exW a,exW b]:=by rcases ho with rfl|rfl|rfl<;>rfl
  have hop:wordR op=true:=by rcases ho with rfl|rfl|rfl<;>decide
  rw[e]
  refine ss_list fun k hk=>?_
  simp only[List.mem_cons,List.not_mem_nil,or_false]at hk
  rcases hk with rfl|rfl|rfl
  ·exact ss_word hop
  ·exact exW_ss a ha
  ·exact exW_ss b hb
 ·intro op kids ho _ ih
  have e: ∃ pre,(∀ k∈pre,shapedS k=true)∧fmW (.mk op ⟨#[]⟩ [] [] [] kids)=listM (pre++kids.map fmW):=by
   have hop:wordR op=true:=by rcases ho with rfl|rfl<;>decide
   have hx:fmW (.mk op ⟨#[]⟩ [] [] [] kids)=listM ((if(bEq op opAnd&&kids.isEmpty)=true then[]else[wordM op])++kids.map fmW):=by
    unfold fmW
    rw[fmWs_map]
    rcases ho with rfl|rfl
    ·rw [if_neg (by decide),if_neg (by decide),if_neg (by decide),if_neg (show ¬ isQ opAnd=true by decide),List.append_nil]
    ·rw [if_neg (by decide),if_neg (by decide),if_neg (by decide),if_neg (show ¬ isQ opOr=true by decide),List.append_nil]
   refine⟨_,?_,hx⟩
   intro k hk
   split at hk
   ·simp at hk
   ·simp only[List.mem_singleton]at hk;subst hk;exact ss_word hop
  obtain⟨pre,hp,e⟩:=e
  rw[e]
  refine ss_list fun k hk=>?_
  rcases List.mem_append.1 hk with hk|hk
  ·exact hp k hk
  ·obtain ⟨y,hy,rfl⟩:=List.mem_map.1 hk;exact ih y hy
 ·intro k _ ih
  exact ss_list (l:=[wordM opNot,fmW k]) fun y hy=>by
   simp only[List.mem_cons,List.not_mem_nil,or_false]at hy
   rcases hy with rfl|rfl
   ·exact ss_word (by decide)
   ·exact ih
 ·intro a b _ _ iha ihb
  exact ss_list (l:=[wordM opImp,fmW a,fmW b]) fun y hy=>by
   simp only[List.mem_cons,List.not_mem_nil,or_false]at hy
   rcases hy with rfl|rfl|rfl
   ·exact ss_word (by decide)
   ·exact iha
   ·exact ihb
 ·intro op params k ho hp _ ih
  have e:fmW (.mk op ⟨#[]⟩ [] params [] [k])=listM [wordM op,listM (paramsW params),fmW k]:=by rcases ho with rfl|rfl<;>rfl
  have hop:wordR op=true:=by rcases ho with rfl|rfl<;>decide
  rw[e]
  refine ss_list fun y hy=>?_
  simp only[List.mem_cons,List.not_mem_nil,or_false]at hy
  rcases hy with rfl|rfl|rfl
  ·exact ss_word hop
  ·exact ss_list (params_ss params hp)
  ·exact ih
theorem validF_iff{f:Fm}:validF f=true↔shapedF f=true∧(fmW f).depth≤32∧(fmW f).nodes≤4096:=by
 constructor
 ·intro h
  have hs:shapedF f=true:=by
   unfold validF at h
   simp only[Bool.and_eq_true]at h
   exact shapedM_F f 0 0 h.1
  unfold validF at h
  simp only[Bool.and_eq_true]at h
  have:=(svalid_iff (fmW f) 0 0 (by omega) (by omega)).1.1 h.2
  exact⟨hs,by omega,by omega⟩
 ·rintro ⟨hs,hd,hn⟩
  unfold validF
  rw[(shaped_of f hs 0 0 (by omega) (by omega)).1,(svalid_iff (fmW f) 0 0 (by omega) (by omega)).1.2 ⟨fmW_ss f hs,by omega,by omega⟩];try rfl
end Go.Proofs.Ytjlkapgpjamnkaa
namespace Go.Proofs.Ytjlkapgpjamnkaa
open Go.AM
def lookR:List ByteArray→List ByteArray→ByteArray→Option ByteArray
 |n::ns,a::aa,s=>if bEq s n=true then some a else lookR ns aa s
 |_,_,_=>none
def filtR(p:ByteArray→Bool):List ByteArray→List ByteArray→List ByteArray × List ByteArray
 |n::ns,a::aa=>if p n=true then(n::(filtR p ns aa).1,a::(filtR p ns aa).2)else filtR p ns aa
 |_,_=>([],[])
def replR(n a:List ByteArray)(s:ByteArray):ByteArray:=(lookR n a s).getD s
mutual
def bindExR(n a:List ByteArray):Ex→Ex
 | .mk op name v args kids=> .mk op name v (args.map (replR n a)) (bindExsR n a kids)
def bindExsR(n a:List ByteArray):List Ex→List Ex
 |[]=>[]
 |k::l=>bindExR n a k::bindExsR n a l
end
def toM(n a:List ByteArray)(s:ByteArray):Option ByteArray:=lookR (filtR varB n a).1 (filtR varB n a).2 s
section
variable {to:ByteArray→Option ByteArray}
mutual
theorem bindEx_eqR{bound n a:List ByteArray}(h: ∀ s,replS to bound s=replR n a s): ∀ e:Ex,bindEx to bound e=bindExR n a e
 | .mk _ _ _ args kids=>by
  simp only[bindEx,bindExR,bindExs_eqR h kids]
  rw[show replS to bound=replR n a from funext h]
theorem bindExs_eqR{bound n a:List ByteArray}(h: ∀ s,replS to bound s=replR n a s): ∀ l:List Ex,bindExs to bound l=bindExsR n a l
 |[]=>rfl
 |k::l=>by simp only[bindExs,bindExsR,bindEx_eqR h k,bindExs_eqR h l]
end
end
end Go.Proofs.Ytjlkapgpjamnkaa
namespace Go.Proofs.Ytjlkapgpjamnkaa
open Go.AM
set_option maxHeartbeats 4000000
set_option maxRecDepth 20000
theorem app_own{h:Heap}{z bytes id m:Nat}{rows rN:List (List PV)}{pN:PV}(ho:h.obj id=some (.arr z rows))(hm:m=rows.length)(hy:Sl h z pN rN)(hz:0<z)(hb:0<bytes)(hl:(rows.length+rN.length)*bytes≤140737488355328):
  app z bytes h (.own id 0 m) pN=some (.own h.next 0 (rows.length+rN.length),(h.kill id).new (.arr z (rows++rN))):=by
 subst hm
 have h1:zOk h z (.own id 0 rows.length)=true:=by simp[zOk,ho]
 have h2:=hy.zk
 have h3:=hy.vw
 have h4:isTail h (.own id 0 rows.length)=some (h.kill id,rows):=by simp[isTail,ho]
 simp[app,h1,h2,h3,h4,hz,hb,hl]
theorem does_app{P:Program}{ow:Nat→Bool}{d:Nat}{x y:Operand}{t ty:TypeId}{pos:String}{af:Array Edge}{gd:Option (Nat × Bool)}{ρ:Operand→PV}{h h':Heap}{v px py:PV}{z b:Nat}(ht:elT P t=some (z,b))(hx:ρ x=px)(hy:ρ y=py)(ha:app z b h px py=some (v,h')):
  Does P ow {dst:=some d,op:= .call {callee:= .builtin .append,args:= #[x,y],argTypes:= #[t,t]},type:=ty,pos:=pos,after:=af,guard:=gd} ρ h v h':=by
 subst hx;subst hy
 simp[Does,callee,eff,ht,ha]
theorem sl_one{h:Heap}{z:Nat}{p:PV}{rows:List (List PV)}(hp:Sl h z p rows):oneC p=true:=by
 have hs:=hp.sl
 unfold isSl at hs
 split at hs
 all_goals first|rfl|simp at hs
section
variable {h:Heap}{N k1 k2 k3:Nat}{s t:ByteArray}{n a:List ByteArray}{pN pA:PV}
def hq1(h:Heap)(N k1:Nat)(s:ByteArray):Heap:=Heap.set ⟨h.next+N,h.obj⟩ (h.next+k1) (.arr 1 [[sPV s]])
def hq2(h:Heap)(N k1:Nat)(s:ByteArray)(n:List ByteArray):Heap:=((hq1 h N k1 s).kill (h.next+k1)).new (.arr 1 ([[sPV s]]++strRows n))
def hq3(h:Heap)(N k1 k2:Nat)(s t:ByteArray)(n:List ByteArray):Heap:=(hq2 h N k1 s n).set (h.next+k2) (.arr 1 [[sPV t]])
def hq4(h:Heap)(N k1 k2:Nat)(s t:ByteArray)(n a:List ByteArray):Heap:=((hq3 h N k1 k2 s t n).kill (h.next+k2)).new (.arr 1 ([[sPV t]]++strRows a))
def hq5(h:Heap)(N k1 k2 k3:Nat)(s t:ByteArray)(n a:List ByteArray):Heap:=(hq4 h N k1 k2 s t n a).set (h.next+k3) (.arr 2 [[.sc (.slice none 0 0),.sc (.slice none 0 0)]])
def hq6(h:Heap)(N k1 k2 k3:Nat)(s t:ByteArray)(n a:List ByteArray):Heap:=(hq5 h N k1 k2 k3 s t n a).set (h.next+k3) (.arr 2 [[.own (h.next+N) 0 (1+n.length),.own (h.next+N+1) 0 (1+a.length)]])
theorem hq1_grow:Grow h (hq1 h N k1 s):=Grow.set (h':=⟨h.next+N,h.obj⟩) ⟨Nat.le_add_right _ _,fun _ _=>rfl⟩ (Nat.le_add_right _ _) _
theorem hq2_grow:Grow h (hq2 h N k1 s n):=(hq1_grow.kill (Nat.le_add_right _ _)).new _
theorem hq3_grow:Grow h (hq3 h N k1 k2 s t n):=hq2_grow.set (Nat.le_add_right _ _) _
theorem hq4_grow:Grow h (hq4 h N k1 k2 s t n a):=(hq3_grow.kill (Nat.le_add_right _ _)).new _
theorem hq6_grow:Grow h (hq6 h N k1 k2 k3 s t n a):=(hq4_grow.set (Nat.le_add_right _ _) _).set (Nat.le_add_right _ _) _
theorem hq1_none(hwf:Wf h){q:Nat}(h1:q≠k1):(hq1 h N k1 s).obj (h.next+q)=none:=by
 have:h.obj (h.next+q)=none:=by
  cases ho:h.obj (h.next+q)with
  |none=>rfl
  |some o=>have:=hwf _ (by rw[ho];try rfl);omega
 simp[hq1,Heap.set,this,h1]
theorem hq2_none(hwf:Wf h){q:Nat}(h1:q≠k1)(h2:q<N):(hq2 h N k1 s n).obj (h.next+q)=none:=by
 have:=hq1_none (N:=N) (s:=s) hwf h1
 simp only[hq2,Heap.new,Heap.kill,this]
 simp only[hq1,Heap.set]
 rw[if_neg (by omega),if_neg (by omega)]
theorem hq3_none(hwf:Wf h){q:Nat}(h1:q≠k1)(h2:q<N)(h3:q≠k2):(hq3 h N k1 k2 s t n).obj (h.next+q)=none:=by
 have:=hq2_none (n:=n) (s:=s) hwf h1 h2
 simp only[hq3,Heap.set,this]
 rw[if_neg (by omega)]
theorem hq4_none(hwf:Wf h){q:Nat}(h1:q≠k1)(h2:q<N)(h3:q≠k2):(hq4 h N k1 k2 s t n a).obj (h.next+q)=none:=by
 have:=hq3_none (n:=n) (s:=s) (t:=t) hwf h1 h2 h3
 simp only[hq4,Heap.new,Heap.kill,this]
 simp only[hq3,hq2,hq1,Heap.set,Heap.new,Heap.kill]
 rw[if_neg (by omega),if_neg (by omega)]
theorem wfq_set{h:Heap}(w:Wf h){id:Nat}{o:AObj}(hid:id<h.next):Wf (h.set id o):=fun j hj=>by
 simp only[Heap.set]at hj⊢
 split at hj
 ·omega
 ·exact w j hj
theorem wfq_kill{h:Heap}(w:Wf h){id:Nat}:Wf (h.kill id):=fun j hj=>by
 simp only[Heap.kill]at hj⊢
 split at hj
 ·simp at hj
 ·exact w j hj
theorem wfq_new{h:Heap}(w:Wf h){o:AObj}:Wf (h.new o):=fun j hj=>by
 simp only[Heap.new]at hj⊢
 split at hj
 ·omega
 ·have:=w j hj;omega
theorem hq6_wf(hwf:Wf h)(h1:k1<N)(h2:k2<N)(h3:k3<N):Wf (hq6 h N k1 k2 k3 s t n a):=by
 have w0:Wf ⟨h.next+N,h.obj⟩:=fun j hj=>Nat.lt_of_lt_of_le (hwf j hj) (Nat.le_add_right _ _)
 have w2:Wf (hq2 h N k1 s n):=wfq_new (wfq_kill (wfq_set w0 (by show h.next+k1<h.next+N;omega)))
 have w4:Wf (hq4 h N k1 k2 s t n a):=wfq_new (wfq_kill (wfq_set w2 (by show h.next+k2<h.next+N+1;omega)))
 exact wfq_set (wfq_set w4 (by show h.next+k3<h.next+N+1+1;omega)) (by show h.next+k3<h.next+N+1+1;omega)
theorem hq2_app(hwf:Wf h)(hp:Sl h 1 pN (strRows n))(hl:n.length≤1099511627776):app 1 16 (hq1 h N k1 s) (.own (h.next+k1) 0 1) pN=some (.own (h.next+N) 0 (1+n.length),hq2 h N k1 s n):=by
 have hy:Sl (hq1 h N k1 s) 1 pN (strRows n):=hp.up hwf ⟨hq1_grow.le,hq1_grow.old⟩
 have:=app_own (h:=hq1 h N k1 s) (id:=h.next+k1) (rows:=[[sPV s]]) (m:=1) (bytes:=16) (by simp[hq1,Heap.set]) rfl hy (by omega) (by omega) (by rw[strRows_len];simp only[List.length_cons,List.length_nil];omega)
 rw[strRows_len]at this
 exact this
theorem hq4_app(hwf:Wf h)(hq:Sl h 1 pA (strRows a))(hl:a.length≤1099511627776)(hk:k2<N):app 1 16 (hq3 h N k1 k2 s t n) (.own (h.next+k2) 0 1) pA=some (.own (h.next+N+1) 0 (1+a.length),hq4 h N k1 k2 s t n a):=by
 have hy:Sl (hq3 h N k1 k2 s t n) 1 pA (strRows a):=hq.up hwf ⟨hq3_grow.le,hq3_grow.old⟩
 have:=app_own (h:=hq3 h N k1 k2 s t n) (id:=h.next+k2) (rows:=[[sPV t]]) (m:=1) (bytes:=16) (by simp[hq3,Heap.set]) rfl hy (by omega) (by omega) (by rw[strRows_len];simp only[List.length_cons,List.length_nil];omega)
 rw[strRows_len]at this
 exact this
theorem hq6_var:(hq6 h N k1 k2 k3 s t n a).obj (h.next+k3)=some (.arr 2 [[.own (h.next+N) 0 (1+n.length),.own (h.next+N+1) 0 (1+a.length)]]):=by simp[hq6,Heap.set]
theorem hq6_n(h1:k1<N)(h2:k2<N)(h3:k3<N):Sl (hq6 h N k1 k2 k3 s t n a) 1 (.own (h.next+N) 0 (1+n.length)) (strRows (s::n)):=by
 have ho:(hq6 h N k1 k2 k3 s t n a).obj (h.next+N)=some (.arr 1 (strRows (s::n))):=by
  have e1:¬ N=k3:=by omega
  have e2:¬ N=k2:=by omega
  simp[hq6,hq5,hq4,hq3,hq2,hq1,Heap.set,Heap.new,Heap.kill,strRows,e1,e2]
 have:=Sl.own0 ho
 rw[strRows_len,List.length_cons,Nat.add_comm n.length]at this
 exact this
theorem hq6_a(h1:k1<N)(h2:k2<N)(h3:k3<N):Sl (hq6 h N k1 k2 k3 s t n a) 1 (.own (h.next+N+1) 0 (1+a.length)) (strRows (t::a)):=by
 have ho:(hq6 h N k1 k2 k3 s t n a).obj (h.next+N+1)=some (.arr 1 (strRows (t::a))):=by
  have e1:¬ h.next+N+1=h.next+k3:=by omega
  simp[hq6,hq5,hq4,hq3,hq2,hq1,Heap.set,Heap.new,Heap.kill,strRows,e1]
 have:=Sl.own0 ho
 rw[strRows_len,List.length_cons,Nat.add_comm a.length]at this
 exact this
end
theorem a_genM{P:Program}{ow:Nat→Bool}{wf:FuncId→Bool}{n:Nat}{Q:Post}{s:Slots}{h:Heap}{c:Code}(I:Slots→Heap→Prop)(hi:I s h)(hh: ∀ s h,I s h→awp P ow wf n c Q s h):awp P ow wf n c Q s h:=hh _ _ hi
def objA:ByteArray:=⟨#[97]⟩
def objB:ByteArray:=⟨#[98]⟩
abbrev Bnd:=List ByteArray × List ByteArray
def intpM(seed:Int):Intp Bnd where
 A:=fun name args e=>(mixN seed (name::args.map (replR e.1 e.2))).tmod 2==1
 S:=fun args e=>match args.map (replR e.1 e.2)with
  |[x,y]=>bEq x y
  |_=>false
 V:=fun x e=>valM seed (bindEx (toM e.1 e.2) [] x)
 a:=fun p e=>(p.name::e.1,objA::e.2)
 b:=fun p e=>(p.name::e.1,objB::e.2)
structure BOk(m:Nat)(n a:List ByteArray):Prop where
 nl:n.length+m≤1099511627776
 al:a.length+m≤1099511627776
 ns: ∀ s∈n,s.size≤bigN
 az: ∀ s∈a,s.size≤bigN
theorem BOk.push{m:Nat}{n a:List ByteArray}(h:BOk (m+1) n a){s t:ByteArray}(hs:s.size≤bigN)(ht:t.size≤bigN):BOk m (s::n) (t::a):=by
 obtain⟨h1,h2,h3,h4⟩:=h
 refine⟨by simp only[List.length_cons];omega,by simp only[List.length_cons];omega,fun x hx=>?_,fun x hx=>?_⟩
 ·rcases List.mem_cons.1 hx with rfl|hx
  ·exact hs
  ·exact h3 x hx
 ·rcases List.mem_cons.1 hx with rfl|hx
  ·exact ht
  ·exact h4 x hx
theorem BOk.le{m k:Nat}{n a:List ByteArray}(h:BOk m n a)(hk:k≤m):BOk k n a:=⟨by have:=h.nl;omega,by have:=h.al;omega,h.ns,h.az⟩
theorem quantM_cons{seed:Int}{all:Bool}{g:Bnd→Bool}{p:Pm}{l:List Pm}{n a:List ByteArray}:quantT (intpM seed) all g (p::l) (n,a)=if all=true then quantT (intpM seed) all g l (p.name::n,objA::a)&&quantT (intpM seed) all g l (p.name::n,objB::a)else quantT (intpM seed) all g l (p.name::n,objA::a)||quantT (intpM seed) all g l (p.name::n,objB::a):=rfl
theorem quantified_c{op:ByteArray}{params:List Pm}{k:Fm}{seed:Int}{all:Bool}{c:Nat}(hall:(op.data.toList==(#[102,111,114,97,108,108]:Array UInt8).toList)=all)(hps: ∀ p∈params,p.name.size≤bigN)(hpl:params.length≤1048576)(g:Bnd→Bool)
  (hg: ∀ {n a:List ByteArray}{pN pA:PV}{h:Heap},BOk c n a→Sl h 1 pN (strRows n)→Sl h 1 pA (strRows a)→PCall Try.prog 27 [.agg k.cells,.agg [pN,pA],.sc (.int .u32 seed)] h fun r h'=>r= .sc (.bool (g (n,a)))∧h'=h):
  ∀ (m i:Nat),i+m=params.length→ ∀ {n a:List ByteArray}{pN pA:PV}{h:Heap},BOk (c+m) n a→Sl h 1 pN (strRows n)→Sl h 1 pA (strRows a)→
   PCall Try.prog 69 [.agg (Fm.mk op ⟨#[]⟩ [] params [] [k]).cells,.sc (.int .i64 i),.agg [pN,pA],.sc (.int .u32 seed)] h fun r h'=>r= .sc (.bool (quantT (intpM seed) all g (params.drop i) (n,a)))∧h'=h
 |0,i,hi,n,a,pN,pA,h,hB,hp,hq=>by
  have hie:i=params.length:=by omega
  subst hie
  have hlP:(pmRows params).length=params.length:=by simp[pmRows]
  have hc:=hg (h:=h) hB hp hq
  rw[List.drop_length]
  simp only[quantT]
  clear hg hB
  obtain⟨ko,kn,ka,kp,ke,kk⟩:=k
  simp only[Fm.cells,Fm.rows]at hc⊢
  generalize g (n,a)=gv at hc
  have u1:((1:Nat):Int)=1:=rfl
  have o1:=sl_one hp
  have o2:=sl_one hq
  refine pcall_body (ow:=fun t=>t==37||t==41||t==52||t==56) (wf:=fun _=>false) Ty.mixed Try.func69 rfl Ty.hb_69 (by rw[Try.ntmps69];simp) ?_
  rw[Try.ntmps69,Try.results69]
  repeat'(first|refine a_seq fun K hK=>?_|((first|refine a_regionS ?_|refine a_drawS (by decide+kernel) ?_);simp(maxSteps:=2000000) only[Ty.w,simprocAttr,hlP,u1,beq_self_eq_true,o1,o2,Bool.and_self])|(refine hK _ _ ?_;clear hK;try simp only[pst0,simprocAttr]))
  (first|refine a_dcall0 (hc) (by(try simp only[Ty.w,simprocAttr,hlP,u1,beq_self_eq_true]);try rfl) ?_|refine a_dcallA (hc) (by(try simp only[Ty.w,simprocAttr,hlP,u1,beq_self_eq_true]);try rfl) (by simp only[Ty.w,simprocAttr,hlP,u1,beq_self_eq_true];try trivial) ?_);simp(maxSteps:=2000000) only[Ty.w,simprocAttr,Option.getD_some,hlP,u1,beq_self_eq_true]
  repeat'(first|(refine a_ret ?_;simp(maxSteps:=2000000) only[Ty.w,simprocAttr,hlP])|(refine hK _ _ ?_;clear hK;try simp only[pst0,simprocAttr]))
  trace_state
 |m+1,i,hi,n,a,pN,pA,h,hB,hp,hq=>by
  obtain⟨p,hx⟩: ∃ p,params[i]? =some p:=⟨_,List.getElem?_eq_getElem (by omega)⟩
  have hpm:=hps p (List.mem_of_getElem? hx)
  have rec1:=fun{pN pA:PV}{h:Heap}=>quantified_c hall hps hpl g hg m (i+1) (by omega) (pN:=pN) (pA:=pA) (h:=h) (BOk.push (by rw[Nat.add_assoc];exact hB) hpm (show objA.size≤bigN by decide))
  have rec2:=fun{pN pA:PV}{h:Heap}=>quantified_c hall hps hpl g hg m (i+1) (by omega) (pN:=pN) (pA:=pA) (h:=h) (BOk.push (by rw[Nat.add_assoc];exact hB) hpm (show objB.size≤bigN by decide))
  refine pcall_wf Ty.hb_69 fun hwf=>?_
  refine PCall.quiet Ty.hb_69 ?_
  rw[drop_get hx,quantM_cons]
  have hlP:(pmRows params).length=params.length:=pmRows_len _
  have hrp:=pmRows_get hx
  have e1:((i:Int)==(params.length:Int))=false:=by simp;omega
  have e2:((i:Int)=(params.length:Int))=False:=by simp;omega
  have o1:=sl_one hp
  have o2:=sl_one hq
  generalize quantT (intpM seed) all g (params.drop (i+1)) (p.name::n,objA::a)=x at rec1⊢
  generalize quantT (intpM seed) all g (params.drop (i+1)) (p.name::n,objB::a)=y at rec2⊢
  clear hg
  obtain⟨ko,kn,ka,kp,ke,kk⟩:=k
  simp only[Fm.cells,Fm.rows]at rec1 rec2⊢
  refine pcall_body (ow:=fun t=>t==37||t==41||t==52||t==56) (wf:=fun _=>false) Ty.mixed Try.func69 rfl Ty.hb_69 (by rw[Try.ntmps69];simp) ?_
  rw[Try.ntmps69,Try.results69]
  repeat'(first|refine a_seq fun K hK=>?_|(refine a_regionS ?_;simp(maxSteps:=2000000) only[Ty.w,simprocAttr,hlP,e1,e2,o1,o2,Bool.and_self])|(refine a_skip ?_;try simp only[pst0,simprocAttr])|(refine a_cond _ (by(try simp(maxSteps:=2000000) only[Ty.w,simprocAttr,hlP,e1,e2,o1,o2,Bool.and_self]);rfl) (fun hb=>?_) (fun hb=>?_)<;>(try simp only[hb0,decide_eq_true_eq,decide_eq_false_iff_not,simprocAttr]at hb)<;>(try(exfalso;omega)))|(refine hK _ _ ?_;clear hK;try simp only[pst0,simprocAttr]))
  refine a_draw4S [(6,6),(10,10),(15,15),(16,15)] [9,13] (by decide+kernel) (by decide+kernel) ?_
  refine d4_quiet _ rfl rfl (by decide) rfl rfl (fun H=>by(try simp(maxSteps:=2000000) only[Ty.w,simprocAttr,Ty.all,hrp]);first|rfl|exact⟨rfl,rfl⟩) ?_
  refine d4_quiet _ rfl rfl (by decide) rfl rfl (fun H=>by(try simp(maxSteps:=2000000) only[Ty.w,simprocAttr,Ty.all,hrp]);first|rfl|exact⟨rfl,rfl⟩) ?_
  refine d4_quiet _ rfl rfl (by decide) rfl rfl (fun H=>by(try simp(maxSteps:=2000000) only[Ty.w,simprocAttr,Ty.all,hrp]);first|rfl|exact⟨rfl,rfl⟩) ?_
  refine d4_quiet _ rfl rfl (by decide) rfl rfl (fun H=>by(try simp(maxSteps:=2000000) only[Ty.w,simprocAttr,Ty.all,hrp]);first|rfl|exact⟨rfl,rfl⟩) ?_
  refine d4_quiet _ rfl rfl (by decide) rfl rfl (fun H=>by(try simp(maxSteps:=2000000) only[Ty.w,simprocAttr,Ty.all,hrp]);first|rfl|exact⟨rfl,rfl⟩) ?_
  refine d4_quiet _ rfl rfl (by decide) rfl rfl (fun H=>by(try simp(maxSteps:=2000000) only[Ty.w,simprocAttr,Ty.all,hrp]);first|rfl|exact⟨rfl,rfl⟩) ?_
  refine d4_new rfl rfl (by decide) rfl rfl rfl (by simp(maxSteps:=2000000) only[aop,Heap.new,if_true,List.isEmpty_cons,Bool.false_eq_true,if_false,Option.any_some,beq_self_eq_true,Bool.or_true,Bool.true_or,Ty.w,simprocAttr,Ty.all];first|rfl|exact⟨rfl,rfl⟩) ?_
  refine d4_quiet _ rfl rfl (by decide) rfl rfl (fun H=>by(try simp(maxSteps:=2000000) only[Ty.w,simprocAttr,Ty.all,hrp]);first|rfl|exact⟨rfl,rfl⟩) ?_
  refine d4_quiet _ rfl rfl (by decide) rfl rfl (fun H=>by(try simp(maxSteps:=2000000) only[Ty.w,simprocAttr,Ty.all,hrp]);first|rfl|exact⟨rfl,rfl⟩) ?_
  refine d4_br (h':=hq2 h 17 6 p.name n) (v:= .own (h.next+17) 0 (1+n.length)) (kl:=[10,15]) (la:=[10,15]) rfl rfl (by decide) rfl rfl (by decide+kernel) (by decide+kernel) (does_app Ty.elT_24 (by simp only[Ty.w,simprocAttr];try rfl) (by simp only[Ty.w,simprocAttr];try rfl) (hq2_app hwf hp (by have:=hB.nl;omega))) ?_ ?_ ?_
  ·simp only[List.forall_mem_cons]
   exact⟨⟨hq1_none hwf (by decide),hq2_none hwf (by decide) (by decide)⟩,⟨hq1_none hwf (by decide),hq2_none hwf (by decide) (by decide)⟩,fun _ h=>by simp at h⟩
  ·simp only[List.forall_mem_cons]
   exact⟨hq2_none hwf (by decide) (by decide),hq2_none hwf (by decide) (by decide),fun _ h=>by simp at h⟩
  refine d4_new rfl rfl (by decide) rfl rfl rfl (by simp(maxSteps:=2000000) only[aop,Heap.new,if_true,List.isEmpty_cons,Bool.false_eq_true,if_false,Option.any_some,beq_self_eq_true,Bool.or_true,Bool.true_or,Ty.w,simprocAttr,Ty.all];first|rfl|exact⟨rfl,rfl⟩) ?_
  refine d4_quiet _ rfl rfl (by decide) rfl rfl (fun H=>by(try simp(maxSteps:=2000000) only[Ty.w,simprocAttr,Ty.all,hrp]);first|rfl|exact⟨rfl,rfl⟩) ?_
  refine d4_quiet _ rfl rfl (by decide) rfl rfl (fun H=>by(try simp(maxSteps:=2000000) only[Ty.w,simprocAttr,Ty.all,hrp]);first|rfl|exact⟨rfl,rfl⟩) ?_
  refine d4_br (h':=hq4 h 17 6 10 p.name objA n a) (v:= .own (h.next+17+1) 0 (1+a.length)) (kl:=[15]) (la:=[15]) rfl rfl (by decide) rfl rfl (by decide+kernel) (by decide+kernel) (does_app Ty.elT_24 (by simp only[Ty.w,simprocAttr];try rfl) (by simp only[Ty.w,simprocAttr];try rfl) (hq4_app hwf hq (by have:=hB.al;omega) (by decide))) ?_ ?_ ?_
  ·simp only[List.forall_mem_cons]
   exact⟨⟨hq3_none hwf (by decide) (by decide) (by decide),hq4_none hwf (by decide) (by decide) (by decide)⟩,fun _ h=>by simp at h⟩
  ·simp only[List.forall_mem_cons]
   exact⟨hq4_none hwf (by decide) (by decide) (by decide),fun _ h=>by simp at h⟩
  refine d4_quiet _ rfl rfl (by decide) rfl rfl (fun H=>by(try simp(maxSteps:=2000000) only[Ty.w,simprocAttr,Ty.all,hrp]);first|rfl|exact⟨rfl,rfl⟩) ?_
  refine d4_new rfl rfl (by decide) rfl rfl rfl (by simp(maxSteps:=2000000) only[aop,Heap.new,if_true,List.isEmpty_cons,Bool.false_eq_true,if_false,Option.any_some,beq_self_eq_true,Bool.or_true,Bool.true_or,Ty.w,simprocAttr,Ty.all];first|rfl|exact⟨rfl,rfl⟩) ?_
  refine d4_store (q:=15) rfl rfl rfl (by decide) rfl (by(try simp(maxSteps:=2000000) only[Ty.w,simprocAttr,Ty.all,hrp]);rfl) (by(try simp(maxSteps:=2000000) only[Ty.w,simprocAttr,Ty.all,hrp]);first|rfl|exact⟨rfl,rfl⟩) (by decide+kernel) ?_
  refine d4_end ?_
  refine hK _ _ ?_
  clear hK
  have f1:=hq6_var (h:=h) (N:=17) (k1:=6) (k2:=10) (k3:=15) (s:=p.name) (t:=objA) (n:=n) (a:=a)
  have f2:=hq6_n (h:=h) (N:=17) (k1:=6) (k2:=10) (k3:=15) (s:=p.name) (t:=objA) (n:=n) (a:=a) (by decide) (by decide) (by decide)
  have f3:=hq6_a (h:=h) (N:=17) (k1:=6) (k2:=10) (k3:=15) (s:=p.name) (t:=objA) (n:=n) (a:=a) (by decide) (by decide) (by decide)
  have f4:=hq6_wf (N:=17) (k1:=6) (k2:=10) (k3:=15) (s:=p.name) (t:=objA) (n:=n) (a:=a) hwf (by decide) (by decide) (by decide)
  have f5:=hq6_grow (h:=h) (N:=17) (k1:=6) (k2:=10) (k3:=15) (s:=p.name) (t:=objA) (n:=n) (a:=a)
  refine a_genM (fun S H=>S 1= .sc (.int .i64 i)∧S 3= .sc (.int .u32 seed)∧S 4= .cptr [sPV op,sPV ⟨#[]⟩,.imm 1 (strRows []),.imm 2 (pmRows params),.imm 5 (Ex.rows []),.imm 6 [[sPV ko,sPV kn,.imm 1 (strRows ka),.imm 2 (pmRows kp),.imm 5 (Ex.rows ke),.imm 6 (Fm.rows kk)]]]∧S 6= .cptr [pN,pA]∧ ∃ b u v,S 9= .ptr b 0 0∧H.obj b=some (.arr 2 [[u,v]])∧b<H.next∧Sl H 1 u (strRows (p.name::n))∧Sl H 1 v (strRows (objA::a))∧Wf H∧Grow h H) ⟨by simp only[Ty.w,simprocAttr],by simp only[Ty.w,simprocAttr],by simp only[Ty.w,simprocAttr],by simp only[Ty.w,simprocAttr],h.next+15,_,_,by simp only[Ty.w,simprocAttr],f1,f4 _ (by rw[f1];try rfl),f2,f3,f4,f5⟩ ?_
  rintro S H ⟨g1,g3,g4,g6,b,u,v,g9,ob,hb,su,sv,wH,gr⟩
  clear f1 f2 f3 f4 f5
  have hpH:=hp.up hwf ⟨gr.le,gr.old⟩
  have hqH:=hq.up hwf ⟨gr.le,gr.old⟩
  repeat' refine a_seq fun K hK=>?_
  refine a_draw4S [(6,6),(10,10),(15,15),(16,15)] [9,13] (by decide+kernel) (by decide+kernel) ?_
  refine d4_quiet _ rfl rfl (by decide) rfl rfl (fun H=>by(try simp(maxSteps:=2000000) only[Ty.w,simprocAttr,Ty.all,hrp,g1,g3,g4,g6]);first|rfl|exact⟨rfl,rfl⟩) ?_
  refine d4_quiet _ rfl rfl (by decide) rfl rfl (fun H=>by(try simp(maxSteps:=2000000) only[Ty.w,simprocAttr,Ty.all,hrp,g1,g3,g4,g6]);first|rfl|exact⟨rfl,rfl⟩) ?_
  refine d4_quiet _ rfl rfl (by decide) rfl rfl (fun H=>by(try simp(maxSteps:=2000000) only[Ty.w,simprocAttr,Ty.all,hrp,g1,g3,g4,g6]);first|rfl|exact⟨rfl,rfl⟩) ?_
  refine d4_quiet _ rfl rfl (by decide) rfl rfl (fun H=>by(try simp(maxSteps:=2000000) only[Ty.w,simprocAttr,Ty.all,hrp,g1,g3,g4,g6]);first|rfl|exact⟨rfl,rfl⟩) ?_
  refine d4_quiet _ rfl rfl (by decide) rfl rfl (fun H=>by(try simp(maxSteps:=2000000) only[Ty.w,simprocAttr,Ty.all,hrp,g1,g3,g4,g6]);first|rfl|exact⟨rfl,rfl⟩) ?_
  refine d4_quiet _ rfl rfl (by decide) rfl rfl (fun H=>by(try simp(maxSteps:=2000000) only[Ty.w,simprocAttr,Ty.all,hrp,g1,g3,g4,g6]);first|rfl|exact⟨rfl,rfl⟩) ?_
  refine d4_new rfl rfl (by decide) rfl rfl rfl (by simp(maxSteps:=2000000) only[aop,Heap.new,if_true,List.isEmpty_cons,Bool.false_eq_true,if_false,Option.any_some,beq_self_eq_true,Bool.or_true,Bool.true_or,Ty.w,simprocAttr,Ty.all,g1,g3,g4,g6];first|rfl|exact⟨rfl,rfl⟩) ?_
  refine d4_quiet _ rfl rfl (by decide) rfl rfl (fun H=>by(try simp(maxSteps:=2000000) only[Ty.w,simprocAttr,Ty.all,hrp,g1,g3,g4,g6]);first|rfl|exact⟨rfl,rfl⟩) ?_
  refine d4_quiet _ rfl rfl (by decide) rfl rfl (fun H=>by(try simp(maxSteps:=2000000) only[Ty.w,simprocAttr,Ty.all,hrp,g1,g3,g4,g6]);first|rfl|exact⟨rfl,rfl⟩) ?_
  refine d4_br (h':=hq2 H 17 6 p.name n) (v:= .own (H.next+17) 0 (1+n.length)) (kl:=[10,15]) (la:=[10,15]) rfl rfl (by decide) rfl rfl (by decide+kernel) (by decide+kernel) (does_app Ty.elT_24 (by simp only[Ty.w,simprocAttr,g1,g3,g4,g6];try rfl) (by simp only[Ty.w,simprocAttr,g1,g3,g4,g6];try rfl) (hq2_app wH hpH (by have:=hB.nl;omega))) ?_ ?_ ?_
  ·simp only[List.forall_mem_cons]
   exact⟨⟨hq1_none wH (by decide),hq2_none wH (by decide) (by decide)⟩,⟨hq1_none wH (by decide),hq2_none wH (by decide) (by decide)⟩,fun _ h=>by simp at h⟩
  ·simp only[List.forall_mem_cons]
   exact⟨hq2_none wH (by decide) (by decide),hq2_none wH (by decide) (by decide),fun _ h=>by simp at h⟩
  refine d4_new rfl rfl (by decide) rfl rfl rfl (by simp(maxSteps:=2000000) only[aop,Heap.new,if_true,List.isEmpty_cons,Bool.false_eq_true,if_false,Option.any_some,beq_self_eq_true,Bool.or_true,Bool.true_or,Ty.w,simprocAttr,Ty.all,g1,g3,g4,g6];first|rfl|exact⟨rfl,rfl⟩) ?_
  refine d4_quiet _ rfl rfl (by decide) rfl rfl (fun H=>by(try simp(maxSteps:=2000000) only[Ty.w,simprocAttr,Ty.all,hrp,g1,g3,g4,g6]);first|rfl|exact⟨rfl,rfl⟩) ?_
  refine d4_quiet _ rfl rfl (by decide) rfl rfl (fun H=>by(try simp(maxSteps:=2000000) only[Ty.w,simprocAttr,Ty.all,hrp,g1,g3,g4,g6]);first|rfl|exact⟨rfl,rfl⟩) ?_
  refine d4_br (h':=hq4 H 17 6 10 p.name objB n a) (v:= .own (H.next+17+1) 0 (1+a.length)) (kl:=[15]) (la:=[15]) rfl rfl (by decide) rfl rfl (by decide+kernel) (by decide+kernel) (does_app Ty.elT_24 (by simp only[Ty.w,simprocAttr,g1,g3,g4,g6];try rfl) (by simp only[Ty.w,simprocAttr,g1,g3,g4,g6];try rfl) (hq4_app wH hqH (by have:=hB.al;omega) (by decide))) ?_ ?_ ?_
  ·simp only[List.forall_mem_cons]
   exact⟨⟨hq3_none wH (by decide) (by decide) (by decide),hq4_none wH (by decide) (by decide) (by decide)⟩,fun _ h=>by simp at h⟩
  ·simp only[List.forall_mem_cons]
   exact⟨hq4_none wH (by decide) (by decide) (by decide),fun _ h=>by simp at h⟩
  refine d4_quiet _ rfl rfl (by decide) rfl rfl (fun H=>by(try simp(maxSteps:=2000000) only[Ty.w,simprocAttr,Ty.all,hrp,g1,g3,g4,g6]);first|rfl|exact⟨rfl,rfl⟩) ?_
  refine d4_new rfl rfl (by decide) rfl rfl rfl (by simp(maxSteps:=2000000) only[aop,Heap.new,if_true,List.isEmpty_cons,Bool.false_eq_true,if_false,Option.any_some,beq_self_eq_true,Bool.or_true,Bool.true_or,Ty.w,simprocAttr,Ty.all,g1,g3,g4,g6];first|rfl|exact⟨rfl,rfl⟩) ?_
  refine d4_store (q:=15) rfl rfl rfl (by decide) rfl (by(try simp(maxSteps:=2000000) only[Ty.w,simprocAttr,Ty.all,hrp,g1,g3,g4,g6]);rfl) (by(try simp(maxSteps:=2000000) only[Ty.w,simprocAttr,Ty.all,hrp,g1,g3,g4,g6]);first|rfl|exact⟨rfl,rfl⟩) (by decide+kernel) ?_
  refine d4_end ?_
  refine hK _ _ ?_
  clear hK
  have f1:=hq6_var (h:=H) (N:=17) (k1:=6) (k2:=10) (k3:=15) (s:=p.name) (t:=objB) (n:=n) (a:=a)
  have f2:=hq6_n (h:=H) (N:=17) (k1:=6) (k2:=10) (k3:=15) (s:=p.name) (t:=objB) (n:=n) (a:=a) (by decide) (by decide) (by decide)
  have f3:=hq6_a (h:=H) (N:=17) (k1:=6) (k2:=10) (k3:=15) (s:=p.name) (t:=objB) (n:=n) (a:=a) (by decide) (by decide) (by decide)
  have f4:=hq6_wf (N:=17) (k1:=6) (k2:=10) (k3:=15) (s:=p.name) (t:=objB) (n:=n) (a:=a) wH (by decide) (by decide) (by decide)
  have f5:=hq6_grow (h:=H) (N:=17) (k1:=6) (k2:=10) (k3:=15) (s:=p.name) (t:=objB) (n:=n) (a:=a)
  have kH:Keep H (hq6 H 17 6 10 15 p.name objB n a):=⟨f5.le,f5.old⟩
  refine a_genM (fun S H=>S 1= .sc (.int .i64 i)∧S 3= .sc (.int .u32 seed)∧S 4= .cptr [sPV op,sPV ⟨#[]⟩,.imm 1 (strRows []),.imm 2 (pmRows params),.imm 5 (Ex.rows []),.imm 6 [[sPV ko,sPV kn,.imm 1 (strRows ka),.imm 2 (pmRows kp),.imm 5 (Ex.rows ke),.imm 6 (Fm.rows kk)]]]∧ ∃ b u v c u2 v2,S 9= .ptr b 0 0∧S 10= .ptr c 0 0∧H.obj b=some (.arr 2 [[u,v]])∧H.obj c=some (.arr 2 [[u2,v2]])∧Sl H 1 u (strRows (p.name::n))∧Sl H 1 v (strRows (objA::a))∧Sl H 1 u2 (strRows (p.name::n))∧Sl H 1 v2 (strRows (objB::a))∧Grow h H) ⟨by simp only[Ty.w,simprocAttr,g1],by simp only[Ty.w,simprocAttr,g3],by simp only[Ty.w,simprocAttr,g4],b,u,v,H.next+15,_,_,by simp only[Ty.w,simprocAttr,g9],by simp only[Ty.w,simprocAttr],(f5.old b hb).trans ob,f1,su.up wH kH,sv.up wH kH,f2,f3,gr.trans f5⟩ ?_
  clear f1 f2 f3 f4 f5 kH g1 g3 g4 g6 g9
  rintro S H ⟨g1,g3,g4,b,u,v,c,u2,v2,g9,g10,ob,oc,s1,s2,s3,s4,gr⟩
  have w7:IntKind.i64.wrap ((i:Int)+1)=((i+1:Nat):Int):=by rw[wrap64 (by omega) (by omega)];omega
  have c1:=rec1 s1 s2
  have c2:=rec2 s3 s4
  clear rec1 rec2
  cases all with
  |true=>
   simp only[if_true]
   have W:=And.intro g1 (And.intro g3 (And.intro g4 (And.intro g9 (And.intro g10 (And.intro ob (And.intro oc w7))))))
   repeat'(first|refine a_seq fun K hK=>?_|(refine a_drawS (by decide+kernel) ?_;simp(maxSteps:=2000000) only[Ty.w,simprocAttr,W]))
   (first|refine a_dcall0 (c1) (by(try simp only[Ty.w,simprocAttr,W]);try rfl) ?_|refine a_dcallA (c1) (by(try simp only[Ty.w,simprocAttr,W]);try rfl) (by simp only[Ty.w,simprocAttr,W];try trivial) ?_);simp(maxSteps:=2000000) only[Ty.w,simprocAttr,W,Option.getD_some]
   (first|refine a_dcall0 (c2) (by(try simp only[Ty.w,simprocAttr,W]);try rfl) ?_|refine a_dcallA (c2) (by(try simp only[Ty.w,simprocAttr,W]);try rfl) (by simp only[Ty.w,simprocAttr,W];try trivial) ?_);simp(maxSteps:=2000000) only[Ty.w,simprocAttr,W,Option.getD_some]
   repeat'(first|refine a_seq fun K hK=>?_|((first|refine a_regionS ?_|refine a_ret ?_);simp(maxSteps:=2000000) only[Ty.w,simprocAttr,W,hall])|(with_reducible refine ite_in (fun hb=>?_) (fun hb=>?_)<;>(try simp only[Decidable.not_not]at hb)<;>(try simp only[hb,if_true,if_false,not_false_eq_true,not_true_eq_false, ↓reduceIte])<;>(try simp only[hb0,decide_eq_true_eq,decide_eq_false_iff_not,simprocAttr]at hb)<;>(try(exfalso;omega)))|(refine hK _ _ ?_;clear hK;try simp only[pst0,simprocAttr]))
   all_goals(cases x<;>cases y<;>first|exact⟨rfl,gr⟩|(simp at hb;done))
  |false=>
   simp only[Bool.false_eq_true,if_false]
   have W:=And.intro g1 (And.intro g3 (And.intro g4 (And.intro g9 (And.intro g10 (And.intro ob (And.intro oc w7))))))
   repeat'(first|refine a_seq fun K hK=>?_|(refine a_drawS (by decide+kernel) ?_;simp(maxSteps:=2000000) only[Ty.w,simprocAttr,W]))
   (first|refine a_dcall0 (c1) (by(try simp only[Ty.w,simprocAttr,W]);try rfl) ?_|refine a_dcallA (c1) (by(try simp only[Ty.w,simprocAttr,W]);try rfl) (by simp only[Ty.w,simprocAttr,W];try trivial) ?_);simp(maxSteps:=2000000) only[Ty.w,simprocAttr,W,Option.getD_some]
   (first|refine a_dcall0 (c2) (by(try simp only[Ty.w,simprocAttr,W]);try rfl) ?_|refine a_dcallA (c2) (by(try simp only[Ty.w,simprocAttr,W]);try rfl) (by simp only[Ty.w,simprocAttr,W];try trivial) ?_);simp(maxSteps:=2000000) only[Ty.w,simprocAttr,W,Option.getD_some]
   repeat'(first|refine a_seq fun K hK=>?_|((first|refine a_regionS ?_|refine a_ret ?_);simp(maxSteps:=2000000) only[Ty.w,simprocAttr,W,hall])|(refine a_skip ?_;try simp only[pst0,simprocAttr])|(refine a_cond _ (by(try simp(maxSteps:=2000000) only[Ty.w,simprocAttr,W,hall]);rfl) (fun hb=>?_) (fun hb=>?_)<;>(try simp only[hb0,decide_eq_true_eq,decide_eq_false_iff_not,simprocAttr]at hb)<;>(try(exfalso;omega)))|(with_reducible refine ite_in (fun hb=>?_) (fun hb=>?_)<;>(try simp only[Decidable.not_not]at hb)<;>(try simp only[hb,if_true,if_false,not_false_eq_true,not_true_eq_false, ↓reduceIte])<;>(try simp only[hb0,decide_eq_true_eq,decide_eq_false_iff_not,simprocAttr]at hb)<;>(try(exfalso;omega)))|(refine hK _ _ ?_;clear hK;try simp only[pst0,simprocAttr]))
   all_goals(cases x<;>cases y<;>first|exact⟨rfl,gr⟩|(simp at hb;done))
end Go.Proofs.Ytjlkapgpjamnkaa
namespace Go.Proofs.Ytjlkapgpjamnkaa
open Go.AM
set_option maxHeartbeats 4000000
set_option maxRecDepth 20000
theorem lookR_mem{s t:ByteArray}: ∀ n a:List ByteArray,lookR n a s=some t→t∈a
 |[],_,h=>by simp[lookR]at h
 |_::_,[],h=>by simp[lookR]at h
 |x::n,y::a,h=>by
  simp only[lookR]at h
  split at h
  ·simp only[Option.some.injEq]at h;subst h;simp
  ·exact List.mem_cons.2 (.inr (lookR_mem n a h))
theorem filtR_mem2(p:ByteArray→Bool): ∀ (n a:List ByteArray){s:ByteArray},s∈(filtR p n a).2→s∈a
 |[],_,s,h=>by simp[filtR]at h
 |_::_,[],s,h=>by simp[filtR]at h
 |x::n,y::a,s,h=>by
  simp only[filtR]at h
  split at h
  ·rcases List.mem_cons.1 h with rfl|h
   ·simp
   ·exact List.mem_cons.2 (.inr (filtR_mem2 p n a h))
  ·exact List.mem_cons.2 (.inr (filtR_mem2 p n a h))
theorem toM_mem{n a:List ByteArray}{s t:ByteArray}(h:toM n a s=some t):t∈a:=filtR_mem2 _ _ _ (lookR_mem _ _ h)
section
variable {to:ByteArray→Option ByteArray}
theorem repls_okk(hts: ∀ s t,to s=some t→t.size≤bigN)(bound:List ByteArray){l:List ByteArray}(h: ∀ a∈l,a.size≤bigN): ∀ a∈l.map (replS to bound),a.size≤bigN:=by
 intro a ha
 obtain⟨s,hs,rfl⟩:=List.mem_map.1 ha
 unfold replS
 split
 ·rename_i t ht
  split
  ·exact h s hs
  ·exact hts _ _ ht
 ·exact h s hs
mutual
theorem bindEx_okk(hts: ∀ s t,to s=some t→t.size≤bigN)(bound:List ByteArray): ∀ e:Ex,e.ok→(bindEx to bound e).ok
 | .mk op name n args kids=>fun h=>by
  have h2:=bindExs_okk hts bound kids
  have h5:(bindExs to bound kids).length=kids.length:=by rw[bindExs_map,List.length_map]
  simp only[bindEx,Ex.ok]at h⊢
  obtain⟨a1,a2,a3,⟨a4,a5⟩,a6,a7⟩:=h
  exact⟨a1,a2,a3,⟨by rw[List.length_map];exact a4,repls_okk hts bound a5⟩,by rw[h5];exact a6,h2 a7⟩
theorem bindExs_okk(hts: ∀ s t,to s=some t→t.size≤bigN)(bound:List ByteArray): ∀ l:List Ex,Ex.oks l→Ex.oks (bindExs to bound l)
 |[]=>fun _=>by simp[bindExs,Ex.oks]
 |k::l=>fun h=>by
  simp only[bindExs,Ex.oks]at h⊢
  exact⟨bindEx_okk hts bound k h.1,bindExs_okk hts bound l h.2⟩
end
end
theorem bindEx_same(n a:List ByteArray)(e:Ex):bindEx (toM n a) [] e=bindExR (filtR varB n a).1 (filtR varB n a).2 e:=
 bindEx_eqR (fun s=>by
  unfold replS replR toM
  cases lookR (filtR varB n a).1 (filtR varB n a).2 s<;>simp[memB]) e
end Go.Proofs.Ytjlkapgpjamnkaa
namespace Go.AM
section
variable {P:Program}{f:FuncId}{z:Nat}{h:Heap}{K:PV→Heap→Prop}
theorem RepL.nil_split{β:Env}{n:Nat}{F:Nat→Prop}{w:World}{z:Nat}: ∀ {pre post:List PV}{vals:List Value},RepL β n F w (pre++ .imm z []::post) vals→ ∃ a cap,RepL β n F w (pre++ .sc (.slice a 0 cap)::post) vals
 |[],post,[],h=>by simp[RepL]at h
 |[],post,v::vals,h=>by
  simp only[List.nil_append,RepL,Rep]at h⊢
  obtain⟨⟨a,cap,hv,_⟩,h2⟩:=h
  exact⟨a,cap,by simpa using hv,h2⟩
 |p::pre,post,[],h=>by simp[RepL]at h
 |p::pre,post,v::vals,h=>by
  simp only[List.cons_append,RepL]at h⊢
  obtain⟨a,cap,hx⟩:=RepL.nil_split h.2
  exact⟨a,cap,h.1,hx⟩
theorem PCall.nil_split{pre post:List PV}(h0: ∀ a cap,PCall P f (pre++ .sc (.slice a 0 cap)::post) h K):PCall P f (pre++ .imm z []::post) h K:=by
 intro β w vals sm hr
 obtain⟨a,cap,hx⟩:=RepL.nil_split hr
 exact h0 a cap β w vals sm hx
theorem PCall.nil1(h0: ∀ a cap,PCall P f [.sc (.slice a 0 cap)] h K):PCall P f [.imm z []] h K:=PCall.nil_split (pre:=[]) (post:=[]) h0
theorem peq_none(c:Bool)(cap:Nat):peq 5 c (.sc (.slice none 0 cap)) (.sc (.slice none 0 0))=some true:=rfl
theorem peq_some(c:Bool)(x:Addr)(cap:Nat):peq 5 c (.sc (.slice (some x) 0 cap)) (.sc (.slice none 0 0))=some false:=rfl
theorem view_some(h:Heap)(x:Option Addr)(cap:Nat):view h (.sc (.slice x 0 cap))=some []:=by
 unfold view
 split<;>first|rfl|(simp_all;done)|(simp_all)
theorem zOk_some(h:Heap)(z:Nat)(x:Option Addr)(cap:Nat):zOk h z (.sc (.slice x 0 cap))=true:=by
 unfold zOk
 split<;>first|rfl|(simp_all;done)|(simp_all)
end
end Go.AM
namespace Go.Proofs.Ytjlkapgpjamnkaa
open Go.AM
set_option maxHeartbeats 4000000
set_option maxRecDepth 20000
theorem pms_in(n:Nat)(l:List Pm):inNR n (pmRows l):=by
 induction l with
 |nil=>simp only[pmRows,List.map_nil,inNR]
 |cons a l ih=>simp only[pmRows,List.map_cons,inNR,pmRow,inNL,inN,and_true,true_and]at ih⊢;exact ih
theorem exs_in(n:Nat): ∀ l:List Ex,inNR n (Ex.rows l)
 |[]=>by simp only[Ex.rows,inNR]
 |k::ks=>by simp only[Ex.rows,inNR];exact⟨ex_in n k,exs_in n ks⟩
theorem fm_in(n:Nat): ∀ f:Fm,inNL n f.cells:=by
 refine Fm.ind ?_
 intro op name args params exprs kids ih
 have:inNR n (Fm.rows kids):=by
  clear op name args params exprs
  induction kids with
  |nil=>simp only[Fm.rows,inNR]
  |cons k ks ih2=>
   simp only[Fm.rows,inNR]
   exact⟨ih k (by simp),ih2 fun q hq=>ih q (by simp[hq])⟩
 simp only[Fm.cells,inNL,inN,and_true,true_and]
 exact⟨strs_in n args,pms_in n params,exs_in n exprs,this⟩
theorem fms_in(n:Nat): ∀ l:List Fm,inNR n (Fm.rows l)
 |[]=>by simp only[Fm.rows,inNR]
 |k::ks=>by simp only[Fm.rows,inNR];exact⟨fm_in n k,fms_in n ks⟩
theorem fm_frz(n:Nat)(h:Heap)(f:Fm):FrzL n h f.cells f.cells:=by
 have hi:=fm_in n f
 obtain⟨op,name,args,params,exprs,kids⟩:=f
 simp only[Fm.cells,inNL,inN,and_true,true_and]at hi
 simp only[Fm.cells,FrzL,FrzTo,and_true,true_and]
 exact⟨.inl hi.1,.inl hi.2.1,.inl hi.2.2.1,.inl hi.2.2.2⟩
theorem fms_frz(n:Nat)(h:Heap): ∀ l:List Fm,FrzR n h (Fm.rows l) (Fm.rows l)
 |[]=>by simp only[Fm.rows,FrzR]
 |k::ks=>by simp only[Fm.rows,FrzR];exact⟨fm_frz n h k,fms_frz n h ks⟩
theorem tl_frzF{h:Heap}{id0 n:Nat}{p:PV}{l:List Fm}(hn:n≤id0)(t:Tl h id0 6 p (Fm.rows l)):FrzTo n h (.imm 6 (Fm.rows l)) p:=by
 simp only[FrzTo]
 rcases t with⟨h1,h2⟩|⟨id,h1,h2,rfl,ho⟩
 ·exact .inr (.inl ⟨h1,h2.symm⟩)
 ·refine .inr (.inr ⟨id,0,_,_,rfl,by omega,ho,by omega,?_⟩)
  rw[List.drop_zero,List.take_of_length_le (by omega)]
  exact fms_frz _ _ _
end Go.Proofs.Ytjlkapgpjamnkaa
namespace Go.Proofs.Ytjlkapgpjamnkaa
open Go.AM
set_option maxHeartbeats 4000000
set_option maxRecDepth 20000
theorem a_gen{P:Program}{ow:Nat→Bool}{wf:FuncId→Bool}{n:Nat}{Q:Post}{s:Slots}{h:Heap}{c:Code}(I:Slots→Heap→Prop)(hi:I s h)(hh: ∀ s h,I s h→awp P ow wf n c Q s h):awp P ow wf n c Q s h:=hh _ _ hi
theorem pms_scal(l:List Pm): ∀ r∈pmRows l, ∀ p∈r, ∃ v,p=PV.sc v:=by
 intro r hr p hp
 simp only[pmRows,List.mem_map]at hr
 obtain⟨x,_,rfl⟩:=hr
 simp only[pmRow,List.mem_cons,List.not_mem_nil,or_false]at hp
 rcases hp with rfl|rfl
 ·exact ⟨_,rfl⟩
 ·exact ⟨_,rfl⟩
theorem pms_frzP{h:Heap}{id0:Nat}{p:PV}{l:List Pm}(t:Tl h id0 2 p (pmRows l)):FrzTo id0 h (.imm 2 (pmRows l)) p:=t.frz (pms_scal l)
end Go.Proofs.Ytjlkapgpjamnkaa
namespace Go.Proofs.Ytjlkapgpjamnkaa
open Go.AM
set_option maxHeartbeats 2000000
set_option maxRecDepth 20000
theorem cloneS_c{l:List ByteArray}(hl:l.length≤1099511627776)(h:Heap):PCall Try.prog 139 [.imm 1 (strRows l)] h fun r h'=>Grow h h'∧Tl h' h.next 1 r (strRows l):=by
 have hll:=strRows_len l
 cases l with
 |nil=>
  have e0:strRows []=[]:=rfl
  rw[e0]
  refine PCall.nil1 fun a cap=>?_
  cases a with
  |none=>
   refine pcall_body (ow:=fun _=>false) (wf:=fun _=>false) Ty.mixed Try.func139 rfl Ty.hb_139 (by rw[Try.ntmps139];simp) ?_
   rw[Try.ntmps139,Try.results139]
   repeat'(first|refine a_seq fun K hK=>?_|((first|refine a_regionS ?_|refine a_ret ?_);simp(maxSteps:=2000000) only[Ty.w,simprocAttr,peq_none])|(refine hK _ _ ?_;clear hK;try simp only[pst0,simprocAttr]))
   exact⟨Grow.refl _,Tl.nil⟩
  |some x=>
   refine pcall_body (ow:=fun _=>false) (wf:=fun _=>false) Ty.mixed Try.func139 rfl Ty.hb_139 (by rw[Try.ntmps139];simp) ?_
   rw[Try.ntmps139,Try.results139]
   repeat'(first|refine a_seq fun K hK=>?_|((first|refine a_regionS ?_|refine a_ret ?_);simp(maxSteps:=2000000) only[Ty.w,simprocAttr,peq_some,view_some,zOk_some])|(refine a_skip ?_;try simp only[pst0,simprocAttr])|(refine a_cond _ (by(try simp(maxSteps:=2000000) only[Ty.w,simprocAttr,peq_some,view_some,zOk_some]);rfl) (fun hb=>?_) (fun hb=>?_)<;>(try simp only[hb0,decide_eq_true_eq,decide_eq_false_iff_not,simprocAttr]at hb)<;>(try(exfalso;omega)))|(refine hK _ _ ?_;clear hK;try simp only[pst0,simprocAttr]))
   exact⟨(Grow.refl h).new _,Tl.grow (Nat.le_refl _) rfl⟩
 |cons x l=>
  have h0:(0<(strRows (x::l)).length)=True:=by rw[hll];simp
  have hb:((x::l).length)*16≤140737488355328:=by omega
  have hz:0+(strRows (x::l)).length=(x::l).length:=by omega
  generalize strRows (x::l)=R at hll h0 hz
  refine pcall_body (ow:=fun _=>false) (wf:=fun _=>false) Ty.mixed Try.func139 rfl Ty.hb_139 (by rw[Try.ntmps139];simp) ?_
  rw[Try.ntmps139,Try.results139]
  repeat'(first|refine a_seq fun K hK=>?_|((first|refine a_regionS ?_|refine a_ret ?_);simp(maxSteps:=2000000) only[Ty.w,simprocAttr,h0,hll,hb])|(refine a_skip ?_;try simp only[pst0,simprocAttr])|(refine a_cond _ (by(try simp(maxSteps:=2000000) only[Ty.w,simprocAttr,h0,hll,hb]);rfl) (fun hb=>?_) (fun hb=>?_)<;>(try simp only[hb0,decide_eq_true_eq,decide_eq_false_iff_not,simprocAttr]at hb)<;>(try(exfalso;omega)))|(refine hK _ _ ?_;clear hK;try simp only[pst0,simprocAttr])|(rw[if_pos];rotate_left 1;omega;simp(maxSteps:=2000000) only[Ty.w,simprocAttr,h0,hll,hb]))
  exact⟨(Grow.refl h).new _,Tl.grow (Nat.le_refl _) (by simp[hll])⟩
theorem cloneP_c{l:List Pm}(hl:l.length≤1099511627776)(h:Heap):PCall Try.prog 100 [.imm 2 (pmRows l)] h fun r h'=>Grow h h'∧Tl h' h.next 2 r (pmRows l):=by
 have hll:=pmRows_len l
 cases l with
 |nil=>
  have e0:pmRows []=[]:=rfl
  rw[e0]
  refine PCall.nil1 fun a cap=>?_
  cases a with
  |none=>
   refine pcall_body (ow:=fun _=>false) (wf:=fun _=>false) Ty.mixed Try.func100 rfl Ty.hb_100 (by rw[Try.ntmps100];simp) ?_
   rw[Try.ntmps100,Try.results100]
   repeat'(first|refine a_seq fun K hK=>?_|((first|refine a_regionS ?_|refine a_ret ?_);simp(maxSteps:=2000000) only[Ty.w,simprocAttr,peq_none])|(refine hK _ _ ?_;clear hK;try simp only[pst0,simprocAttr]))
   exact⟨Grow.refl _,Tl.nil⟩
  |some x=>
   refine pcall_body (ow:=fun _=>false) (wf:=fun _=>false) Ty.mixed Try.func100 rfl Ty.hb_100 (by rw[Try.ntmps100];simp) ?_
   rw[Try.ntmps100,Try.results100]
   repeat'(first|refine a_seq fun K hK=>?_|((first|refine a_regionS ?_|refine a_ret ?_);simp(maxSteps:=2000000) only[Ty.w,simprocAttr,peq_some,view_some,zOk_some])|(refine a_skip ?_;try simp only[pst0,simprocAttr])|(refine a_cond _ (by(try simp(maxSteps:=2000000) only[Ty.w,simprocAttr,peq_some,view_some,zOk_some]);rfl) (fun hb=>?_) (fun hb=>?_)<;>(try simp only[hb0,decide_eq_true_eq,decide_eq_false_iff_not,simprocAttr]at hb)<;>(try(exfalso;omega)))|(refine hK _ _ ?_;clear hK;try simp only[pst0,simprocAttr]))
   exact⟨(Grow.refl h).new _,Tl.grow (Nat.le_refl _) rfl⟩
 |cons x l=>
  have h0:(0<(pmRows (x::l)).length)=True:=by rw[hll];simp
  have hb:((x::l).length)*32≤140737488355328:=by omega
  have hz:0+(pmRows (x::l)).length=(x::l).length:=by omega
  generalize pmRows (x::l)=R at hll h0 hz
  refine pcall_body (ow:=fun _=>false) (wf:=fun _=>false) Ty.mixed Try.func100 rfl Ty.hb_100 (by rw[Try.ntmps100];simp) ?_
  rw[Try.ntmps100,Try.results100]
  repeat'(first|refine a_seq fun K hK=>?_|((first|refine a_regionS ?_|refine a_ret ?_);simp(maxSteps:=2000000) only[Ty.w,simprocAttr,h0,hll,hb])|(refine a_skip ?_;try simp only[pst0,simprocAttr])|(refine a_cond _ (by(try simp(maxSteps:=2000000) only[Ty.w,simprocAttr,h0,hll,hb]);rfl) (fun hb=>?_) (fun hb=>?_)<;>(try simp only[hb0,decide_eq_true_eq,decide_eq_false_iff_not,simprocAttr]at hb)<;>(try(exfalso;omega)))|(refine hK _ _ ?_;clear hK;try simp only[pst0,simprocAttr])|(rw[if_pos];rotate_left 1;omega;simp(maxSteps:=2000000) only[Ty.w,simprocAttr,h0,hll,hb]))
  exact⟨(Grow.refl h).new _,Tl.grow (Nat.le_refl _) (by simp[hll])⟩
theorem cloneP_q{l:List Pm}(hl:l.length≤1099511627776)(h:Heap):PCall Try.prog 100 [.imm 2 (pmRows l)] h fun r h'=>r= .imm 2 (pmRows l)∧h'=h:=by
 refine PCall.frz Ty.hb_100 ((cloneP_c hl h).mono ?_)
 rintro r h' ⟨hg,tl⟩
 exact⟨pms_frzP tl,hg⟩
theorem cloneE_c{l:List Ex}(hl:l.length≤1099511627776)(h:Heap):PCall Try.prog 127 [.imm 5 (Ex.rows l)] h fun r h'=>Grow h h'∧Tl h' h.next 5 r (Ex.rows l):=by
 have hll:=Ex.rows_len l
 cases l with
 |nil=>
  have e0:Ex.rows []=[]:=rfl
  rw[e0]
  refine PCall.nil1 fun a cap=>?_
  cases a with
  |none=>
   refine pcall_body (ow:=fun _=>false) (wf:=fun _=>false) Ty.mixed Try.func127 rfl Ty.hb_127 (by rw[Try.ntmps127];simp) ?_
   rw[Try.ntmps127,Try.results127]
   repeat'(first|refine a_seq fun K hK=>?_|((first|refine a_regionS ?_|refine a_ret ?_);simp(maxSteps:=2000000) only[Ty.w,simprocAttr,peq_none])|(refine hK _ _ ?_;clear hK;try simp only[pst0,simprocAttr]))
   exact⟨Grow.refl _,Tl.nil⟩
  |some x=>
   refine pcall_body (ow:=fun _=>false) (wf:=fun _=>false) Ty.mixed Try.func127 rfl Ty.hb_127 (by rw[Try.ntmps127];simp) ?_
   rw[Try.ntmps127,Try.results127]
   repeat'(first|refine a_seq fun K hK=>?_|((first|refine a_regionS ?_|refine a_ret ?_);simp(maxSteps:=2000000) only[Ty.w,simprocAttr,peq_some,view_some,zOk_some])|(refine a_skip ?_;try simp only[pst0,simprocAttr])|(refine a_cond _ (by(try simp(maxSteps:=2000000) only[Ty.w,simprocAttr,peq_some,view_some,zOk_some]);rfl) (fun hb=>?_) (fun hb=>?_)<;>(try simp only[hb0,decide_eq_true_eq,decide_eq_false_iff_not,simprocAttr]at hb)<;>(try(exfalso;omega)))|(refine hK _ _ ?_;clear hK;try simp only[pst0,simprocAttr]))
   exact⟨(Grow.refl h).new _,Tl.grow (Nat.le_refl _) rfl⟩
 |cons x l=>
  have h0:(0<(Ex.rows (x::l)).length)=True:=by rw[hll];simp
  have hb:((x::l).length)*88≤140737488355328:=by omega
  have hz:0+(Ex.rows (x::l)).length=(x::l).length:=by omega
  generalize Ex.rows (x::l)=R at hll h0 hz
  refine pcall_body (ow:=fun _=>false) (wf:=fun _=>false) Ty.mixed Try.func127 rfl Ty.hb_127 (by rw[Try.ntmps127];simp) ?_
  rw[Try.ntmps127,Try.results127]
  repeat'(first|refine a_seq fun K hK=>?_|((first|refine a_regionS ?_|refine a_ret ?_);simp(maxSteps:=2000000) only[Ty.w,simprocAttr,h0,hll,hb])|(refine a_skip ?_;try simp only[pst0,simprocAttr])|(refine a_cond _ (by(try simp(maxSteps:=2000000) only[Ty.w,simprocAttr,h0,hll,hb]);rfl) (fun hb=>?_) (fun hb=>?_)<;>(try simp only[hb0,decide_eq_true_eq,decide_eq_false_iff_not,simprocAttr]at hb)<;>(try(exfalso;omega)))|(refine hK _ _ ?_;clear hK;try simp only[pst0,simprocAttr])|(rw[if_pos];rotate_left 1;omega;simp(maxSteps:=2000000) only[Ty.w,simprocAttr,h0,hll,hb]))
  exact⟨(Grow.refl h).new _,Tl.grow (Nat.le_refl _) (by simp[hll])⟩
theorem cloneE_q{l:List Ex}(hl:l.length≤1099511627776)(h:Heap):PCall Try.prog 127 [.imm 5 (Ex.rows l)] h fun r h'=>r= .imm 5 (Ex.rows l)∧h'=h:=by
 refine PCall.frz Ty.hb_127 ((cloneE_c hl h).mono ?_)
 rintro r h' ⟨hg,tl⟩
 exact⟨tl_frzE (Nat.le_refl _) tl,hg⟩
theorem cloneF_c{l:List Fm}(hl:l.length≤1099511627776)(h:Heap):PCall Try.prog 128 [.imm 6 (Fm.rows l)] h fun r h'=>Grow h h'∧Tl h' h.next 6 r (Fm.rows l):=by
 have hll:=Fm.rows_len l
 cases l with
 |nil=>
  have e0:Fm.rows []=[]:=rfl
  rw[e0]
  refine PCall.nil1 fun a cap=>?_
  cases a with
  |none=>
   refine pcall_body (ow:=fun _=>false) (wf:=fun _=>false) Ty.mixed Try.func128 rfl Ty.hb_128 (by rw[Try.ntmps128];simp) ?_
   rw[Try.ntmps128,Try.results128]
   repeat'(first|refine a_seq fun K hK=>?_|((first|refine a_regionS ?_|refine a_ret ?_);simp(maxSteps:=2000000) only[Ty.w,simprocAttr,peq_none])|(refine hK _ _ ?_;clear hK;try simp only[pst0,simprocAttr]))
   exact⟨Grow.refl _,Tl.nil⟩
  |some x=>
   refine pcall_body (ow:=fun _=>false) (wf:=fun _=>false) Ty.mixed Try.func128 rfl Ty.hb_128 (by rw[Try.ntmps128];simp) ?_
   rw[Try.ntmps128,Try.results128]
   repeat'(first|refine a_seq fun K hK=>?_|((first|refine a_regionS ?_|refine a_ret ?_);simp(maxSteps:=2000000) only[Ty.w,simprocAttr,peq_some,view_some,zOk_some])|(refine a_skip ?_;try simp only[pst0,simprocAttr])|(refine a_cond _ (by(try simp(maxSteps:=2000000) only[Ty.w,simprocAttr,peq_some,view_some,zOk_some]);rfl) (fun hb=>?_) (fun hb=>?_)<;>(try simp only[hb0,decide_eq_true_eq,decide_eq_false_iff_not,simprocAttr]at hb)<;>(try(exfalso;omega)))|(refine hK _ _ ?_;clear hK;try simp only[pst0,simprocAttr]))
   exact⟨(Grow.refl h).new _,Tl.grow (Nat.le_refl _) rfl⟩
 |cons x l=>
  have h0:(0<(Fm.rows (x::l)).length)=True:=by rw[hll];simp
  have hb:((x::l).length)*128≤140737488355328:=by omega
  have hz:0+(Fm.rows (x::l)).length=(x::l).length:=by omega
  generalize Fm.rows (x::l)=R at hll h0 hz
  refine pcall_body (ow:=fun _=>false) (wf:=fun _=>false) Ty.mixed Try.func128 rfl Ty.hb_128 (by rw[Try.ntmps128];simp) ?_
  rw[Try.ntmps128,Try.results128]
  repeat'(first|refine a_seq fun K hK=>?_|((first|refine a_regionS ?_|refine a_ret ?_);simp(maxSteps:=2000000) only[Ty.w,simprocAttr,h0,hll,hb])|(refine a_skip ?_;try simp only[pst0,simprocAttr])|(refine a_cond _ (by(try simp(maxSteps:=2000000) only[Ty.w,simprocAttr,h0,hll,hb]);rfl) (fun hb=>?_) (fun hb=>?_)<;>(try simp only[hb0,decide_eq_true_eq,decide_eq_false_iff_not,simprocAttr]at hb)<;>(try(exfalso;omega)))|(refine hK _ _ ?_;clear hK;try simp only[pst0,simprocAttr])|(rw[if_pos];rotate_left 1;omega;simp(maxSteps:=2000000) only[Ty.w,simprocAttr,h0,hll,hb]))
  exact⟨(Grow.refl h).new _,Tl.grow (Nat.le_refl _) (by simp[hll])⟩
theorem cloneF_q{l:List Fm}(hl:l.length≤1099511627776)(h:Heap):PCall Try.prog 128 [.imm 6 (Fm.rows l)] h fun r h'=>r= .imm 6 (Fm.rows l)∧h'=h:=by
 refine PCall.frz Ty.hb_128 ((cloneF_c hl h).mono ?_)
 rintro r h' ⟨hg,tl⟩
 exact⟨tl_frzF (Nat.le_refl _) tl,hg⟩
end Go.Proofs.Ytjlkapgpjamnkaa
namespace Go.AM
def Cl(h:Heap)(id0 z:Nat)(p:PV)(rows:List (List PV)):Prop:=
 (rows=[]∧p= .imm z [])∨ ∃ id,id0≤id∧id<h.next∧p= .own id 0 rows.length∧h.obj id=some (.arr z rows)
variable {h:Heap}{id0 z:Nat}{p:PV}{rows:List (List PV)}
theorem Cl.sl(t:Cl h id0 z p rows):Sl h z p rows:=by
 rcases t with⟨rfl,rfl⟩|⟨id,_,_,rfl,ho⟩
 ·exact Sl.imm _
 ·exact Sl.own0 ho
theorem Cl.up{h':Heap}(t:Cl h id0 z p rows)(hn:h.next≤h'.next)(ho: ∀ j,id0≤j→j<h.next→h'.obj j=h.obj j):Cl h' id0 z p rows:=by
 rcases t with ht|⟨id,h1,h2,rfl,h3⟩
 ·exact .inl ht
 ·exact .inr ⟨id,h1,by omega,rfl,by rw[ho id h1 h2];exact h3⟩
theorem Cl.keep{h':Heap}(t:Cl h id0 z p rows)(hn:h.next≤h'.next)(ho: ∀ j,p= .own j 0 rows.length→j<h.next→h'.obj j=h.obj j):Cl h' id0 z p rows:=by
 rcases t with ht|⟨id,h1,h2,rfl,h3⟩
 ·exact .inl ht
 ·exact .inr ⟨id,h1,by omega,rfl,by rw[ho id rfl h2];exact h3⟩
theorem Cl.low{a:Nat}(t:Cl h a z p rows)(hab:id0≤a):Cl h id0 z p rows:=by
 rcases t with ht|⟨id,h1,h2,h3,h4⟩
 ·exact .inl ht
 ·exact .inr ⟨id,by omega,h2,h3,h4⟩
theorem Cl.grow{H:Heap}{len:Nat}(hn:id0≤H.next)(hl:len=rows.length):Cl (H.new (.arr z rows)) id0 z (.own H.next 0 len) rows:=
 .inr ⟨H.next,hn,Nat.lt_succ_self _,by rw[hl],by rw[new_obj,if_pos rfl]⟩
theorem Cl.pc(t:Cl h id0 z p rows):p.cells=[p]∧oneC p=true:=by
 rcases t with⟨_,rfl⟩|⟨_,_,_,rfl,_⟩<;>exact⟨rfl,rfl⟩
theorem Cl.frz{n:Nat}(t:Cl h id0 z p rows)(hf:Tl h id0 z p rows→FrzTo n h (.imm z rows) p):FrzTo n h (.imm z rows) p:=by
 rcases t with⟨rfl,rfl⟩|ht
 ·simp only[FrzTo]
  exact .inl ⟨trivial,by simp only[inNR]⟩
 ·exact hf (.inr ht)
end Go.AM
namespace Go.Proofs.Ytjlkapgpjamnkaa
open Go.AM
set_option maxHeartbeats 2000000
set_option maxRecDepth 20000
theorem cloneE_d{l:List Ex}(hl:l.length≤1099511627776)(h:Heap): ∃ v h1,(PCall Try.prog 127 [.imm 5 (Ex.rows l)] h fun r h'=>r=v∧h'=h1)∧Grow h h1∧h1.next≤h.next+1∧Cl h1 h.next 5 v (Ex.rows l):=by
 have hll:=Ex.rows_len l
 cases l with
 |nil=>exact⟨_,_,cloneE_q hl h,Grow.refl _,by omega,.inl ⟨rfl,rfl⟩⟩
 |cons x l=>
  refine⟨.own h.next 0 (Ex.rows (x::l)).length,h.new (.arr 5 (Ex.rows (x::l))),?_,(Grow.refl h).new _,Nat.le_refl _,Cl.grow (Nat.le_refl _) rfl⟩
  have h0:(0<(Ex.rows (x::l)).length)=True:=by rw[hll];simp
  have hb:((x::l).length)*88≤140737488355328:=by omega
  have hz:0+(Ex.rows (x::l)).length=(x::l).length:=by omega
  generalize Ex.rows (x::l)=R at hll h0 hz
  refine pcall_body (ow:=fun _=>false) (wf:=fun _=>false) Ty.mixed Try.func127 rfl Ty.hb_127 (by rw[Try.ntmps127];simp) ?_
  rw[Try.ntmps127,Try.results127]
  repeat'(first|refine a_seq fun K hK=>?_|((first|refine a_regionS ?_|refine a_ret ?_);simp(maxSteps:=2000000) only[Ty.w,simprocAttr,h0,hll,hb])|(refine a_skip ?_;try simp only[pst0,simprocAttr])|(refine a_cond _ (by(try simp(maxSteps:=2000000) only[Ty.w,simprocAttr,h0,hll,hb]);rfl) (fun hb=>?_) (fun hb=>?_)<;>(try simp only[hb0,decide_eq_true_eq,decide_eq_false_iff_not,simprocAttr]at hb)<;>(try(exfalso;omega)))|(refine hK _ _ ?_;clear hK;try simp only[pst0,simprocAttr])|(rw[if_pos];rotate_left 1;omega;simp(maxSteps:=2000000) only[Ty.w,simprocAttr,h0,hll,hb]))
  all_goals first|done|exact⟨rfl,rfl⟩|(rw[hll])
theorem cloneF_d{l:List Fm}(hl:l.length≤1099511627776)(h:Heap): ∃ v h1,(PCall Try.prog 128 [.imm 6 (Fm.rows l)] h fun r h'=>r=v∧h'=h1)∧Grow h h1∧h1.next≤h.next+1∧Cl h1 h.next 6 v (Fm.rows l):=by
 have hll:=Fm.rows_len l
 cases l with
 |nil=>exact⟨_,_,cloneF_q hl h,Grow.refl _,by omega,.inl ⟨rfl,rfl⟩⟩
 |cons x l=>
  refine⟨.own h.next 0 (Fm.rows (x::l)).length,h.new (.arr 6 (Fm.rows (x::l))),?_,(Grow.refl h).new _,Nat.le_refl _,Cl.grow (Nat.le_refl _) rfl⟩
  have h0:(0<(Fm.rows (x::l)).length)=True:=by rw[hll];simp
  have hb:((x::l).length)*128≤140737488355328:=by omega
  have hz:0+(Fm.rows (x::l)).length=(x::l).length:=by omega
  generalize Fm.rows (x::l)=R at hll h0 hz
  refine pcall_body (ow:=fun _=>false) (wf:=fun _=>false) Ty.mixed Try.func128 rfl Ty.hb_128 (by rw[Try.ntmps128];simp) ?_
  rw[Try.ntmps128,Try.results128]
  repeat'(first|refine a_seq fun K hK=>?_|((first|refine a_regionS ?_|refine a_ret ?_);simp(maxSteps:=2000000) only[Ty.w,simprocAttr,h0,hll,hb])|(refine a_skip ?_;try simp only[pst0,simprocAttr])|(refine a_cond _ (by(try simp(maxSteps:=2000000) only[Ty.w,simprocAttr,h0,hll,hb]);rfl) (fun hb=>?_) (fun hb=>?_)<;>(try simp only[hb0,decide_eq_true_eq,decide_eq_false_iff_not,simprocAttr]at hb)<;>(try(exfalso;omega)))|(refine hK _ _ ?_;clear hK;try simp only[pst0,simprocAttr])|(rw[if_pos];rotate_left 1;omega;simp(maxSteps:=2000000) only[Ty.w,simprocAttr,h0,hll,hb]))
  all_goals first|done|exact⟨rfl,rfl⟩|(rw[hll])
end Go.Proofs.Ytjlkapgpjamnkaa
